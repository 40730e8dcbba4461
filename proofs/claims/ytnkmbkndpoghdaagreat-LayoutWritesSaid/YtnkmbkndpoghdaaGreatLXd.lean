import Derived.Test.YtnkmbkndpoghdaaGreatLXc
namespace Go.Proofs.YtnkmbkndpoghdaaGreat
set_option linter.all false
open Go.SL Go.RowKit Go.Shelf
/-! ### rescriptref22.SameAcct; the law of what stays -/
theorem acct_eq' (a b : AcL) : a.er = b.er ↔ a.addr = b.addr ∧ a.nonce = b.nonce ∧ a.bal = b.bal ∧ a.code = b.code ∧ a.slots = b.slots := by
  unfold AcL.er
  simp
theorem same_no {a b : AcL} (h : ¬ a.addr = b.addr ∨ ¬ a.nonce = b.nonce ∨ ¬ a.bal = b.bal ∨ ¬ a.code = b.code ∨ ¬ a.slots.length = b.slots.length) : ¬ a.er = b.er := fun e => by
  obtain ⟨h1, h2, h3, h4, h5⟩ := (acct_eq' a b).1 e
  rcases h with h | h | h | h | h
  · exact h h1
  · exact h h2
  · exact h h3
  · exact h h4
  · exact h (by rw [h5])
set_option maxRecDepth 10000 in
theorem S_SameAcct {R : List (Nat × Obj)} {a b : AcL} (ha : a.In R) (hb : b.In R) : PureR Tryz.prog 41 [a.val, b.val].toArray (.bool (decide (a.er = b.er))) R := by
  have hl : a.slots.length ≤ 9223372036854775807 := ha.len
  have hl2 : b.slots.length ≤ 9223372036854775807 := hb.len
  have h1 := ha.seg
  have h2 := hb.seg
  refine pureR_of_HC Tryz.func41 rfl rfl fun w => ?_; refine HC_seq fun K1 hK1 => ?_; refine HC_region ?_; refine HL_box (cs := a.cells.toArray) rfl rfl rfl rfl fun ra => ?_; refine HL_box (cs := b.cells.toArray) rfl rfl rfl rfl fun rb => ?_; refine HL_r rfl rfl rfl rfl (R_assign rfl) ?_; refine HL_nil ?_; refine HQ_then ?_; refine hK1 _ _ _ _ ?_; clear hK1 K1; refine HC_seq fun K2 hK2 => ?_; refine HC_seq fun K3 hK3 => ?_; refine HC_region ?_
  refine HL_r rfl rfl rfl rfl (R_fieldAddr rfl rfl (by first | (simp only [Nat.zero_add, Nat.reduceAdd, Nat.reduceMul, Nat.zero_mul, Nat.mul_one, Nat.add_zero]; exact rfl) | exact rfl)) ?_; refine HL_r rfl rfl rfl rfl (R_load rfl (known_L (k := 1) rfl) rfl rfl) ?_
  refine HL_r rfl rfl rfl rfl (R_fieldAddr rfl rfl (by first | (simp only [Nat.zero_add, Nat.reduceAdd, Nat.reduceMul, Nat.zero_mul, Nat.mul_one, Nat.add_zero]; exact rfl) | exact rfl)) ?_; refine HL_r rfl rfl rfl rfl (R_load rfl (known_L (k := 0) rfl) rfl rfl) ?_; refine HL_r rfl rfl rfl rfl (R_strNe rfl rfl) ?_; refine HL_r rfl rfl rfl rfl (R_move rfl) ?_
  refine HL_case 11 rfl (fun hb4 => ?_) (fun hb4 => ?_) <;> (try simp only [Z1, Z2, Z3, Z4, Z5, Z6, Z7, Z8, Z9, Z10, Z11, Z12, Z13] at hb4) <;> first | (refine HL_r rfl rfl rfl rfl (R_fieldAddr rfl rfl (by first | (simp only [Nat.zero_add, Nat.reduceAdd, Nat.reduceMul, Nat.zero_mul, Nat.mul_one, Nat.add_zero]; exact rfl) | exact rfl)) ?_) | (refine HL_skip rfl rfl rfl ?_)
  all_goals first
    | (refine HL_r rfl rfl rfl rfl (R_load rfl (known_L (k := 1) rfl) rfl rfl) ?_)
    | (refine HL_skip rfl rfl rfl ?_)
  all_goals first
    | (refine HL_r rfl rfl rfl rfl (R_fieldAddr rfl rfl (by first | (simp only [Nat.zero_add, Nat.reduceAdd, Nat.reduceMul, Nat.zero_mul, Nat.mul_one, Nat.add_zero]; exact rfl) | exact rfl)) ?_)
    | (refine HL_skip rfl rfl rfl ?_)
  all_goals first
    | (refine HL_r rfl rfl rfl rfl (R_load rfl (known_L (k := 0) rfl) rfl rfl) ?_)
    | (refine HL_skip rfl rfl rfl ?_)
  all_goals first
    | (refine HL_r rfl rfl rfl rfl (R_pure rfl rfl rfl) ?_)
    | (refine HL_skip rfl rfl rfl ?_)
  all_goals first | (refine HL_as (congrArg (fun b => Value.bool (!b)) (eqU a.nonce b.nonce)) ?_) | skip
  all_goals first
    | (refine HL_r rfl rfl rfl rfl (R_pickT rfl rfl) ?_)
    | (refine HL_r rfl rfl rfl rfl (R_pickF rfl rfl) ?_)
  all_goals refine HL_r rfl rfl rfl rfl (R_move rfl) ?_
  all_goals first
    | (refine HL_skip rfl rfl rfl ?_)
    | (refine HL_case 18 rfl (fun hb9 => ?_) (fun hb9 => ?_) <;> (try simp only [Z1, Z2, Z3, Z4, Z5, Z6, Z7, Z8, Z9, Z10, Z11, Z12, Z13] at hb9) <;> first | (refine HL_r rfl rfl rfl rfl (R_fieldAddr rfl rfl (by first | (simp only [Nat.zero_add, Nat.reduceAdd, Nat.reduceMul, Nat.zero_mul, Nat.mul_one, Nat.add_zero]; exact rfl) | exact rfl)) ?_) | (refine HL_skip rfl rfl rfl ?_))
  all_goals first
    | (refine HL_r rfl rfl rfl rfl (R_loadA (vs := [_, _, _, _]) rfl (known_L (k := 1) rfl) rfl rfl rfl rfl) ?_)
    | (refine HL_skip rfl rfl rfl ?_)
  all_goals first
    | (refine HL_r rfl rfl rfl rfl (R_fieldAddr rfl rfl (by first | (simp only [Nat.zero_add, Nat.reduceAdd, Nat.reduceMul, Nat.zero_mul, Nat.mul_one, Nat.add_zero]; exact rfl) | exact rfl)) ?_)
    | (refine HL_skip rfl rfl rfl ?_)
  all_goals first
    | (refine HL_r rfl rfl rfl rfl (R_loadA (vs := [_, _, _, _]) rfl (known_L (k := 0) rfl) rfl rfl rfl rfl) ?_)
    | (refine HL_skip rfl rfl rfl ?_)
  all_goals first
    | (refine HL_r rfl rfl rfl rfl (R_neArr rfl rfl rfl rfl rfl (by kernel_rfl) rfl rfl rfl rfl) ?_)
    | (refine HL_skip rfl rfl rfl ?_)
  all_goals first | (refine HL_as (congrArg (fun b => Value.bool (!b)) (eqW a.bal b.bal)) ?_) | skip
  all_goals first
    | (refine HL_r rfl rfl rfl rfl (R_pickT rfl rfl) ?_)
    | (refine HL_r rfl rfl rfl rfl (R_pickF rfl rfl) ?_)
  all_goals refine HL_r rfl rfl rfl rfl (R_move rfl) ?_
  all_goals first
    | (refine HL_skip rfl rfl rfl ?_)
    | (refine HL_case 25 rfl (fun hb14 => ?_) (fun hb14 => ?_) <;> (try simp only [Z1, Z2, Z3, Z4, Z5, Z6, Z7, Z8, Z9, Z10, Z11, Z12, Z13] at hb14) <;> first | (refine HL_r rfl rfl rfl rfl (R_fieldAddr rfl rfl (by first | (simp only [Nat.zero_add, Nat.reduceAdd, Nat.reduceMul, Nat.zero_mul, Nat.mul_one, Nat.add_zero]; exact rfl) | exact rfl)) ?_) | (refine HL_skip rfl rfl rfl ?_))
  all_goals first
    | (refine HL_r rfl rfl rfl rfl (R_load rfl (known_L (k := 1) rfl) rfl rfl) ?_)
    | (refine HL_skip rfl rfl rfl ?_)
  all_goals first
    | (refine HL_r rfl rfl rfl rfl (R_fieldAddr rfl rfl (by first | (simp only [Nat.zero_add, Nat.reduceAdd, Nat.reduceMul, Nat.zero_mul, Nat.mul_one, Nat.add_zero]; exact rfl) | exact rfl)) ?_)
    | (refine HL_skip rfl rfl rfl ?_)
  all_goals first
    | (refine HL_r rfl rfl rfl rfl (R_load rfl (known_L (k := 0) rfl) rfl rfl) ?_)
    | (refine HL_skip rfl rfl rfl ?_)
  all_goals first
    | (refine HL_r rfl rfl rfl rfl (R_strNe rfl rfl) ?_)
    | (refine HL_skip rfl rfl rfl ?_)
  all_goals first
    | (refine HL_r rfl rfl rfl rfl (R_pickT rfl rfl) ?_)
    | (refine HL_r rfl rfl rfl rfl (R_pickF rfl rfl) ?_)
  all_goals refine HL_r rfl rfl rfl rfl (R_move rfl) ?_
  all_goals first
    | (refine HL_skip rfl rfl rfl ?_)
    | (refine HL_case 32 rfl (fun hb19 => ?_) (fun hb19 => ?_) <;> (try simp only [Z1, Z2, Z3, Z4, Z5, Z6, Z7, Z8, Z9, Z10, Z11, Z12, Z13] at hb19) <;> first | (refine HL_r rfl rfl rfl rfl (R_fieldAddr rfl rfl (by first | (simp only [Nat.zero_add, Nat.reduceAdd, Nat.reduceMul, Nat.zero_mul, Nat.mul_one, Nat.add_zero]; exact rfl) | exact rfl)) ?_) | (refine HL_skip rfl rfl rfl ?_))
  all_goals first
    | (refine HL_r rfl rfl rfl rfl (R_load rfl (known_L (k := 1) rfl) rfl rfl) ?_)
    | (refine HL_skip rfl rfl rfl ?_)
  all_goals first
    | (refine HL_r rfl rfl rfl rfl (R_lenPl rfl h1 rfl) ?_)
    | (refine HL_skip rfl rfl rfl ?_)
  all_goals first
    | (refine HL_r rfl rfl rfl rfl (R_fieldAddr rfl rfl (by first | (simp only [Nat.zero_add, Nat.reduceAdd, Nat.reduceMul, Nat.zero_mul, Nat.mul_one, Nat.add_zero]; exact rfl) | exact rfl)) ?_)
    | (refine HL_skip rfl rfl rfl ?_)
  all_goals first
    | (refine HL_r rfl rfl rfl rfl (R_load rfl (known_L (k := 0) rfl) rfl rfl) ?_)
    | (refine HL_skip rfl rfl rfl ?_)
  all_goals first
    | (refine HL_r rfl rfl rfl rfl (R_lenPl rfl h2 rfl) ?_)
    | (refine HL_skip rfl rfl rfl ?_)
  all_goals first
    | (refine HL_r rfl rfl rfl rfl (R_pure rfl rfl rfl) ?_)
    | (refine HL_skip rfl rfl rfl ?_)
  all_goals first
    | (refine HL_r rfl rfl rfl rfl (R_pickT rfl rfl) ?_)
    | (refine HL_r rfl rfl rfl rfl (R_pickF rfl rfl) ?_)
  all_goals refine HL_nil ?_
  all_goals (
   refine HQ_then ?_; refine hK3 _ _ _ _ ?_; clear hK3 K3; refine HC_cond rfl (fun h26 => ?_) (fun h26 => ?_)
   · try exact Bool.noConfusion h26
     try simp only [Z1, Z2, Z3, Z4, Z5, Z6, Z7, Z8, Z9, Z10, Z11, Z12, Z13] at h26
     refine HC_seq fun K27 hK27 => ?_; refine HC_region ?_; refine HL_r rfl rfl rfl rfl (R_assign rfl) ?_; refine HL_nil ?_; refine HQ_then ?_; refine hK27 _ _ _ _ ?_; clear hK27 K27; refine HC_ret ?_; refine HQ_thenR ?_; clear hK2 K2; refine HQ_post rfl rfl (.cons (res_tmp rfl) .nil) (fun w1 hs1 => ?_); refine ⟨?_, hs1.keep⟩
     first
       | (rw [decide_eq_false (same_no (.inl (by assumption)))]; rfl)
       | (rw [decide_eq_false (same_no (.inr (.inl (by assumption))))]; rfl)
       | (rw [decide_eq_false (same_no (.inr (.inr (.inl (by assumption)))))]; rfl)
       | (rw [decide_eq_false (same_no (.inr (.inr (.inr (.inl (by assumption))))))]; rfl)
       | (rw [decide_eq_false (same_no (.inr (.inr (.inr (.inr (by omega))))))]; rfl)
   · try exact Bool.noConfusion h26
     all_goals try simp only [Z1, Z2, Z3, Z4, Z5, Z6, Z7, Z8, Z9, Z10, Z11, Z12, Z13] at h26
     all_goals (
      refine HC_skip ?_; refine HQ_then ?_; refine hK2 _ _ _ _ ?_; clear hK2 K2; refine HC_seq fun K28 hK28 => ?_; refine HC_seq fun K29 hK29 => ?_; refine HC_region ?_; refine HL_r rfl rfl rfl rfl (R_assign rfl) ?_; refine HL_nil ?_; refine HQ_then ?_; refine hK29 _ _ _ _ ?_; clear hK29 K29; refine HC_block ?_
      have hll : a.slots.length = b.slots.length := by omega
      have hflat : a.addr = b.addr ∧ a.nonce = b.nonce ∧ a.bal = b.bal ∧ a.code = b.code := by simp_all
      refine HC_loop (σ := Nat) (fun i => i ≤ a.slots.length ∧ ∀ j, j < i → a.slots[j]? = b.slots[j]?) (fun i => [(2, ptV ra 0), (3, ptV rb 0), (5, .int .i64 (i : Int))]) (fun _ => [(rb, .cells b.cells.toArray 55 (0, 0)), (ra, .cells a.cells.toArray 55 (0, 0))]) (fun _ _ _ => True) (fun i => a.slots.length - i) 0 ⟨by omega, fun j hj => absurd hj (by omega)⟩ (.cons rfl (.cons rfl (.cons rfl .nil))) (List.Sublist.refl _) (fun _ _ h => h) ?_; rintro i ⟨hi1, hinv⟩; refine HC_seq fun K30 hK30 => ?_; refine HC_seq fun K31 hK31 => ?_; refine HC_region ?_; refine HL_r rfl rfl rfl rfl (R_move rfl) ?_
      refine HL_r rfl rfl rfl rfl (R_fieldAddr rfl rfl (by first | (simp only [Nat.zero_add, Nat.reduceAdd, Nat.reduceMul, Nat.zero_mul, Nat.mul_one, Nat.add_zero]; exact rfl) | exact rfl)) ?_; refine HL_r rfl rfl rfl rfl (R_load rfl (known_L (k := 1) rfl) rfl rfl) ?_; refine HL_r rfl rfl rfl rfl (R_lenPl rfl h1 rfl) ?_; refine HL_r rfl rfl rfl rfl (R_pure rfl rfl rfl) ?_; refine HL_nil ?_; refine HQ_then ?_; refine hK31 _ _ _ _ ?_; clear hK31 K31; refine HC_cond rfl (fun h32 => ?_) (fun h32 => ?_)
      · try exact Bool.noConfusion h32
        try simp only [Z1, Z2, Z3, Z4, Z5, Z6, Z7, Z8, Z9, Z10, Z11, Z12, Z13] at h32
        refine HC_skip ?_; refine HQ_then ?_; refine hK30 _ _ _ _ ?_; clear hK30 K30; refine HC_seq fun K33 hK33 => ?_; refine HC_block ?_; refine HC_seq fun K34 hK34 => ?_
        obtain ⟨x, hx, hmx⟩ := getI (show i < a.slots.length by omega)
        obtain ⟨y, hy, hmy⟩ := getI (show i < b.slots.length by omega)
        refine HC_draw 11 (by kernel_rfl) (by kernel_rfl) ?_
        refine HD_r rfl rfl rfl (R_fieldAddr rfl rfl (by first | (simp only [Nat.zero_add, Nat.reduceAdd, Nat.reduceMul, Nat.zero_mul, Nat.mul_one, Nat.add_zero]; exact rfl) | exact rfl)) ?_; refine HD_r rfl rfl rfl (R_load rfl (known_L (k := 1) rfl) rfl rfl) ?_; refine HD_r rfl rfl rfl (R_move rfl) ?_
        refine HD_r rfl rfl rfl (R_indexPl (j := i) rfl h1 rfl rfl rfl (by first | rfl | omega) (by omega)) ?_; refine HD_r rfl rfl rfl (R_loadEl slC_len (fun q hq => Or.inr hq) rfl h1 hx rfl rfl) ?_
        refine HD_r rfl rfl rfl (R_fieldAddr rfl rfl (by first | (simp only [Nat.zero_add, Nat.reduceAdd, Nat.reduceMul, Nat.zero_mul, Nat.mul_one, Nat.add_zero]; exact rfl) | exact rfl)) ?_; refine HD_r rfl rfl rfl (R_load rfl (known_L (k := 0) rfl) rfl rfl) ?_; refine HD_r rfl rfl rfl (R_move rfl) ?_
        refine HD_r rfl rfl rfl (R_indexPl (j := i) rfl h2 rfl rfl rfl (by first | rfl | omega) (by omega)) ?_; refine HD_r rfl rfl rfl (R_loadEl slC_len (fun q hq => Or.inr hq) rfl h2 hy rfl rfl) ?_; refine HD_r rfl rfl rfl (R_neStr rfl rfl rfl (by kernel_rfl) (by kernel_rfl) (.scal (by decide) rfl rfl rfl rfl rfl (.scal (by decide) rfl rfl rfl rfl rfl .nil))) ?_; refine HD_as (congrArg (fun b => Value.bool (!b)) (slot_eq x y)) ?_; refine HD_end ?_; refine HL_nil ?_; refine HQ_then ?_; refine hK34 _ _ _ _ ?_; clear hK34 K34; refine HC_cond rfl (fun h35 => ?_) (fun h35 => ?_)
        · try exact Bool.noConfusion h35
          try simp only [Z1, Z2, Z3, Z4, Z5, Z6, Z7, Z8, Z9, Z10, Z11, Z12, Z13] at h35
          refine HC_seq fun K36 hK36 => ?_; refine HC_region ?_; refine HL_r rfl rfl rfl rfl (R_assign rfl) ?_; refine HL_nil ?_; refine HQ_then ?_; refine hK36 _ _ _ _ ?_; clear hK36 K36; refine HC_ret ?_; refine HQ_blockR ?_; refine HQ_thenR ?_; clear hK33 K33; refine HQ_thenR ?_; refine HQ_blockR ?_; refine HQ_thenR ?_; clear hK28 K28; refine HQ_post rfl rfl (.cons (res_tmp rfl) .nil) (fun w1 hs1 => ?_); refine ⟨?_, hs1.keep⟩; rw [decide_eq_false (show ¬ a.er = b.er from fun e => lst_ne hx hy (by simp_all) ((acct_eq' a b).1 e).2.2.2.2)]; rfl
        · try exact Bool.noConfusion h35
          try simp only [Z1, Z2, Z3, Z4, Z5, Z6, Z7, Z8, Z9, Z10, Z11, Z12, Z13] at h35
          refine HC_skip ?_; refine HQ_blockN ?_; refine HQ_then ?_; refine hK33 _ _ _ _ ?_; clear hK33 K33; refine HC_region ?_; refine HL_r rfl rfl rfl rfl (R_move rfl) ?_; refine HL_r rfl rfl rfl rfl (R_pure rfl rfl rfl) ?_; refine HL_wrap_i64 (by omega) (by omega) ?_; refine HL_r rfl rfl rfl rfl (R_assign rfl) ?_; refine HL_nil ?_; refine HQ_then ?_
          exact HQ_again (i + 1) ⟨by omega, fun j hj => by
            rcases Nat.lt_succ_iff_lt_or_eq.1 hj with hj | rfl
            · exact hinv j hj
            · rw [hx, hy]; simp_all⟩ (by omega) (.cons rfl (.cons rfl (.cons rfl .nil))) (List.Sublist.refl _) (fun _ _ h => h)
      · try exact Bool.noConfusion h32
        try simp only [Z1, Z2, Z3, Z4, Z5, Z6, Z7, Z8, Z9, Z10, Z11, Z12, Z13] at h32
        refine HC_exit ?_; refine HQ_thenE ?_; clear hK30 K30; refine HQ_thenE ?_; refine HQ_blockE ?_; refine HQ_then ?_; refine hK28 _ _ _ _ ?_; clear hK28 K28; refine HC_seq fun K37 hK37 => ?_; refine HC_region ?_; refine HL_r rfl rfl rfl rfl (R_assign rfl) ?_; refine HL_nil ?_; refine HQ_then ?_; refine hK37 _ _ _ _ ?_; clear hK37 K37; refine HC_ret ?_; refine HQ_post rfl rfl (.cons (res_tmp rfl) .nil) (fun w1 hs1 => ?_); refine ⟨?_, hs1.keep⟩; rw [decide_eq_true ((acct_eq' a b).2 ⟨hflat.1, hflat.2.1, hflat.2.2.1, hflat.2.2.2, lst_eq hll (by omega) hinv⟩)]; rfl
      skip)
   skip)
/-- What stays, as the accounts that are found. -/
structure Stay (s t : StL) (a key : BS) : Prop where
  there : foundB s a = true → foundB t a = true
  oth : a ≠ A0 → a ≠ A1 → foundB s a = foundB t a ∧ (findL s a).er = (findL t a).er
  nonce : (findL s a).nonce = (findL t a).nonce
  bal : (findL s a).bal = (findL t a).bal
  slot : (a = A0 → ¬ Tabled key) → slotE (findL s a).er key = slotE (findL t a).er key
end Go.Proofs.YtnkmbkndpoghdaaGreat
namespace Go.Proofs.YtnkmbkndpoghdaaGreat
set_option linter.all false
open Go.SL Go.RowKit Go.Shelf
/-! ### the reference of states: None, Slot, Find, acct, Check, Same -/
set_option maxRecDepth 10000 in
theorem P_rNone : Pure Tryz.prog 61 [].toArray (strV noneB) := by
  refine pure_of_HC Tryz.func61 rfl rfl fun w => ?_; refine HC_seq fun K1 hK1 => ?_; refine HC_region ?_; refine HL_r rfl rfl rfl rfl (R_assign rfl) ?_; refine HL_nil ?_; refine HQ_then ?_; refine hK1 _ _ _ _ ?_; clear hK1 K1; refine HC_seq fun K2 hK2 => ?_; refine HC_region ?_; refine HL_make (n := 32) (b := 1) rfl rfl rfl rfl rfl rfl rfl rfl rfl (by decide) (by decide) fun r1 => ?_; refine HL_r rfl rfl rfl rfl (R_bytesStr (b := noneB) (row := some (r1, 32, [])) (e := 5) rfl ⟨rfl, rfl⟩ (fun p hp => .inl (by rw [List.mem_singleton.1 hp]; exact List.mem_cons_self)) rfl rfl rfl) ?_; refine HL_r rfl rfl rfl rfl (R_assign rfl) ?_; refine HL_nil ?_; refine HQ_then ?_; refine hK2 _ _ _ _ ?_; clear hK2 K2; refine HC_ret ?_; refine HQ_post rfl rfl (.cons (res_tmp rfl) .nil) (fun w1 hs1 => ?_); exact ⟨rfl, hs1.keep⟩
set_option maxRecDepth 10000 in
theorem S_rFind {R : List (Nat × Obj)} {s : StL} (hs : s.In R) (k : BS) : PureR Tryz.prog 54 [s.val, strV k].toArray (.tuple #[(findL s k).val, .bool (foundB s k)]) R := by
  have hl : s.accts.length ≤ 9223372036854775807 := hs.len
  have hseg := hs.seg
  unfold findL foundB
  obtain ⟨res, hres⟩ : ∃ r, r = s.accts.find? fun a => decide (a.addr = k) := ⟨_, rfl⟩
  rw [← hres]; refine pureR_of_HC Tryz.func54 rfl rfl fun w => ?_; refine HC_seq fun K1 hK1 => ?_; refine HC_region ?_; refine HL_box (cs := s.cells.toArray) rfl rfl rfl rfl fun rs => ?_; refine HL_alloc (cs := #[_, _, _, _, _, _, _, _]) rfl rfl rfl rfl fun r1 => ?_; refine HL_r rfl rfl rfl rfl (R_assign rfl) ?_; refine HL_nil ?_; refine HQ_then ?_; refine hK1 _ _ _ _ ?_; clear hK1 K1; refine HC_seq fun K2 hK2 => ?_; refine HC_seq fun K3 hK3 => ?_; refine HC_region ?_; refine HL_r rfl rfl rfl rfl (R_assign rfl) ?_; refine HL_nil ?_; refine HQ_then ?_; refine hK3 _ _ _ _ ?_; clear hK3 K3; refine HC_block ?_; refine HC_loop (σ := Nat) (fun i => i ≤ s.accts.length ∧ res = (s.accts.drop i).find? fun a => decide (a.addr = k)) (fun i => [(1, strV k), (2, ptV rs 0), (4, ptV r1 0), (6, .int .i64 (i : Int))]) (fun _ => [(r1, .cells ac0L.cells.toArray 55 (0, 0)), (rs, .cells s.cells.toArray 24 (0, 0))]) (fun _ _ _ => True) (fun i => s.accts.length - i) 0 ⟨Nat.zero_le _, hres⟩ (.cons rfl (.cons rfl (.cons rfl (.cons rfl .nil)))) (List.Sublist.refl _) (fun _ _ h => h) ?_; rintro i ⟨hi1, hinv⟩; refine HC_seq fun K4 hK4 => ?_; refine HC_seq fun K5 hK5 => ?_; refine HC_region ?_; refine HL_r rfl rfl rfl rfl (R_move rfl) ?_
  refine HL_r rfl rfl rfl rfl (R_fieldAddr rfl rfl (by first | (simp only [Nat.zero_add, Nat.reduceAdd, Nat.reduceMul, Nat.zero_mul, Nat.mul_one, Nat.add_zero]; exact rfl) | exact rfl)) ?_; refine HL_r rfl rfl rfl rfl (R_load rfl (known_L (k := 1) rfl) rfl rfl) ?_; refine HL_r rfl rfl rfl rfl (R_lenPl rfl hseg rfl) ?_; refine HL_r rfl rfl rfl rfl (R_pure rfl rfl rfl) ?_; refine HL_nil ?_; refine HQ_then ?_; refine hK5 _ _ _ _ ?_; clear hK5 K5; refine HC_cond rfl (fun h6 => ?_) (fun h6 => ?_)
  · try exact Bool.noConfusion h6
    try simp only [Z1, Z2, Z3, Z4, Z5, Z6, Z7, Z8, Z9, Z10, Z11, Z12, Z13] at h6
    refine HC_skip ?_; refine HQ_then ?_; refine hK4 _ _ _ _ ?_; clear hK4 K4; refine HC_seq fun K7 hK7 => ?_; refine HC_block ?_; refine HC_seq fun K8 hK8 => ?_
    obtain ⟨a, ha, hma⟩ := getI (show i < s.accts.length by omega)
    rw [dropI ha, List.find?_cons] at hinv; refine HC_region ?_
    refine HL_r rfl rfl rfl rfl (R_fieldAddr rfl rfl (by first | (simp only [Nat.zero_add, Nat.reduceAdd, Nat.reduceMul, Nat.zero_mul, Nat.mul_one, Nat.add_zero]; exact rfl) | exact rfl)) ?_; refine HL_r rfl rfl rfl rfl (R_load rfl (known_L (k := 1) rfl) rfl rfl) ?_; refine HL_r rfl rfl rfl rfl (R_move rfl) ?_
    refine HL_r rfl rfl rfl rfl (R_indexPl (j := i) rfl hseg rfl rfl rfl (by first | rfl | omega) (by omega)) ?_; refine HL_r rfl rfl rfl rfl (R_fieldAddr (off' := plO s.p + (i * 8 + 0)) rfl rfl (by show plO s.p + i * 8 + 0 = _; omega)) ?_; refine HL_r rfl rfl rfl rfl (R_loadEf AcL.len (k := 0) (v := strV a.addr) (fun q hq => Or.inr hq) rfl hseg ha rfl rfl) ?_; refine HL_r rfl rfl rfl rfl (R_move rfl) ?_; refine HL_r rfl rfl rfl rfl (R_strEq rfl rfl) ?_; refine HL_nil ?_; refine HQ_then ?_; refine hK8 _ _ _ _ ?_; clear hK8 K8; refine HC_cond rfl (fun h9 => ?_) (fun h9 => ?_)
    · try exact Bool.noConfusion h9
      try simp only [Z1, Z2, Z3, Z4, Z5, Z6, Z7, Z8, Z9, Z10, Z11, Z12, Z13] at h9
      refine HC_seq fun K10 hK10 => ?_; refine HC_region ?_
      refine HL_r rfl rfl rfl rfl (R_fieldAddr rfl rfl (by first | (simp only [Nat.zero_add, Nat.reduceAdd, Nat.reduceMul, Nat.zero_mul, Nat.mul_one, Nat.add_zero]; exact rfl) | exact rfl)) ?_; refine HL_r rfl rfl rfl rfl (R_load rfl (known_L (k := 1) rfl) rfl rfl) ?_; refine HL_r rfl rfl rfl rfl (R_move rfl) ?_
      refine HL_r rfl rfl rfl rfl (R_indexPl (j := i) rfl hseg rfl rfl rfl (by first | rfl | omega) (by omega)) ?_; refine HL_r rfl rfl rfl rfl (R_loadEl AcL.len (fun q hq => Or.inr hq) rfl hseg ha rfl rfl) ?_; refine HL_storeArr (k := 0) (n := 8) (ys := (a).cells) rfl rfl rfl rfl rfl rfl rfl rfl rfl ?_; refine HL_r rfl rfl rfl rfl (R_assign rfl) ?_; refine HL_nil ?_; refine HQ_then ?_; refine hK10 _ _ _ _ ?_; clear hK10 K10; refine HC_ret ?_; refine HQ_blockR ?_; refine HQ_thenR ?_; clear hK7 K7; refine HQ_thenR ?_; refine HQ_blockR ?_; refine HQ_thenR ?_; clear hK2 K2; refine HQ_post rfl rfl (.cons (res_cellA (vs := [_, _, _, _, _, _, _, _]) rfl (known_L (k := 0) rfl) rfl rfl) (.cons (res_tmp rfl) .nil)) (fun w1 hs1 => ?_); refine ⟨?_, hs1.keep⟩; rw [show decide (a.addr = k) = true from decide_eq_true (by assumption)] at hinv; rw [hinv]; rfl
    · try exact Bool.noConfusion h9
      try simp only [Z1, Z2, Z3, Z4, Z5, Z6, Z7, Z8, Z9, Z10, Z11, Z12, Z13] at h9
      refine HC_skip ?_; refine HQ_blockN ?_; refine HQ_then ?_; refine hK7 _ _ _ _ ?_; clear hK7 K7; refine HC_region ?_; refine HL_r rfl rfl rfl rfl (R_move rfl) ?_; refine HL_r rfl rfl rfl rfl (R_pure rfl rfl rfl) ?_; refine HL_wrap_i64 (by omega) (by omega) ?_; refine HL_r rfl rfl rfl rfl (R_assign rfl) ?_; refine HL_nil ?_; refine HQ_then ?_; rw [show decide (a.addr = k) = false from decide_eq_false (by assumption)] at hinv; exact HQ_again (i + 1) ⟨by omega, hinv⟩ (by omega) (.cons rfl (.cons rfl (.cons rfl (.cons rfl .nil)))) (List.Sublist.refl _) (fun _ _ h => h)
  · try exact Bool.noConfusion h6
    try simp only [Z1, Z2, Z3, Z4, Z5, Z6, Z7, Z8, Z9, Z10, Z11, Z12, Z13] at h6
    refine HC_exit ?_; refine HQ_thenE ?_; clear hK4 K4; refine HQ_thenE ?_; refine HQ_blockE ?_; refine HQ_then ?_; refine hK2 _ _ _ _ ?_; clear hK2 K2; refine HC_seq fun K11 hK11 => ?_; refine HC_region ?_; refine HL_r rfl rfl rfl rfl (R_build (r := [_, _, _, _, _, _, _, _]) rfl rfl) ?_; refine HL_storeArr (k := 0) (n := 8) (ys := (ac0L).cells) rfl rfl rfl rfl rfl rfl rfl rfl rfl ?_; refine HL_r rfl rfl rfl rfl (R_assign rfl) ?_; refine HL_nil ?_; refine HQ_then ?_; refine hK11 _ _ _ _ ?_; clear hK11 K11; refine HC_ret ?_; refine HQ_post rfl rfl (.cons (res_cellA (vs := [_, _, _, _, _, _, _, _]) rfl (known_L (k := 0) rfl) rfl rfl) (.cons (res_tmp rfl) .nil)) (fun w1 hs1 => ?_); refine ⟨?_, hs1.keep⟩; rw [List.drop_of_length_le (by omega)] at hinv; rw [hinv]; rfl
/-! acct -/
def rackR (p : Option BS) (a : AcE) : Bool := p.isNone || Op.bytesLess (p.getD []) a.addr
theorem rack_step (p : Option BS) (a : AcE) : stepE p a = if a.slots.any oddS = true ∨ a.addr.length ≠ 20 then 2 else if (rackR p a && risesB Prod.fst a.slots) = false then 11 else if a.code.length > 512 ∨ a.slots.length > 16 then 5 else if a.slots.any spareS = true then 8 else 0 := by
  by_cases h : a.slots.any oddS = true ∨ a.addr.length ≠ 20
  · have e : lkE a = 2 := by unfold lkE; rw [if_pos (h.elim Or.inr Or.inl)]
    rw [if_pos h, step_lk (.inl e), e]
  rw [if_neg h]
  have h' : ¬ (a.addr.length ≠ 20 ∨ a.slots.any oddS = true) := fun hh => h (hh.elim Or.inr Or.inl)
  have e : lkE a = if risesB Prod.fst a.slots = false then 11 else if a.code.length > 512 ∨ a.slots.length > 16 then 5 else if a.slots.any spareS = true then 8 else 0 := by unfold lkE; rw [if_neg h']
  cases hr : risesB Prod.fst a.slots
  · rw [hr, if_pos rfl] at e
    rw [Bool.and_false, if_pos rfl]
    unfold stepE
    split
    · rfl
    · exact e
  rw [hr, if_neg (by simp)] at e
  have h2 : lkE a ≠ 2 := by
    rw [e]
    split
    · decide
    · split <;> decide
  cases p with
  | none =>
    rw [step_none, e]
    rfl
  | some b =>
    show stepE (some b) a = if ((false || Op.bytesLess b a.addr) && true) = false then 11 else _
    cases hb : Op.bytesLess b a.addr
    · rw [step_11 h2 rfl hb]; rfl
    · rw [step_lk (.inr (.inr ⟨b, rfl, hb⟩)), e]; rfl
theorem any_at {α : Type} {p : α → Bool} {l : List α} {j : Nat} {x : α} (h : l[j]? = some x) (hp : p x = true) : l.any p = true := List.any_eq_true.2 ⟨x, List.mem_of_getElem? h, hp⟩
theorem any_none {α : Type} {p : α → Bool} {l : List α} (h : ∀ (j : Nat) x, l[j]? = some x → p x = false) : l.any p = false := by
  rw [List.any_eq_false]; intro x hx
  obtain ⟨j, hj⟩ := List.getElem?_of_mem hx
  rw [h j x hj]; simp
structure RackI (a : AcL) (rb : Bool) (i : Nat) (rs sp : Bool) : Prop where
  le : i ≤ a.slots.length
  odd : ∀ (j : Nat) x, j < i → a.slots[j]? = some x → oddS x = false
  rs : rs = true ↔ rb = true ∧ ∀ (j : Nat) x y, j + 1 < i → a.slots[j]? = some x → a.slots[j + 1]? = some y → Op.bytesLess x.1 y.1 = true
  sp : sp = true ↔ ∃ (j : Nat) (x : BS × BS), j < i ∧ a.slots[j]? = some x ∧ x.2 = noneB
theorem RackI.zero (a : AcL) (rb : Bool) : RackI a rb 0 rb false := ⟨Nat.zero_le _, fun _ _ h => absurd h (Nat.not_lt_zero _), by simp, by simp⟩
theorem RackI.next {a : AcL} {rb : Bool} {i : Nat} {rs sp rs' sp' : Bool} {x : BS × BS} (h : RackI a rb i rs sp) (hx : a.slots[i]? = some x) (ho : x.1.length = 32 ∧ x.2.length = 32)
    (hr : rs' = (rs && (decide (i = 0) || Op.bytesLess ((a.slots[i - 1]?.map Prod.fst).getD []) x.1))) (hp : sp' = (sp || decide (x.2 = noneB))) : RackI a rb (i + 1) rs' sp' := by
  have hlt := (List.getElem?_eq_some_iff.1 hx).1
  refine ⟨hlt, fun j y hj hy => ?_, ?_, ?_⟩
  · rcases Nat.lt_succ_iff_lt_or_eq.1 hj with hj | rfl
    · exact h.odd j y hj hy
    · rw [hx] at hy; cases hy
      unfold oddS; simp [ho.1, ho.2]
  · rw [hr, Bool.and_eq_true, h.rs, Bool.or_eq_true, decide_eq_true_eq]
    constructor
    · rintro ⟨⟨h1, h2⟩, h3⟩
      refine ⟨h1, fun j u v hj hu hv => ?_⟩
      rcases Nat.lt_succ_iff_lt_or_eq.1 hj with hj | hj
      · exact h2 j u v hj hu hv
      · subst hj
        rw [hx] at hv; cases hv; rw [show j + 1 - 1 = j by omega, hu] at h3; exact h3.resolve_left (by omega)
    · rintro ⟨h1, h2⟩
      refine ⟨⟨h1, fun j u v hj hu hv => h2 j u v (by omega) hu hv⟩, ?_⟩
      rcases Nat.eq_zero_or_pos i with h0 | h0
      · exact .inl h0
      · obtain ⟨j, rfl⟩ : ∃ j, i = j + 1 := ⟨i - 1, by omega⟩
        obtain ⟨u, hu, -⟩ := getI (show j < a.slots.length by omega)
        rw [show j + 1 - 1 = j by omega, hu]; exact .inr (h2 j u x (by omega) hu hx)
  · rw [hp, Bool.or_eq_true, h.sp, decide_eq_true_eq]
    constructor
    · rintro (⟨j, u, hj, hu, e⟩ | e)
      · exact ⟨j, u, by omega, hu, e⟩
      · exact ⟨i, x, by omega, hx, e⟩
    · rintro ⟨j, u, hj, hu, e⟩
      rcases Nat.lt_succ_iff_lt_or_eq.1 hj with hj | rfl
      · exact .inl ⟨j, u, hj, hu, e⟩
      · rw [hx] at hu; cases hu; exact .inr e
theorem RackI.done {a : AcL} {rb : Bool} {rs sp : Bool} (h : RackI a rb a.slots.length rs sp) : a.slots.any oddS = false ∧ rs = (rb && risesB Prod.fst a.slots) ∧ sp = a.slots.any spareS := by
  have hlt : ∀ (j : Nat) (x : BS × BS), a.slots[j]? = some x → j < a.slots.length := fun j x hx => (List.getElem?_eq_some_iff.1 hx).1
  refine ⟨any_none fun j x hx => h.odd j x (hlt j x hx) hx, ?_, ?_⟩
  · rw [Bool.eq_iff_iff, h.rs, Bool.and_eq_true]
    refine and_congr_right fun _ => ⟨fun hh => rises_yes fun j x y hx hy => hh j x y (hlt _ _ hy) hx hy, fun hh j x y _ hx hy => ?_⟩
    cases hb : Op.bytesLess x.1 y.1
    · rw [rises_no hx hy hb] at hh; cases hh
    · rfl
  · rw [Bool.eq_iff_iff, h.sp]
    constructor
    · rintro ⟨j, x, _, hx, e⟩
      exact any_at hx (by unfold spareS; rw [e]; simp)
    · intro hh
      obtain ⟨x, hx, e⟩ := List.any_eq_true.1 hh
      obtain ⟨j, hj⟩ := List.getElem?_of_mem hx
      exact ⟨j, x, hlt j x hj, hj, by simpa [spareS] using e⟩
theorem rack_odd {a : AcL} {j : Nat} {x : BS × BS} (p : Option BS) (hx : a.slots[j]? = some x) (h : ¬ (x.1.length = 32 ∧ x.2.length = 32)) : stepE p a.er = 2 := by
  rw [rack_step, if_pos (.inl (any_at (l := a.er.slots) hx (by unfold oddS; rw [Bool.or_eq_true, decide_eq_true_eq, decide_eq_true_eq]; omega)))]
theorem rack_end {a : AcL} {p : Option BS} {rs sp : Bool} (h : RackI a (rackR p a.er) a.slots.length rs sp) : stepE p a.er = if (a.addr.length : Int) ≠ 20 then 2 else if rs = false then 11 else if (a.code.length : Int) > 512 ∨ (a.slots.length : Int) > 16 then 5 else if sp = true then 8 else 0 := by
  obtain ⟨h1, h2, h3⟩ := h.done
  rw [rack_step, h2, h3, show a.er.slots.any oddS = false from h1]; refine ite_congr (propext ⟨fun hh => ?_, fun hh => ?_⟩) (fun _ => rfl) fun _ => ite_congr rfl (fun _ => rfl) fun _ => ite_congr (propext ⟨fun hh => ?_, fun hh => ?_⟩) (fun _ => rfl) fun _ => rfl
  · have hh : a.addr.length ≠ 20 := hh.elim (fun h => by cases h) id
    omega
  · exact .inr (show a.addr.length ≠ 20 by omega)
  · have hh : a.code.length > 512 ∨ a.slots.length > 16 := hh
    omega
  · show a.code.length > 512 ∨ a.slots.length > 16
    omega
set_option maxHeartbeats 1000000 in
set_option maxRecDepth 10000 in
theorem S_racct {R : List (Nat × Obj)} {a : AcL} (ha : a.In R) (p : Option BS) : PureR Tryz.prog 94 [a.val, .bool p.isNone, strV (p.getD [])].toArray (.int .i64 (stepE p a.er)) R := by
  have hl : a.slots.length ≤ 9223372036854775807 := ha.len
  have hseg := ha.seg
  obtain ⟨rb, hrb⟩ : ∃ b, b = rackR p a.er := ⟨_, rfl⟩
  have hrb2 : rb = (p.isNone || Op.bytesLess (p.getD []) a.addr) := hrb
  obtain ⟨first, hfirst⟩ : ∃ b, b = p.isNone := ⟨_, rfl⟩
  obtain ⟨last, hlast⟩ : ∃ b, b = p.getD [] := ⟨_, rfl⟩
  rw [← hfirst, ← hlast] at hrb2; rw [← hfirst, ← hlast]; refine pureR_of_HC Tryz.func94 rfl rfl fun w => ?_; refine HC_seq fun K1 hK1 => ?_; refine HC_region ?_; refine HL_box (cs := a.cells.toArray) rfl rfl rfl rfl fun ra => ?_; refine HL_r rfl rfl rfl rfl (R_assign rfl) ?_; refine HL_nil ?_; refine HQ_then ?_; refine hK1 _ _ _ _ ?_; clear hK1 K1; refine HC_seq fun K2 hK2 => ?_; refine HC_region ?_; refine HL_r rfl rfl rfl rfl (R_move rfl) ?_; refine HL_r rfl rfl rfl rfl (R_move rfl) ?_
  refine HL_case 11 rfl (fun hb3 => ?_) (fun hb3 => ?_) <;> (try simp only [Z1, Z2, Z3, Z4, Z5, Z6, Z7, Z8, Z9, Z10, Z11, Z12, Z13] at hb3) <;> first | (refine HL_r rfl rfl rfl rfl (R_fieldAddr rfl rfl (by first | (simp only [Nat.zero_add, Nat.reduceAdd, Nat.reduceMul, Nat.zero_mul, Nat.mul_one, Nat.add_zero]; exact rfl) | exact rfl)) ?_) | (refine HL_skip rfl rfl rfl ?_)
  all_goals first
    | (refine HL_r rfl rfl rfl rfl (R_load rfl (known_L (k := 0) rfl) rfl rfl) ?_)
    | (refine HL_skip rfl rfl rfl ?_)
  all_goals first
    | (refine HL_r rfl rfl rfl rfl (R_move rfl) ?_)
    | (refine HL_skip rfl rfl rfl ?_)
  all_goals first
    | (refine HL_r rfl rfl rfl rfl (R_strGt (a := a.addr) (b := last) rfl rfl) ?_)
    | (refine HL_skip rfl rfl rfl ?_)
  all_goals first
    | (refine HL_r rfl rfl rfl rfl (R_pickT rfl rfl) ?_)
    | (refine HL_r rfl rfl rfl rfl (R_pickF rfl rfl) ?_)
  all_goals first
    | (refine HL_as (as_bool (show true = rb by rw [hrb2]; simp_all)) ?_)
    | (refine HL_as (as_bool (show Op.bytesLess last a.addr = rb by rw [hrb2]; simp_all)) ?_)
  all_goals refine HL_r rfl rfl rfl rfl (R_assign rfl) ?_
  all_goals refine HL_nil ?_
  all_goals (
   refine HQ_then ?_; refine hK2 _ _ _ _ ?_; clear hK2 K2; refine HC_seq fun K7 hK7 => ?_; refine HC_region ?_; refine HL_r rfl rfl rfl rfl (R_assign rfl) ?_; refine HL_nil ?_; refine HQ_then ?_; refine hK7 _ _ _ _ ?_; clear hK7 K7; refine HC_seq fun K8 hK8 => ?_; refine HC_seq fun K9 hK9 => ?_; refine HC_region ?_; refine HL_r rfl rfl rfl rfl (R_assign rfl) ?_; refine HL_nil ?_; refine HQ_then ?_; refine hK9 _ _ _ _ ?_; clear hK9 K9; refine HC_block ?_; refine HC_loop (σ := Nat × Bool × Bool) (fun q => RackI a rb q.1 q.2.1 q.2.2) (fun q => [(3, ptV ra 0), (7, .bool q.2.1), (8, .bool q.2.2), (9, .int .i64 (q.1 : Int))]) (fun _ => [(ra, .cells a.cells.toArray 55 (0, 0))]) (fun _ _ _ => True) (fun q => a.slots.length - q.1) (0, rb, false) (RackI.zero a rb) (.cons rfl (.cons rfl (.cons rfl (.cons rfl .nil)))) (List.Sublist.refl _) (fun _ _ h => h) ?_; rintro ⟨i, rs, sp⟩ hinv; simp only at hinv; change HC _ _ [(3, _), (7, .bool rs), (8, .bool sp), (9, .int .i64 (i : Int))] _ _ _ _; refine HC_seq fun K10 hK10 => ?_; refine HC_seq fun K11 hK11 => ?_; refine HC_region ?_; refine HL_r rfl rfl rfl rfl (R_move rfl) ?_
   refine HL_r rfl rfl rfl rfl (R_fieldAddr rfl rfl (by first | (simp only [Nat.zero_add, Nat.reduceAdd, Nat.reduceMul, Nat.zero_mul, Nat.mul_one, Nat.add_zero]; exact rfl) | exact rfl)) ?_; refine HL_r rfl rfl rfl rfl (R_load rfl (known_L (k := 0) rfl) rfl rfl) ?_; refine HL_r rfl rfl rfl rfl (R_lenPl rfl hseg rfl) ?_; refine HL_r rfl rfl rfl rfl (R_pure rfl rfl rfl) ?_; refine HL_nil ?_; refine HQ_then ?_; refine hK11 _ _ _ _ ?_; clear hK11 K11; refine HC_cond rfl (fun h12 => ?_) (fun h12 => ?_)
   · try exact Bool.noConfusion h12
     try simp only [Z1, Z2, Z3, Z4, Z5, Z6, Z7, Z8, Z9, Z10, Z11, Z12, Z13] at h12
     refine HC_skip ?_; refine HQ_then ?_; refine hK10 _ _ _ _ ?_; clear hK10 K10; refine HC_seq fun K13 hK13 => ?_; refine HC_block ?_; refine HC_seq fun K14 hK14 => ?_; refine HC_seq fun K15 hK15 => ?_
     obtain ⟨x, hx, hmx⟩ := getI (show i < a.slots.length by omega)
     refine HC_region ?_
     refine HL_r rfl rfl rfl rfl (R_fieldAddr rfl rfl (by first | (simp only [Nat.zero_add, Nat.reduceAdd, Nat.reduceMul, Nat.zero_mul, Nat.mul_one, Nat.add_zero]; exact rfl) | exact rfl)) ?_; refine HL_r rfl rfl rfl rfl (R_load rfl (known_L (k := 0) rfl) rfl rfl) ?_; refine HL_r rfl rfl rfl rfl (R_move rfl) ?_
     refine HL_r rfl rfl rfl rfl (R_indexPl (j := i) rfl hseg rfl rfl rfl (by first | rfl | omega) (by omega)) ?_; refine HL_r rfl rfl rfl rfl (R_fieldAddr (off' := plO a.p + (i * 2 + 0)) rfl rfl (by show plO a.p + i * 2 + 0 = _; omega)) ?_; refine HL_r rfl rfl rfl rfl (R_loadEf slC_len (k := 0) (v := strV x.1) (fun q hq => Or.inr hq) rfl hseg hx rfl rfl) ?_; refine HL_r rfl rfl rfl rfl (R_lenBs rfl rfl) ?_; refine HL_r rfl rfl rfl rfl (R_pure rfl rfl rfl) ?_; refine HL_r rfl rfl rfl rfl (R_move rfl) ?_
     refine HL_case 32 rfl (fun hb16 => ?_) (fun hb16 => ?_) <;> (try simp only [Z1, Z2, Z3, Z4, Z5, Z6, Z7, Z8, Z9, Z10, Z11, Z12, Z13] at hb16) <;> first | (refine HL_r rfl rfl rfl rfl (R_fieldAddr rfl rfl (by first | (simp only [Nat.zero_add, Nat.reduceAdd, Nat.reduceMul, Nat.zero_mul, Nat.mul_one, Nat.add_zero]; exact rfl) | exact rfl)) ?_) | (refine HL_skip rfl rfl rfl ?_)
     all_goals first
       | (refine HL_r rfl rfl rfl rfl (R_load rfl (known_L (k := 0) rfl) rfl rfl) ?_)
       | (refine HL_skip rfl rfl rfl ?_)
     all_goals first
       | (refine HL_r rfl rfl rfl rfl (R_move rfl) ?_)
       | (refine HL_skip rfl rfl rfl ?_)
     all_goals first
       | (refine HL_r rfl rfl rfl rfl (R_indexPl (j := i) rfl hseg rfl rfl rfl (by first | rfl | omega) (by omega)) ?_)
       | (refine HL_skip rfl rfl rfl ?_)
     all_goals first
       | (refine HL_r rfl rfl rfl rfl (R_fieldAddr (off' := plO a.p + (i * 2 + 1)) rfl rfl (by show plO a.p + i * 2 + 1 = _; omega)) ?_)
       | (refine HL_skip rfl rfl rfl ?_)
     all_goals first
       | (refine HL_r rfl rfl rfl rfl (R_loadEf slC_len (k := 1) (v := strV x.2) (fun q hq => Or.inr hq) rfl hseg hx rfl rfl) ?_)
       | (refine HL_skip rfl rfl rfl ?_)
     all_goals first
       | (refine HL_r rfl rfl rfl rfl (R_lenBs rfl rfl) ?_)
       | (refine HL_skip rfl rfl rfl ?_)
     all_goals first
       | (refine HL_r rfl rfl rfl rfl (R_pure rfl rfl rfl) ?_)
       | (refine HL_skip rfl rfl rfl ?_)
     all_goals first
       | (refine HL_r rfl rfl rfl rfl (R_pickT rfl rfl) ?_)
       | (refine HL_r rfl rfl rfl rfl (R_pickF rfl rfl) ?_)
     all_goals refine HL_nil ?_
     all_goals (
      refine HQ_then ?_; refine hK15 _ _ _ _ ?_; clear hK15 K15; refine HC_cond rfl (fun h24 => ?_) (fun h24 => ?_)
      · try exact Bool.noConfusion h24
        try simp only [Z1, Z2, Z3, Z4, Z5, Z6, Z7, Z8, Z9, Z10, Z11, Z12, Z13] at h24
        refine HC_seq fun K25 hK25 => ?_; refine HC_region ?_; refine HL_r rfl rfl rfl rfl (R_assign rfl) ?_; refine HL_nil ?_; refine HQ_then ?_; refine hK25 _ _ _ _ ?_; clear hK25 K25; refine HC_ret ?_; refine HQ_thenR ?_; clear hK14 K14; refine HQ_blockR ?_; refine HQ_thenR ?_; clear hK13 K13; refine HQ_thenR ?_; refine HQ_blockR ?_; refine HQ_thenR ?_; clear hK8 K8; refine HQ_post rfl rfl (.cons (res_tmp rfl) .nil) (fun w1 hs1 => ?_); refine ⟨?_, hs1.keep⟩; rw [rack_odd p hx (by omega)]; rfl
      · try exact Bool.noConfusion h24
        all_goals try simp only [Z1, Z2, Z3, Z4, Z5, Z6, Z7, Z8, Z9, Z10, Z11, Z12, Z13] at h24
        all_goals (
         refine HC_skip ?_; refine HQ_then ?_; refine hK14 _ _ _ _ ?_; clear hK14 K14; refine HC_seq fun K26 hK26 => ?_
         have hxo : x.1.length = 32 ∧ x.2.length = 32 := by omega
         obtain ⟨nv, hnv⟩ : ∃ b, b = decide (x.2 = noneB) := ⟨_, rfl⟩
         refine HC_draw 22 (by kernel_rfl) (by kernel_rfl) ?_; refine HD_r rfl rfl rfl (R_move rfl) ?_; refine HD_r rfl rfl rfl (R_move rfl) ?_
         refine HD_case 43 rfl (fun hb27 => ?_) (fun hb27 => ?_) <;> (try simp only [Z1, Z2, Z3, Z4, Z5, Z6, Z7, Z8, Z9, Z10, Z11, Z12, Z13] at hb27) <;> first | (refine HD_r rfl rfl rfl (R_move rfl) ?_) | (refine HD_skip rfl rfl rfl ?_)
         all_goals first
           | (refine HD_r rfl rfl rfl (R_pure rfl rfl rfl) ?_; refine HD_as (as_bool (show _ = decide (i = 0) from by rw [Bool.eq_iff_iff]; simp)) ?_)
           | (refine HD_skip rfl rfl rfl ?_)
         all_goals first
           | (refine HD_r rfl rfl rfl (R_move rfl) ?_)
           | (refine HD_skip rfl rfl rfl ?_)
         all_goals first
           | (refine HD_skip rfl rfl rfl ?_)
           | (refine HD_case 46 rfl (fun hb30 => ?_) (fun hb30 => ?_) <;> (try simp only [Z1, Z2, Z3, Z4, Z5, Z6, Z7, Z8, Z9, Z10, Z11, Z12, Z13] at hb30) <;> first | (refine HD_r rfl rfl rfl (R_fieldAddr rfl rfl (by first | (simp only [Nat.zero_add, Nat.reduceAdd, Nat.reduceMul, Nat.zero_mul, Nat.mul_one, Nat.add_zero]; exact rfl) | exact rfl)) ?_) | (refine HD_skip rfl rfl rfl ?_))
         all_goals first
           | (refine HD_r rfl rfl rfl (R_load rfl (known_L (k := 0) rfl) rfl rfl) ?_)
           | (refine HD_skip rfl rfl rfl ?_)
         all_goals first
           | (refine HD_r rfl rfl rfl (R_move rfl) ?_)
           | (refine HD_skip rfl rfl rfl ?_)
         all_goals first
           | (refine HD_r rfl rfl rfl (R_indexPl (j := i) rfl hseg rfl rfl rfl (by first | rfl | omega) (by omega)) ?_)
           | (refine HD_skip rfl rfl rfl ?_)
         all_goals first
           | (refine HD_r rfl rfl rfl (R_fieldAddr (off' := plO a.p + (i * 2 + 0)) rfl rfl (by show plO a.p + i * 2 + 0 = _; omega)) ?_)
           | (refine HD_skip rfl rfl rfl ?_)
         all_goals first
           | (refine HD_r rfl rfl rfl (R_loadEf slC_len (k := 0) (v := strV x.1) (fun q hq => Or.inr hq) rfl hseg hx rfl rfl) ?_)
           | (refine HD_skip rfl rfl rfl ?_)
         all_goals first
           | (refine HD_r rfl rfl rfl (R_fieldAddr rfl rfl (by first | (simp only [Nat.zero_add, Nat.reduceAdd, Nat.reduceMul, Nat.zero_mul, Nat.mul_one, Nat.add_zero]; exact rfl) | exact rfl)) ?_)
           | (refine HD_skip rfl rfl rfl ?_)
         all_goals first
           | (refine HD_r rfl rfl rfl (R_load rfl (known_L (k := 0) rfl) rfl rfl) ?_)
           | (refine HD_skip rfl rfl rfl ?_)
         all_goals first
           | (refine HD_r rfl rfl rfl (R_move rfl) ?_)
           | (refine HD_skip rfl rfl rfl ?_)
         all_goals first
           | (refine HD_r rfl rfl rfl (R_pure rfl rfl rfl) ?_; refine HD_wrap_i64 (by omega) (by omega) ?_)
           | (refine HD_skip rfl rfl rfl ?_)
         all_goals first
           | (obtain ⟨y, hy, hmy⟩ := getI (show i - 1 < a.slots.length by omega); refine HD_r rfl rfl rfl (R_indexPl (j := (i - 1)) rfl hseg rfl rfl rfl (by first | rfl | omega) (by omega)) ?_)
           | (refine HD_skip rfl rfl rfl ?_)
         all_goals first
           | (refine HD_r rfl rfl rfl (R_fieldAddr (off' := plO a.p + ((i - 1) * 2 + 0)) rfl rfl (by show plO a.p + (i - 1) * 2 + 0 = _; omega)) ?_)
           | (refine HD_skip rfl rfl rfl ?_)
         all_goals first
           | (refine HD_r rfl rfl rfl (R_loadEf slC_len (k := 0) (v := strV y.1) (fun q hq => Or.inr hq) rfl hseg hy rfl rfl) ?_)
           | (refine HD_skip rfl rfl rfl ?_)
         all_goals first
           | (refine HD_r rfl rfl rfl (R_strGt (a := x.1) (b := y.1) rfl rfl) ?_; refine HD_as (as_bool (show Op.bytesLess y.1 x.1 = Op.bytesLess ((a.slots[i - 1]?.map Prod.fst).getD []) x.1 by rw [hy]; rfl)) ?_)
           | (refine HD_skip rfl rfl rfl ?_)
         all_goals first
           | (refine HD_r rfl rfl rfl (R_pickT rfl rfl) ?_)
           | (refine HD_r rfl rfl rfl (R_pickF rfl rfl) ?_)
           | (refine HD_skip rfl rfl rfl ?_)
         all_goals first
           | (refine HD_r rfl rfl rfl (R_pickT rfl rfl) ?_)
           | (refine HD_r rfl rfl rfl (R_pickF rfl rfl) ?_)
         all_goals refine HD_r rfl rfl rfl (R_assign rfl) ?_
         all_goals refine HD_end ?_
         all_goals refine HL_nil ?_
         all_goals (
          refine HQ_then ?_; refine hK26 _ _ _ _ ?_; clear hK26 K26; refine HC_draw 12 (by kernel_rfl) (by kernel_rfl) ?_; refine HD_r rfl rfl rfl (R_move rfl) ?_; refine HD_r rfl rfl rfl (R_move rfl) ?_
          refine HD_case 64 rfl (fun hb45 => ?_) (fun hb45 => ?_) <;> (try simp only [Z1, Z2, Z3, Z4, Z5, Z6, Z7, Z8, Z9, Z10, Z11, Z12, Z13] at hb45) <;> first | (refine HD_r rfl rfl rfl (R_fieldAddr rfl rfl (by first | (simp only [Nat.zero_add, Nat.reduceAdd, Nat.reduceMul, Nat.zero_mul, Nat.mul_one, Nat.add_zero]; exact rfl) | exact rfl)) ?_) | (refine HD_skip rfl rfl rfl ?_)
          all_goals first
            | (refine HD_r rfl rfl rfl (R_load rfl (known_L (k := 0) rfl) rfl rfl) ?_)
            | (refine HD_skip rfl rfl rfl ?_)
          all_goals first
            | (refine HD_r rfl rfl rfl (R_move rfl) ?_)
            | (refine HD_skip rfl rfl rfl ?_)
          all_goals first
            | (refine HD_r rfl rfl rfl (R_indexPl (j := i) rfl hseg rfl rfl rfl (by first | rfl | omega) (by omega)) ?_)
            | (refine HD_skip rfl rfl rfl ?_)
          all_goals first
            | (refine HD_r rfl rfl rfl (R_fieldAddr (off' := plO a.p + (i * 2 + 1)) rfl rfl (by show plO a.p + i * 2 + 1 = _; omega)) ?_)
            | (refine HD_skip rfl rfl rfl ?_)
          all_goals first
            | (refine HD_r rfl rfl rfl (R_loadEf slC_len (k := 1) (v := strV x.2) (fun q hq => Or.inr hq) rfl hseg hx rfl rfl) ?_)
            | (refine HD_skip rfl rfl rfl ?_)
          all_goals first
            | (refine HD_callP rfl rfl rfl (enters_of Tryz.func61 (by kernel_rfl) rfl) P_rNone ?_)
            | (refine HD_skip rfl rfl rfl ?_)
          all_goals first
            | (refine HD_r rfl rfl rfl (R_strEq (a := x.2) (b := noneB) rfl rfl) ?_; refine HD_as (as_bool hnv.symm) ?_)
            | (refine HD_skip rfl rfl rfl ?_)
          all_goals first
            | (refine HD_r rfl rfl rfl (R_pickT rfl rfl) ?_)
            | (refine HD_r rfl rfl rfl (R_pickF rfl rfl) ?_)
          all_goals refine HD_r rfl rfl rfl (R_assign rfl) ?_
          all_goals refine HD_end ?_
          all_goals refine HL_nil ?_
          all_goals (
           refine HQ_blockN ?_; refine HQ_then ?_; refine hK13 _ _ _ _ ?_; clear hK13 K13; refine HC_region ?_; refine HL_r rfl rfl rfl rfl (R_move rfl) ?_; refine HL_r rfl rfl rfl rfl (R_pure rfl rfl rfl) ?_; refine HL_wrap_i64 (by omega) (by omega) ?_; refine HL_r rfl rfl rfl rfl (R_assign rfl) ?_; refine HL_nil ?_; refine HQ_then ?_; refine HQ_again (i + 1, _, _) (RackI.next hinv hx hxo ?_ ?_) (by simp only; omega) (.cons rfl (.cons rfl (.cons rfl (.cons rfl .nil)))) (List.Sublist.refl _) (fun _ _ h => h)
           · simp_all
           · simp_all
           skip)
          skip)
         skip)
      skip)
   · try exact Bool.noConfusion h12
     try simp only [Z1, Z2, Z3, Z4, Z5, Z6, Z7, Z8, Z9, Z10, Z11, Z12, Z13] at h12
     refine HC_exit ?_; refine HQ_thenE ?_; clear hK10 K10; refine HQ_thenE ?_; refine HQ_blockE ?_; refine HQ_then ?_; refine hK8 _ _ _ _ ?_; clear hK8 K8; refine HC_seq fun K53 hK53 => ?_; refine HC_seq fun K54 hK54 => ?_
     obtain rfl : i = a.slots.length := by have := hinv.le; omega
     have hE := rack_end (p := p) (hrb ▸ hinv)
     refine HC_region ?_
     refine HL_r rfl rfl rfl rfl (R_fieldAddr rfl rfl (by first | (simp only [Nat.zero_add, Nat.reduceAdd, Nat.reduceMul, Nat.zero_mul, Nat.mul_one, Nat.add_zero]; exact rfl) | exact rfl)) ?_; refine HL_r rfl rfl rfl rfl (R_load rfl (known_L (k := 0) rfl) rfl rfl) ?_; refine HL_r rfl rfl rfl rfl (R_lenBs rfl rfl) ?_; refine HL_r rfl rfl rfl rfl (R_pure rfl rfl rfl) ?_; refine HL_nil ?_; refine HQ_then ?_; refine hK54 _ _ _ _ ?_; clear hK54 K54; refine HC_cond rfl (fun h55 => ?_) (fun h55 => ?_)
     · try exact Bool.noConfusion h55
       try simp only [Z1, Z2, Z3, Z4, Z5, Z6, Z7, Z8, Z9, Z10, Z11, Z12, Z13] at h55
       refine HC_seq fun K56 hK56 => ?_; refine HC_region ?_; refine HL_r rfl rfl rfl rfl (R_assign rfl) ?_; refine HL_nil ?_; refine HQ_then ?_; refine hK56 _ _ _ _ ?_; clear hK56 K56; refine HC_ret ?_; refine HQ_thenR ?_; clear hK53 K53; refine HQ_post rfl rfl (.cons (res_tmp rfl) .nil) (fun w1 hs1 => ?_); refine ⟨?_, hs1.keep⟩; rw [hE, if_pos (by omega)]; rfl
     · try exact Bool.noConfusion h55
       try simp only [Z1, Z2, Z3, Z4, Z5, Z6, Z7, Z8, Z9, Z10, Z11, Z12, Z13] at h55
       refine HC_skip ?_; refine HQ_then ?_; refine hK53 _ _ _ _ ?_; clear hK53 K53; refine HC_seq fun K57 hK57 => ?_; refine HC_seq fun K58 hK58 => ?_; refine HC_region ?_; refine HL_r rfl rfl rfl rfl (R_move rfl) ?_; refine HL_r rfl rfl rfl rfl (R_pure rfl rfl rfl) ?_; refine HL_nil ?_; refine HQ_then ?_; refine hK58 _ _ _ _ ?_; clear hK58 K58; refine HC_cond rfl (fun h59 => ?_) (fun h59 => ?_)
       · try exact Bool.noConfusion h59
         try simp only [Z1, Z2, Z3, Z4, Z5, Z6, Z7, Z8, Z9, Z10, Z11, Z12, Z13] at h59
         refine HC_seq fun K60 hK60 => ?_; refine HC_region ?_; refine HL_r rfl rfl rfl rfl (R_assign rfl) ?_; refine HL_nil ?_; refine HQ_then ?_; refine hK60 _ _ _ _ ?_; clear hK60 K60; refine HC_ret ?_; refine HQ_thenR ?_; clear hK57 K57; refine HQ_post rfl rfl (.cons (res_tmp rfl) .nil) (fun w1 hs1 => ?_); refine ⟨?_, hs1.keep⟩; rw [hE, if_neg (by omega), if_pos (by assumption)]; rfl
       · try exact Bool.noConfusion h59
         try simp only [Z1, Z2, Z3, Z4, Z5, Z6, Z7, Z8, Z9, Z10, Z11, Z12, Z13] at h59
         refine HC_skip ?_; refine HQ_then ?_; refine hK57 _ _ _ _ ?_; clear hK57 K57; refine HC_seq fun K61 hK61 => ?_; refine HC_seq fun K62 hK62 => ?_; refine HC_region ?_
         refine HL_r rfl rfl rfl rfl (R_fieldAddr rfl rfl (by first | (simp only [Nat.zero_add, Nat.reduceAdd, Nat.reduceMul, Nat.zero_mul, Nat.mul_one, Nat.add_zero]; exact rfl) | exact rfl)) ?_; refine HL_r rfl rfl rfl rfl (R_load rfl (known_L (k := 0) rfl) rfl rfl) ?_; refine HL_r rfl rfl rfl rfl (R_lenBs rfl rfl) ?_; refine HL_r rfl rfl rfl rfl (R_pure rfl rfl rfl) ?_; refine HL_r rfl rfl rfl rfl (R_move rfl) ?_
         refine HL_case 84 rfl (fun hb63 => ?_) (fun hb63 => ?_) <;> (try simp only [Z1, Z2, Z3, Z4, Z5, Z6, Z7, Z8, Z9, Z10, Z11, Z12, Z13] at hb63) <;> first | (refine HL_r rfl rfl rfl rfl (R_fieldAddr rfl rfl (by first | (simp only [Nat.zero_add, Nat.reduceAdd, Nat.reduceMul, Nat.zero_mul, Nat.mul_one, Nat.add_zero]; exact rfl) | exact rfl)) ?_) | (refine HL_skip rfl rfl rfl ?_)
         all_goals first
           | (refine HL_r rfl rfl rfl rfl (R_load rfl (known_L (k := 0) rfl) rfl rfl) ?_)
           | (refine HL_skip rfl rfl rfl ?_)
         all_goals first
           | (refine HL_r rfl rfl rfl rfl (R_lenPl rfl hseg rfl) ?_)
           | (refine HL_skip rfl rfl rfl ?_)
         all_goals first
           | (refine HL_r rfl rfl rfl rfl (R_pure rfl rfl rfl) ?_)
           | (refine HL_skip rfl rfl rfl ?_)
         all_goals first
           | (refine HL_r rfl rfl rfl rfl (R_pickT rfl rfl) ?_)
           | (refine HL_r rfl rfl rfl rfl (R_pickF rfl rfl) ?_)
         all_goals refine HL_nil ?_
         all_goals (
          refine HQ_then ?_; refine hK62 _ _ _ _ ?_; clear hK62 K62; refine HC_cond rfl (fun h67 => ?_) (fun h67 => ?_)
          · try exact Bool.noConfusion h67
            try simp only [Z1, Z2, Z3, Z4, Z5, Z6, Z7, Z8, Z9, Z10, Z11, Z12, Z13] at h67
            refine HC_seq fun K68 hK68 => ?_; refine HC_region ?_; refine HL_r rfl rfl rfl rfl (R_assign rfl) ?_; refine HL_nil ?_; refine HQ_then ?_; refine hK68 _ _ _ _ ?_; clear hK68 K68; refine HC_ret ?_; refine HQ_thenR ?_; clear hK61 K61; refine HQ_post rfl rfl (.cons (res_tmp rfl) .nil) (fun w1 hs1 => ?_); refine ⟨?_, hs1.keep⟩; rw [hE, if_neg (by omega), if_neg (by simp_all), if_pos (by omega)]; rfl
          · try exact Bool.noConfusion h67
            all_goals try simp only [Z1, Z2, Z3, Z4, Z5, Z6, Z7, Z8, Z9, Z10, Z11, Z12, Z13] at h67
            all_goals (
             refine HC_skip ?_; refine HQ_then ?_; refine hK61 _ _ _ _ ?_; clear hK61 K61; refine HC_seq fun K69 hK69 => ?_; refine HC_seq fun K70 hK70 => ?_; refine HC_region ?_; refine HL_r rfl rfl rfl rfl (R_move rfl) ?_; refine HL_nil ?_; refine HQ_then ?_; refine hK70 _ _ _ _ ?_; clear hK70 K70; refine HC_cond rfl (fun h71 => ?_) (fun h71 => ?_)
             · try exact Bool.noConfusion h71
               try simp only [Z1, Z2, Z3, Z4, Z5, Z6, Z7, Z8, Z9, Z10, Z11, Z12, Z13] at h71
               refine HC_seq fun K72 hK72 => ?_; refine HC_region ?_; refine HL_r rfl rfl rfl rfl (R_assign rfl) ?_; refine HL_nil ?_; refine HQ_then ?_; refine hK72 _ _ _ _ ?_; clear hK72 K72; refine HC_ret ?_; refine HQ_thenR ?_; clear hK69 K69; refine HQ_post rfl rfl (.cons (res_tmp rfl) .nil) (fun w1 hs1 => ?_); refine ⟨?_, hs1.keep⟩; rw [hE, if_neg (by omega), if_neg (by simp_all), if_neg (by omega), if_pos (by assumption)]; rfl
             · try exact Bool.noConfusion h71
               try simp only [Z1, Z2, Z3, Z4, Z5, Z6, Z7, Z8, Z9, Z10, Z11, Z12, Z13] at h71
               refine HC_skip ?_; refine HQ_then ?_; refine hK69 _ _ _ _ ?_; clear hK69 K69; refine HC_seq fun K73 hK73 => ?_; refine HC_region ?_; refine HL_r rfl rfl rfl rfl (R_assign rfl) ?_; refine HL_nil ?_; refine HQ_then ?_; refine hK73 _ _ _ _ ?_; clear hK73 K73; refine HC_ret ?_; refine HQ_post rfl rfl (.cons (res_tmp rfl) .nil) (fun w1 hs1 => ?_); refine ⟨?_, hs1.keep⟩; rw [hE, if_neg (by omega), if_neg (by simp_all), if_neg (by omega), if_neg (by simp_all)]; rfl
             skip)
          skip)
   skip)
theorem last_none {s : StL} {i : Nat} (hi : i ≤ s.accts.length) : ((i : Int) == 0) = (lastE s.er i).isNone := by
  cases i with
  | zero => rfl
  | succ j =>
    obtain ⟨a, ha, -⟩ := getI (show j < s.accts.length by omega)
    rw [last_er ha rfl]; exact ieqF (by omega)
set_option maxRecDepth 10000 in
theorem S_rCheck {R : List (Nat × Obj)} {s : StL} (hs : s.In R) : PureR Tryz.prog 52 [s.val].toArray (.int .i64 (chkS s.er)) R := by
  have hl : s.accts.length ≤ 9223372036854775807 := hs.len
  have hseg := hs.seg
  obtain ⟨hc5, hcg⟩ := chk_len s
  refine pureR_of_HC Tryz.func52 rfl rfl fun w => ?_; refine HC_seq fun K1 hK1 => ?_; refine HC_region ?_; refine HL_box (cs := s.cells.toArray) rfl rfl rfl rfl fun rs => ?_; refine HL_r rfl rfl rfl rfl (R_assign rfl) ?_; refine HL_nil ?_; refine HQ_then ?_; refine hK1 _ _ _ _ ?_; clear hK1 K1; refine HC_seq fun K2 hK2 => ?_; refine HC_seq fun K3 hK3 => ?_; refine HC_region ?_
  refine HL_r rfl rfl rfl rfl (R_fieldAddr rfl rfl (by first | (simp only [Nat.zero_add, Nat.reduceAdd, Nat.reduceMul, Nat.zero_mul, Nat.mul_one, Nat.add_zero]; exact rfl) | exact rfl)) ?_; refine HL_r rfl rfl rfl rfl (R_load rfl (known_L (k := 0) rfl) rfl rfl) ?_; refine HL_r rfl rfl rfl rfl (R_lenPl rfl hseg rfl) ?_; refine HL_r rfl rfl rfl rfl (R_pure rfl rfl rfl) ?_; refine HL_nil ?_; refine HQ_then ?_; refine hK3 _ _ _ _ ?_; clear hK3 K3; refine HC_cond rfl (fun h4 => ?_) (fun h4 => ?_)
  · try exact Bool.noConfusion h4
    try simp only [Z1, Z2, Z3, Z4, Z5, Z6, Z7, Z8, Z9, Z10, Z11, Z12, Z13] at h4
    refine HC_seq fun K5 hK5 => ?_; refine HC_region ?_; refine HL_r rfl rfl rfl rfl (R_assign rfl) ?_; refine HL_nil ?_; refine HQ_then ?_; refine hK5 _ _ _ _ ?_; clear hK5 K5; refine HC_ret ?_; refine HQ_thenR ?_; clear hK2 K2; refine HQ_post rfl rfl (.cons (res_tmp rfl) .nil) (fun w1 hs1 => ?_); refine ⟨?_, hs1.keep⟩; rw [hc5 (by assumption)]; rfl
  · try exact Bool.noConfusion h4
    try simp only [Z1, Z2, Z3, Z4, Z5, Z6, Z7, Z8, Z9, Z10, Z11, Z12, Z13] at h4
    refine HC_skip ?_; refine HQ_then ?_; refine hK2 _ _ _ _ ?_; clear hK2 K2; refine HC_seq fun K6 hK6 => ?_; refine HC_region ?_; refine HL_r rfl rfl rfl rfl (R_assign rfl) ?_; refine HL_nil ?_; refine HQ_then ?_; refine hK6 _ _ _ _ ?_; clear hK6 K6; refine HC_seq fun K7 hK7 => ?_; refine HC_seq fun K8 hK8 => ?_; refine HC_region ?_; refine HL_r rfl rfl rfl rfl (R_assign rfl) ?_; refine HL_nil ?_; refine HQ_then ?_; refine hK8 _ _ _ _ ?_; clear hK8 K8; refine HC_block ?_; refine HC_loop (σ := Nat) (fun i => i ≤ s.accts.length ∧ goS (lastE s.er i) (s.er.drop i) = goS none s.er) (fun i => [(1, ptV rs 0), (3, strV ((lastE s.er i).getD [])), (4, .int .i64 (i : Int))]) (fun _ => [(rs, .cells s.cells.toArray 24 (0, 0))]) (fun _ _ _ => True) (fun i => s.accts.length - i) 0 ⟨Nat.zero_le _, rfl⟩ (.cons rfl (.cons rfl (.cons rfl .nil))) (List.Sublist.refl _) (fun _ _ h => h) ?_; rintro i ⟨hi1, hinv⟩; refine HC_seq fun K9 hK9 => ?_; refine HC_seq fun K10 hK10 => ?_; refine HC_region ?_; refine HL_r rfl rfl rfl rfl (R_move rfl) ?_
    refine HL_r rfl rfl rfl rfl (R_fieldAddr rfl rfl (by first | (simp only [Nat.zero_add, Nat.reduceAdd, Nat.reduceMul, Nat.zero_mul, Nat.mul_one, Nat.add_zero]; exact rfl) | exact rfl)) ?_; refine HL_r rfl rfl rfl rfl (R_load rfl (known_L (k := 0) rfl) rfl rfl) ?_; refine HL_r rfl rfl rfl rfl (R_lenPl rfl hseg rfl) ?_; refine HL_r rfl rfl rfl rfl (R_pure rfl rfl rfl) ?_; refine HL_nil ?_; refine HQ_then ?_; refine hK10 _ _ _ _ ?_; clear hK10 K10; refine HC_cond rfl (fun h11 => ?_) (fun h11 => ?_)
    · try exact Bool.noConfusion h11
      try simp only [Z1, Z2, Z3, Z4, Z5, Z6, Z7, Z8, Z9, Z10, Z11, Z12, Z13] at h11
      refine HC_skip ?_; refine HQ_then ?_; refine hK9 _ _ _ _ ?_; clear hK9 K9; refine HC_seq fun K12 hK12 => ?_; refine HC_block ?_; refine HC_seq fun K13 hK13 => ?_
      obtain ⟨a, ha, hma⟩ := getI (show i < s.accts.length by omega)
      rw [go_step (er_get ha)] at hinv; refine HC_region ?_
      refine HL_r rfl rfl rfl rfl (R_fieldAddr rfl rfl (by first | (simp only [Nat.zero_add, Nat.reduceAdd, Nat.reduceMul, Nat.zero_mul, Nat.mul_one, Nat.add_zero]; exact rfl) | exact rfl)) ?_; refine HL_r rfl rfl rfl rfl (R_load rfl (known_L (k := 0) rfl) rfl rfl) ?_; refine HL_r rfl rfl rfl rfl (R_move rfl) ?_
      refine HL_r rfl rfl rfl rfl (R_indexPl (j := i) rfl hseg rfl rfl rfl (by first | rfl | omega) (by omega)) ?_; refine HL_r rfl rfl rfl rfl (R_loadEl AcL.len (fun q hq => Or.inr hq) rfl hseg ha rfl rfl) ?_; refine HL_r rfl rfl rfl rfl (R_move rfl) ?_; refine HL_r rfl rfl rfl rfl (R_pure rfl rfl rfl) ?_; refine HL_as (as_bool (last_none hi1)) ?_; refine HL_r rfl rfl rfl rfl (R_move rfl) ?_; refine HL_callR rfl rfl rfl (enters_of Tryz.func94 (by kernel_rfl) rfl) (S_racct (hs.accts a hma) (lastE s.er i)) (fun q hq => Or.inr hq) ?_; refine HL_r rfl rfl rfl rfl (R_assign rfl) ?_; refine HL_nil ?_; refine HQ_then ?_; refine hK13 _ _ _ _ ?_; clear hK13 K13; refine HC_seq fun K14 hK14 => ?_; refine HC_seq fun K15 hK15 => ?_; refine HC_region ?_; refine HL_r rfl rfl rfl rfl (R_move rfl) ?_; refine HL_r rfl rfl rfl rfl (R_pure rfl rfl rfl) ?_; refine HL_nil ?_; refine HQ_then ?_; refine hK15 _ _ _ _ ?_; clear hK15 K15; refine HC_cond rfl (fun h16 => ?_) (fun h16 => ?_)
      · try exact Bool.noConfusion h16
        try simp only [Z1, Z2, Z3, Z4, Z5, Z6, Z7, Z8, Z9, Z10, Z11, Z12, Z13] at h16
        refine HC_seq fun K17 hK17 => ?_; refine HC_region ?_; refine HL_r rfl rfl rfl rfl (R_move rfl) ?_; refine HL_r rfl rfl rfl rfl (R_assign rfl) ?_; refine HL_nil ?_; refine HQ_then ?_; refine hK17 _ _ _ _ ?_; clear hK17 K17; refine HC_ret ?_; refine HQ_thenR ?_; clear hK14 K14; refine HQ_blockR ?_; refine HQ_thenR ?_; clear hK12 K12; refine HQ_thenR ?_; refine HQ_blockR ?_; refine HQ_thenR ?_; clear hK7 K7; refine HQ_post rfl rfl (.cons (res_tmp rfl) .nil) (fun w1 hs1 => ?_); refine ⟨?_, hs1.keep⟩; rw [hcg (by omega), ← hinv, if_pos (by simp_all)]; rfl
      · try exact Bool.noConfusion h16
        try simp only [Z1, Z2, Z3, Z4, Z5, Z6, Z7, Z8, Z9, Z10, Z11, Z12, Z13] at h16
        refine HC_skip ?_; refine HQ_then ?_; refine hK14 _ _ _ _ ?_; clear hK14 K14; refine HC_region ?_
        refine HL_r rfl rfl rfl rfl (R_fieldAddr rfl rfl (by first | (simp only [Nat.zero_add, Nat.reduceAdd, Nat.reduceMul, Nat.zero_mul, Nat.mul_one, Nat.add_zero]; exact rfl) | exact rfl)) ?_; refine HL_r rfl rfl rfl rfl (R_load rfl (known_L (k := 0) rfl) rfl rfl) ?_; refine HL_r rfl rfl rfl rfl (R_move rfl) ?_
        refine HL_r rfl rfl rfl rfl (R_indexPl (j := i) rfl hseg rfl rfl rfl (by first | rfl | omega) (by omega)) ?_; refine HL_r rfl rfl rfl rfl (R_fieldAddr (off' := plO s.p + (i * 8 + 0)) rfl rfl (by show plO s.p + i * 8 + 0 = _; omega)) ?_; refine HL_r rfl rfl rfl rfl (R_loadEf AcL.len (k := 0) (v := strV a.addr) (fun q hq => Or.inr hq) rfl hseg ha rfl rfl) ?_; refine HL_r rfl rfl rfl rfl (R_assign rfl) ?_; refine HL_nil ?_; refine HQ_blockN ?_; refine HQ_then ?_; refine hK12 _ _ _ _ ?_; clear hK12 K12; refine HC_region ?_; refine HL_r rfl rfl rfl rfl (R_move rfl) ?_; refine HL_r rfl rfl rfl rfl (R_pure rfl rfl rfl) ?_; refine HL_wrap_i64 (by omega) (by omega) ?_; refine HL_r rfl rfl rfl rfl (R_assign rfl) ?_; refine HL_nil ?_; refine HQ_then ?_; exact HQ_again (i + 1) ⟨by omega, by rw [if_neg (by simp_all)] at hinv; exact hinv⟩ (by omega) (.cons rfl (.cons (by rw [last_er ha rfl]; rfl) (.cons rfl .nil))) (List.Sublist.refl _) (fun _ _ h => h)
    · try exact Bool.noConfusion h11
      try simp only [Z1, Z2, Z3, Z4, Z5, Z6, Z7, Z8, Z9, Z10, Z11, Z12, Z13] at h11
      refine HC_exit ?_; refine HQ_thenE ?_; clear hK9 K9; refine HQ_thenE ?_; refine HQ_blockE ?_; refine HQ_then ?_; refine hK7 _ _ _ _ ?_; clear hK7 K7; refine HC_seq fun K18 hK18 => ?_; refine HC_region ?_; refine HL_r rfl rfl rfl rfl (R_assign rfl) ?_; refine HL_nil ?_; refine HQ_then ?_; refine hK18 _ _ _ _ ?_; clear hK18 K18; refine HC_ret ?_; refine HQ_post rfl rfl (.cons (res_tmp rfl) .nil) (fun w1 hs1 => ?_); refine ⟨?_, hs1.keep⟩; rw [hcg (by omega), ← hinv, List.drop_of_length_le (by rw [s.er_len]; omega)]; rfl
theorem same_er' {s t : StL} : s.er = t.er ↔ s.accts.length = t.accts.length ∧ ∀ (i : Nat) a b, s.accts[i]? = some a → t.accts[i]? = some b → a.er = b.er := by
  constructor
  · intro h
    refine ⟨by have := congrArg List.length h; rwa [s.er_len, t.er_len] at this, fun i a b ha hb => ?_⟩
    have h1 := er_get ha
    have h2 := er_get hb
    rw [h, h2] at h1; exact (Option.some.inj h1).symm
  · rintro ⟨h1, h2⟩
    apply List.ext_getElem?
    intro i
    by_cases hi : i < s.accts.length
    · obtain ⟨a, ha, _⟩ := getI hi
      obtain ⟨b, hb, _⟩ := getI (show i < t.accts.length by omega)
      rw [er_get ha, er_get hb, h2 i a b ha hb]
    · rw [List.getElem?_eq_none (by rw [s.er_len]; omega), List.getElem?_eq_none (by rw [t.er_len]; omega)]
set_option maxRecDepth 10000 in
theorem S_rSame {R : List (Nat × Obj)} {s t : StL} (hs : s.In R) (ht : t.In R) : PureR Tryz.prog 17 [s.val, t.val].toArray (.bool (decide (s.er = t.er))) R := by
  have hl : s.accts.length ≤ 9223372036854775807 := hs.len
  have hl2 : t.accts.length ≤ 9223372036854775807 := ht.len
  have h1 := hs.seg
  have h2 := ht.seg
  refine pureR_of_HC Tryz.func17 rfl rfl fun w => ?_; refine HC_seq fun K1 hK1 => ?_; refine HC_region ?_; refine HL_box (cs := s.cells.toArray) rfl rfl rfl rfl fun rs => ?_; refine HL_box (cs := t.cells.toArray) rfl rfl rfl rfl fun rt => ?_; refine HL_r rfl rfl rfl rfl (R_assign rfl) ?_; refine HL_nil ?_; refine HQ_then ?_; refine hK1 _ _ _ _ ?_; clear hK1 K1; refine HC_seq fun K2 hK2 => ?_; refine HC_seq fun K3 hK3 => ?_; refine HC_region ?_
  refine HL_r rfl rfl rfl rfl (R_fieldAddr rfl rfl (by first | (simp only [Nat.zero_add, Nat.reduceAdd, Nat.reduceMul, Nat.zero_mul, Nat.mul_one, Nat.add_zero]; exact rfl) | exact rfl)) ?_; refine HL_r rfl rfl rfl rfl (R_load rfl (known_L (k := 1) rfl) rfl rfl) ?_; refine HL_r rfl rfl rfl rfl (R_lenPl rfl h1 rfl) ?_
  refine HL_r rfl rfl rfl rfl (R_fieldAddr rfl rfl (by first | (simp only [Nat.zero_add, Nat.reduceAdd, Nat.reduceMul, Nat.zero_mul, Nat.mul_one, Nat.add_zero]; exact rfl) | exact rfl)) ?_; refine HL_r rfl rfl rfl rfl (R_load rfl (known_L (k := 0) rfl) rfl rfl) ?_; refine HL_r rfl rfl rfl rfl (R_lenPl rfl h2 rfl) ?_; refine HL_r rfl rfl rfl rfl (R_pure rfl rfl rfl) ?_; refine HL_nil ?_; refine HQ_then ?_; refine hK3 _ _ _ _ ?_; clear hK3 K3; refine HC_cond rfl (fun h4 => ?_) (fun h4 => ?_)
  · try exact Bool.noConfusion h4
    try simp only [Z1, Z2, Z3, Z4, Z5, Z6, Z7, Z8, Z9, Z10, Z11, Z12, Z13] at h4
    refine HC_seq fun K5 hK5 => ?_; refine HC_region ?_; refine HL_r rfl rfl rfl rfl (R_assign rfl) ?_; refine HL_nil ?_; refine HQ_then ?_; refine hK5 _ _ _ _ ?_; clear hK5 K5; refine HC_ret ?_; refine HQ_thenR ?_; clear hK2 K2; refine HQ_post rfl rfl (.cons (res_tmp rfl) .nil) (fun w1 hs1 => ?_); refine ⟨?_, hs1.keep⟩; rw [decide_eq_false (show ¬ s.er = t.er from fun e => by have := (same_er'.1 e).1; omega)]; rfl
  · try exact Bool.noConfusion h4
    try simp only [Z1, Z2, Z3, Z4, Z5, Z6, Z7, Z8, Z9, Z10, Z11, Z12, Z13] at h4
    refine HC_skip ?_; refine HQ_then ?_; refine hK2 _ _ _ _ ?_; clear hK2 K2; refine HC_seq fun K6 hK6 => ?_; refine HC_seq fun K7 hK7 => ?_; refine HC_region ?_; refine HL_r rfl rfl rfl rfl (R_assign rfl) ?_; refine HL_nil ?_; refine HQ_then ?_; refine hK7 _ _ _ _ ?_; clear hK7 K7; refine HC_block ?_
    have hll : s.accts.length = t.accts.length := by omega
    refine HC_loop (σ := Nat) (fun i => i ≤ s.accts.length ∧ ∀ q, q < i → ∀ a b, s.accts[q]? = some a → t.accts[q]? = some b → a.er = b.er) (fun i => [(2, ptV rs 0), (3, ptV rt 0), (5, .int .i64 (i : Int))]) (fun _ => [(rt, .cells t.cells.toArray 24 (0, 0)), (rs, .cells s.cells.toArray 24 (0, 0))]) (fun _ _ _ => True) (fun i => s.accts.length - i) 0 ⟨by omega, fun j hj => absurd hj (by omega)⟩ (.cons rfl (.cons rfl (.cons rfl .nil))) (List.Sublist.refl _) (fun _ _ h => h) ?_; rintro i ⟨hi1, hinv⟩; refine HC_seq fun K8 hK8 => ?_; refine HC_seq fun K9 hK9 => ?_; refine HC_region ?_; refine HL_r rfl rfl rfl rfl (R_move rfl) ?_
    refine HL_r rfl rfl rfl rfl (R_fieldAddr rfl rfl (by first | (simp only [Nat.zero_add, Nat.reduceAdd, Nat.reduceMul, Nat.zero_mul, Nat.mul_one, Nat.add_zero]; exact rfl) | exact rfl)) ?_; refine HL_r rfl rfl rfl rfl (R_load rfl (known_L (k := 1) rfl) rfl rfl) ?_; refine HL_r rfl rfl rfl rfl (R_lenPl rfl h1 rfl) ?_; refine HL_r rfl rfl rfl rfl (R_pure rfl rfl rfl) ?_; refine HL_nil ?_; refine HQ_then ?_; refine hK9 _ _ _ _ ?_; clear hK9 K9; refine HC_cond rfl (fun h10 => ?_) (fun h10 => ?_)
    · try exact Bool.noConfusion h10
      try simp only [Z1, Z2, Z3, Z4, Z5, Z6, Z7, Z8, Z9, Z10, Z11, Z12, Z13] at h10
      refine HC_skip ?_; refine HQ_then ?_; refine hK8 _ _ _ _ ?_; clear hK8 K8; refine HC_seq fun K11 hK11 => ?_; refine HC_block ?_; refine HC_seq fun K12 hK12 => ?_
      obtain ⟨x, hx, hmx⟩ := getI (show i < s.accts.length by omega)
      obtain ⟨y, hy, hmy⟩ := getI (show i < t.accts.length by omega)
      refine HC_draw 12 (by kernel_rfl) (by kernel_rfl) ?_
      refine HD_r rfl rfl rfl (R_fieldAddr rfl rfl (by first | (simp only [Nat.zero_add, Nat.reduceAdd, Nat.reduceMul, Nat.zero_mul, Nat.mul_one, Nat.add_zero]; exact rfl) | exact rfl)) ?_; refine HD_r rfl rfl rfl (R_load rfl (known_L (k := 1) rfl) rfl rfl) ?_; refine HD_r rfl rfl rfl (R_move rfl) ?_
      refine HD_r rfl rfl rfl (R_indexPl (j := i) rfl h1 rfl rfl rfl (by first | rfl | omega) (by omega)) ?_; refine HD_r rfl rfl rfl (R_loadEl AcL.len (fun q hq => Or.inr hq) rfl h1 hx rfl rfl) ?_
      refine HD_r rfl rfl rfl (R_fieldAddr rfl rfl (by first | (simp only [Nat.zero_add, Nat.reduceAdd, Nat.reduceMul, Nat.zero_mul, Nat.mul_one, Nat.add_zero]; exact rfl) | exact rfl)) ?_; refine HD_r rfl rfl rfl (R_load rfl (known_L (k := 0) rfl) rfl rfl) ?_; refine HD_r rfl rfl rfl (R_move rfl) ?_
      refine HD_r rfl rfl rfl (R_indexPl (j := i) rfl h2 rfl rfl rfl (by first | rfl | omega) (by omega)) ?_; refine HD_r rfl rfl rfl (R_loadEl AcL.len (fun q hq => Or.inr hq) rfl h2 hy rfl rfl) ?_; refine HD_callR rfl rfl rfl (enters_of Tryz.func41 (by kernel_rfl) rfl) (S_SameAcct (hs.accts x hmx) (ht.accts y hmy)) (fun q hq => Or.inr hq) ?_; refine HD_r rfl rfl rfl (R_pure rfl rfl rfl) ?_; refine HD_end ?_; refine HL_nil ?_; refine HQ_then ?_; refine hK12 _ _ _ _ ?_; clear hK12 K12; refine HC_cond rfl (fun h13 => ?_) (fun h13 => ?_)
      · try exact Bool.noConfusion h13
        try simp only [Z1, Z2, Z3, Z4, Z5, Z6, Z7, Z8, Z9, Z10, Z11, Z12, Z13] at h13
        refine HC_seq fun K14 hK14 => ?_; refine HC_region ?_; refine HL_r rfl rfl rfl rfl (R_assign rfl) ?_; refine HL_nil ?_; refine HQ_then ?_; refine hK14 _ _ _ _ ?_; clear hK14 K14; refine HC_ret ?_; refine HQ_blockR ?_; refine HQ_thenR ?_; clear hK11 K11; refine HQ_thenR ?_; refine HQ_blockR ?_; refine HQ_thenR ?_; clear hK6 K6; refine HQ_post rfl rfl (.cons (res_tmp rfl) .nil) (fun w1 hs1 => ?_); refine ⟨?_, hs1.keep⟩; rw [decide_eq_false (show ¬ s.er = t.er from fun e => by have := (same_er'.1 e).2 i x y hx hy; simp_all)]; rfl
      · try exact Bool.noConfusion h13
        try simp only [Z1, Z2, Z3, Z4, Z5, Z6, Z7, Z8, Z9, Z10, Z11, Z12, Z13] at h13
        refine HC_skip ?_; refine HQ_blockN ?_; refine HQ_then ?_; refine hK11 _ _ _ _ ?_; clear hK11 K11; refine HC_region ?_; refine HL_r rfl rfl rfl rfl (R_move rfl) ?_; refine HL_r rfl rfl rfl rfl (R_pure rfl rfl rfl) ?_; refine HL_wrap_i64 (by omega) (by omega) ?_; refine HL_r rfl rfl rfl rfl (R_assign rfl) ?_; refine HL_nil ?_; refine HQ_then ?_
        exact HQ_again (i + 1) ⟨by omega, fun q hq u v hu hv => by
          rcases Nat.lt_succ_iff_lt_or_eq.1 hq with hq | rfl
          · exact hinv q hq u v hu hv
          · rw [hx] at hu; rw [hy] at hv; cases hu; cases hv; simp_all⟩ (by omega) (.cons rfl (.cons rfl (.cons rfl .nil))) (List.Sublist.refl _) (fun _ _ h => h)
    · try exact Bool.noConfusion h10
      try simp only [Z1, Z2, Z3, Z4, Z5, Z6, Z7, Z8, Z9, Z10, Z11, Z12, Z13] at h10
      refine HC_exit ?_; refine HQ_thenE ?_; clear hK8 K8; refine HQ_thenE ?_; refine HQ_blockE ?_; refine HQ_then ?_; refine hK6 _ _ _ _ ?_; clear hK6 K6; refine HC_seq fun K15 hK15 => ?_; refine HC_region ?_; refine HL_r rfl rfl rfl rfl (R_assign rfl) ?_; refine HL_nil ?_; refine HQ_then ?_; refine hK15 _ _ _ _ ?_; clear hK15 K15; refine HC_ret ?_; refine HQ_post rfl rfl (.cons (res_tmp rfl) .nil) (fun w1 hs1 => ?_); refine ⟨?_, hs1.keep⟩; rw [decide_eq_true (same_er'.2 ⟨hll, fun q a b ha hb => hinv q (by have := (List.getElem?_eq_some_iff.1 ha).1; omega) a b ha hb⟩)]; rfl
end Go.Proofs.YtnkmbkndpoghdaaGreat
namespace Go.Proofs.YtnkmbkndpoghdaaGreat
set_option linter.all false
open Go.SL Go.RowKit Go.Shelf
/-! ### the reference of states: with, Put, Set -/
theorem chk_one (e : AcE) : chkS [e] = lkE e := by
  unfold chkS goS
  rw [if_neg (by show ¬ 1 > 32; decide), step_none]
  split
  · rfl
  · rename_i h
    rw [goS]; exact (Decidable.not_not.1 h).symm
/-- A slice that is grown element by element. -/
structure OutI {α : Type} (f : α → List Value) (sz : Nat) (acc : List α) (n : Nat) (xs : List Value) (row : Row) : Prop where
  num : n = acc.length
  cells : xs = acc.flatMap f
  ok : rowOk sz n xs row
theorem OutI.nil {α : Type} {f : α → List Value} {sz : Nat} : OutI f sz [] 0 [] none := ⟨rfl, rfl, rfl, rfl⟩
theorem OutI.snoc {α : Type} {f : α → List Value} {sz n : Nat} {acc : List α} {xs : List Value} {row row' : Row} (h : OutI f sz acc n xs row) {x : α} (h' : rowOk sz (n + 1) (xs ++ f x) row') : OutI f sz (acc ++ [x]) (n + 1) (xs ++ f x) row' :=
  ⟨by rw [List.length_append, h.num]; rfl, by rw [List.flatMap_append, h.cells]; simp, h'⟩
theorem merge_cons {α : Type} {kf : α → BS} {x y : α} {p : Bool} {ys : List α} : merge kf x p (y :: ys) = (if !p && !Op.bytesLess (kf y) (kf x) then [x] else []) ++ (if kf y = kf x then [] else [y]) ++ merge kf x (p || !Op.bytesLess (kf y) (kf x)) ys := rfl
theorem merge_step {α : Type} {kf : α → BS} {x : α} {res acc t : List α} {pt b : Bool} {ys : List α} (h : res = acc ++ ((if (!pt && !b) = true then [x] else []) ++ t ++ merge kf x (pt || !b) ys)) :
    (pt = false → b = false → res = (acc ++ [x]) ++ (t ++ merge kf x true ys)) ∧ (pt = true ∨ b = true → res = acc ++ (t ++ merge kf x pt ys)) := by
  rw [h]; refine ⟨fun h1 h2 => ?_, fun h1 => ?_⟩
  · subst h1 h2; simp
  · rcases h1 with h1 | h1 <;> subst h1 <;> simp
set_option maxRecDepth 10000 in
theorem S_rwith {R : List (Nat × Obj)} {l : List (BS × BS)} {p : Pl} (hl : l.length ≤ 1000) (hs : Seg R l.length (l.flatMap slC) p) (x : BS × BS) :
    PureT (α := { row : Row // rowOk 2 (merge Prod.fst x (decide (x.2 = noneB)) l).length ((merge Prod.fst x (decide (x.2 = noneB)) l).flatMap slC) row }) Tryz.prog 100 [plV l.length p, sltV x].toArray (fun y => rowV (merge Prod.fst x (decide (x.2 = noneB)) l).length y.1) [] (fun y => rowL 93 ((merge Prod.fst x (decide (x.2 = noneB)) l).flatMap slC) y.1) R := by
  obtain ⟨p0, hp0⟩ : ∃ b, b = decide (x.2 = noneB) := ⟨_, rfl⟩
  rw [← hp0]
  obtain ⟨res, hres⟩ : ∃ r, r = merge Prod.fst x p0 l := ⟨_, rfl⟩
  rw [← hres]; refine pureT_of_HC Tryz.func100 rfl rfl fun w => ?_; refine HC_seq fun K1 hK1 => ?_; refine HC_region ?_; refine HL_box (cs := (slC x).toArray) rfl rfl rfl rfl fun rx => ?_; refine HL_r rfl rfl rfl rfl (R_assign rfl) ?_; refine HL_nil ?_; refine HQ_then ?_; refine hK1 _ _ _ _ ?_; clear hK1 K1; refine HC_seq fun K2 hK2 => ?_; refine HC_region ?_; refine HL_r rfl rfl rfl rfl (R_assign rfl) ?_; refine HL_nil ?_; refine HQ_then ?_; refine hK2 _ _ _ _ ?_; clear hK2 K2; refine HC_seq fun K3 hK3 => ?_; refine HC_draw 5 (by kernel_rfl) (by kernel_rfl) ?_
  refine HD_r rfl rfl rfl (R_fieldAddr rfl rfl (by first | (simp only [Nat.zero_add, Nat.reduceAdd, Nat.reduceMul, Nat.zero_mul, Nat.mul_one, Nat.add_zero]; exact rfl) | exact rfl)) ?_; refine HD_r rfl rfl rfl (R_load rfl (known_L (k := 0) rfl) rfl rfl) ?_; refine HD_callP rfl rfl rfl (enters_of Tryz.func61 (by kernel_rfl) rfl) P_rNone ?_; refine HD_r rfl rfl rfl (R_strEq (a := x.2) (b := noneB) rfl rfl) ?_; refine HD_as (as_bool hp0.symm) ?_; refine HD_r rfl rfl rfl (R_assign rfl) ?_; refine HD_end ?_; refine HL_nil ?_; refine HQ_then ?_; refine hK3 _ _ _ _ ?_; clear hK3 K3; refine HC_seq fun K4 hK4 => ?_; refine HC_seq fun K5 hK5 => ?_; refine HC_region ?_; refine HL_r rfl rfl rfl rfl (R_assign rfl) ?_; refine HL_nil ?_; refine HQ_then ?_; refine hK5 _ _ _ _ ?_; clear hK5 K5; refine HC_block ?_; refine HC_loop (σ := Nat × Bool × List (BS × BS) × Nat × List Value × Row) (fun q => q.1 ≤ l.length ∧ res = q.2.2.1 ++ merge Prod.fst x q.2.1 (l.drop q.1) ∧ OutI slC 2 q.2.2.1 q.2.2.2.1 q.2.2.2.2.1 q.2.2.2.2.2 ∧ q.2.2.2.1 ≤ 2 * q.1) (fun q => [(0, plV l.length p), (3, ptV rx 0), (5, rowV q.2.2.2.1 q.2.2.2.2.2), (6, .bool q.2.1), (7, .int .i64 (q.1 : Int))]) (fun q => (rx, .cells (slC x).toArray 93 (0, 0)) :: rowL 93 q.2.2.2.2.1 q.2.2.2.2.2) (fun _ _ _ => True) (fun q => l.length - q.1) (0, p0, [], 0, [], none) ⟨Nat.zero_le _, hres, OutI.nil, Nat.zero_le _⟩ (.cons rfl (.cons rfl (.cons rfl (.cons rfl (.cons rfl .nil))))) (List.Sublist.refl _) (fun _ _ h => h) ?_; rintro ⟨i, pt, acc, n, xs, row⟩ ⟨hi1, hinv, ho, hn2⟩; simp only at hi1 hinv ho hn2; change HC _ _ [(0, _), (3, _), (5, rowV n row), (6, .bool pt), (7, .int .i64 (i : Int))] ((rx, _) :: rowL _ xs row) _ _ _; refine HC_seq fun K6 hK6 => ?_; refine HC_seq fun K7 hK7 => ?_; refine HC_region ?_; refine HL_r rfl rfl rfl rfl (R_move rfl) ?_; refine HL_r rfl rfl rfl rfl (R_move rfl) ?_; refine HL_r rfl rfl rfl rfl (R_lenPl rfl hs rfl) ?_; refine HL_r rfl rfl rfl rfl (R_pure rfl rfl rfl) ?_; refine HL_nil ?_; refine HQ_then ?_; refine hK7 _ _ _ _ ?_; clear hK7 K7; refine HC_cond rfl (fun h8 => ?_) (fun h8 => ?_)
  · try exact Bool.noConfusion h8
    try simp only [Z1, Z2, Z3, Z4, Z5, Z6, Z7, Z8, Z9, Z10, Z11, Z12, Z13] at h8
    refine HC_skip ?_; refine HQ_then ?_; refine hK6 _ _ _ _ ?_; clear hK6 K6; refine HC_seq fun K9 hK9 => ?_; refine HC_block ?_; refine HC_seq fun K10 hK10 => ?_; refine HC_seq fun K11 hK11 => ?_
    obtain ⟨y, hy, hmy⟩ := getI (show i < l.length by omega)
    rw [dropI hy, merge_cons] at hinv
    have hno := ho.num
    refine HC_draw 12 (by kernel_rfl) (by kernel_rfl) ?_; refine HD_r rfl rfl rfl (R_move rfl) ?_; refine HD_r rfl rfl rfl (R_pure rfl rfl rfl) ?_; refine HD_r rfl rfl rfl (R_move rfl) ?_
    refine HD_case 20 rfl (fun hb12 => ?_) (fun hb12 => ?_) <;> (try simp only [Z1, Z2, Z3, Z4, Z5, Z6, Z7, Z8, Z9, Z10, Z11, Z12, Z13] at hb12) <;> first | (refine HD_r rfl rfl rfl (R_move rfl) ?_) | (refine HD_skip rfl rfl rfl ?_)
    all_goals first
      | (refine HD_r rfl rfl rfl (R_move rfl) ?_)
      | (refine HD_skip rfl rfl rfl ?_)
    all_goals first
      | (refine HD_r rfl rfl rfl (R_indexPl (j := i) rfl hs rfl rfl rfl (by first | rfl | omega) (by omega)) ?_)
      | (refine HD_skip rfl rfl rfl ?_)
    all_goals first
      | (refine HD_r rfl rfl rfl (R_fieldAddr (off' := plO p + (i * 2 + 0)) rfl rfl (by show plO p + i * 2 + 0 = _; omega)) ?_)
      | (refine HD_skip rfl rfl rfl ?_)
    all_goals first
      | (refine HD_r rfl rfl rfl (R_loadEf slC_len (k := 0) (v := strV y.1) (fun q hq => Or.inr hq) rfl hs hy rfl rfl) ?_)
      | (refine HD_skip rfl rfl rfl ?_)
    all_goals first
      | (refine HD_r rfl rfl rfl (R_fieldAddr rfl rfl (by first | (simp only [Nat.zero_add, Nat.reduceAdd, Nat.reduceMul, Nat.zero_mul, Nat.mul_one, Nat.add_zero]; exact rfl) | exact rfl)) ?_)
      | (refine HD_skip rfl rfl rfl ?_)
    all_goals first
      | (refine HD_r rfl rfl rfl (R_load rfl (known_L (k := 0) rfl) rfl rfl) ?_)
      | (refine HD_skip rfl rfl rfl ?_)
    all_goals first
      | (refine HD_r rfl rfl rfl (R_strGe (a := y.1) (b := x.1) rfl rfl) ?_)
      | (refine HD_skip rfl rfl rfl ?_)
    all_goals first
      | (refine HD_r rfl rfl rfl (R_pickT rfl rfl) ?_)
      | (refine HD_r rfl rfl rfl (R_pickF rfl rfl) ?_)
    all_goals refine HD_end ?_
    all_goals refine HL_nil ?_
    all_goals (
     refine HQ_then ?_; refine hK11 _ _ _ _ ?_; clear hK11 K11; refine HC_cond rfl (fun h20 => ?_) (fun h20 => ?_)
     · try exact Bool.noConfusion h20
       all_goals try simp only [Z1, Z2, Z3, Z4, Z5, Z6, Z7, Z8, Z9, Z10, Z11, Z12, Z13] at h20
       all_goals (
        refine HC_seq fun K21 hK21 => ?_; refine HC_region ?_; refine HL_r rfl rfl rfl rfl (R_move rfl) ?_; refine HL_r rfl rfl rfl rfl (R_loadA (vs := slC x) rfl (known_L (k := 0) rfl) rfl rfl rfl rfl) ?_; refine HL_buildSlice (n := 1) (sz := 2) (vs := [_]) (zs := [_, _]) (r := slC x) rfl rfl rfl rfl rfl rfl rfl rfl rfl (by rw [made_list]; exact rfl) rfl fun rv => ?_; refine HL_appendRow (L0 := [_, _]) (xs := xs) (row := row) (n := n) (sz := 2) (b := 32) (news := slC x) (List.perm_append_comm (l₁ := [_, _])) rfl rfl rfl rfl (known_L (k := 0) rfl) rfl rfl rfl rfl rfl (by decide) rfl rfl rfl (by decide) ho.ok (by omega) (by omega) fun ra cap sp hra => ?_; refine HL_r rfl rfl rfl rfl (R_assign rfl) ?_; refine HL_nil ?_; refine HQ_then ?_; refine hK21 _ _ _ _ ?_; clear hK21 K21; refine HC_sel [2, 0] (L' := [_, _]) (by decide) rfl ?_
        obtain ⟨pt2, hpt2⟩ : ∃ b, b = true := ⟨_, rfl⟩
        refine HC_region ?_; refine HL_r rfl rfl rfl rfl (R_assign rfl) ?_; refine HL_as (congrArg Value.bool hpt2.symm) ?_; refine HL_nil ?_; refine HQ_then ?_; refine hK10 _ _ _ _ ?_; clear hK10 K10; refine HC_seq fun K22 hK22 => ?_
        (have ho1 := ho.snoc hra
         have hinv1 := (merge_step hinv).1 (by assumption) (by assumption)
         have hn1 : n + 1 ≤ 2 * i + 1 := by omega
         change HC _ _ ((6, .bool pt2) :: (5, rowV (n + 1) (some (ra, cap, sp))) :: _) ((rx, _) :: rowL 93 (xs ++ slC x) (some (ra, cap, sp))) _ _ _; clear hinv ho hno hra hn2
         generalize acc ++ [x] = acc at ho1 hinv1
         generalize n + 1 = n at ho1 hn1 ⊢
         generalize xs ++ slC x = xs at ho1 ⊢
         generalize (some (ra, cap, sp) : Row) = row at ho1 ⊢
         rw [← hpt2] at hinv1; clear hpt2
         obtain ⟨pt, rfl⟩ : ∃ b, b = pt2 := ⟨pt2, rfl⟩)
        have ho := ho1
        have hno := ho.num
        refine HC_draw 8 (by kernel_rfl) (by kernel_rfl) ?_; refine HD_r rfl rfl rfl (R_move rfl) ?_; refine HD_r rfl rfl rfl (R_move rfl) ?_
        refine HD_r rfl rfl rfl (R_indexPl (j := i) rfl hs rfl rfl rfl (by first | rfl | omega) (by omega)) ?_; refine HD_r rfl rfl rfl (R_fieldAddr (off' := plO p + (i * 2 + 0)) rfl rfl (by show plO p + i * 2 + 0 = _; omega)) ?_; refine HD_r rfl rfl rfl (R_loadEf slC_len (k := 0) (v := strV y.1) (fun q hq => Or.inr hq) rfl hs hy rfl rfl) ?_
        refine HD_r rfl rfl rfl (R_fieldAddr rfl rfl (by first | (simp only [Nat.zero_add, Nat.reduceAdd, Nat.reduceMul, Nat.zero_mul, Nat.mul_one, Nat.add_zero]; exact rfl) | exact rfl)) ?_; refine HD_r rfl rfl rfl (R_load rfl (known_L (k := 0) rfl) rfl rfl) ?_; refine HD_r rfl rfl rfl (R_strNe (a := y.1) (b := x.1) rfl rfl) ?_; refine HD_end ?_; refine HL_nil ?_; refine HQ_then ?_; refine hK22 _ _ _ _ ?_; clear hK22 K22; refine HC_cond rfl (fun h23 => ?_) (fun h23 => ?_)
        · try exact Bool.noConfusion h23
          try simp only [Z1, Z2, Z3, Z4, Z5, Z6, Z7, Z8, Z9, Z10, Z11, Z12, Z13] at h23
          refine HC_region ?_; refine HL_r rfl rfl rfl rfl (R_move rfl) ?_; refine HL_r rfl rfl rfl rfl (R_move rfl) ?_; refine HL_r rfl rfl rfl rfl (R_move rfl) ?_
          refine HL_r rfl rfl rfl rfl (R_indexPl (j := i) rfl hs rfl rfl rfl (by first | rfl | omega) (by omega)) ?_; refine HL_r rfl rfl rfl rfl (R_loadEl slC_len (fun q hq => Or.inr hq) rfl hs hy rfl rfl) ?_; refine HL_buildSlice (n := 1) (sz := 2) (vs := [_]) (zs := [_, _]) (r := slC y) rfl rfl rfl rfl rfl rfl rfl rfl rfl (by rw [made_list]; exact rfl) rfl fun rv => ?_; refine HL_appendRow (L0 := [_, _]) (xs := xs) (row := row) (n := n) (sz := 2) (b := 32) (news := slC y) (List.perm_append_comm (l₁ := [_, _])) rfl rfl rfl rfl (known_L (k := 0) rfl) rfl rfl rfl rfl rfl (by decide) rfl rfl rfl (by decide) ho.ok (by omega) (by omega) fun ra cap sp hra => ?_; refine HL_r rfl rfl rfl rfl (R_assign rfl) ?_; refine HL_nil ?_; refine HQ_blockN ?_; refine HQ_then ?_; refine hK9 _ _ _ _ ?_; clear hK9 K9; refine HC_region ?_; refine HL_r rfl rfl rfl rfl (R_move rfl) ?_; refine HL_r rfl rfl rfl rfl (R_pure rfl rfl rfl) ?_; refine HL_wrap_i64 (by omega) (by omega) ?_; refine HL_r rfl rfl rfl rfl (R_assign rfl) ?_; refine HL_nil ?_; refine HQ_then ?_
          (refine HQ_sel [2, 0] (L' := [_, _]) (by decide) rfl ?_
           exact HQ_again (i + 1, pt, acc ++ [y], n + 1, xs ++ slC y, some (ra, cap, sp)) ⟨by simp only; omega, by rw [hinv1, if_neg (by assumption)]; simp, ho.snoc hra, by simp only; omega⟩ (by simp only; omega) (.cons rfl (.cons rfl (.cons rfl (.cons rfl (.cons rfl .nil))))) (List.Sublist.refl _) (fun _ _ h => h))
        · try exact Bool.noConfusion h23
          try simp only [Z1, Z2, Z3, Z4, Z5, Z6, Z7, Z8, Z9, Z10, Z11, Z12, Z13] at h23
          refine HC_skip ?_; refine HQ_blockN ?_; refine HQ_then ?_; refine hK9 _ _ _ _ ?_; clear hK9 K9; refine HC_region ?_; refine HL_r rfl rfl rfl rfl (R_move rfl) ?_; refine HL_r rfl rfl rfl rfl (R_pure rfl rfl rfl) ?_; refine HL_wrap_i64 (by omega) (by omega) ?_; refine HL_r rfl rfl rfl rfl (R_assign rfl) ?_; refine HL_nil ?_; refine HQ_then ?_; exact HQ_again (i + 1, pt, acc, n, xs, row) ⟨by simp only; omega, by rw [hinv1, if_pos (by assumption)]; simp, ho, by simp only; omega⟩ (by simp only; omega) (.cons rfl (.cons rfl (.cons rfl (.cons rfl (.cons rfl .nil))))) (List.Sublist.refl _) (fun _ _ h => h)
        skip)
     · try exact Bool.noConfusion h20
       try simp only [Z1, Z2, Z3, Z4, Z5, Z6, Z7, Z8, Z9, Z10, Z11, Z12, Z13] at h20
       refine HC_skip ?_; refine HQ_then ?_; refine hK10 _ _ _ _ ?_; clear hK10 K10; refine HC_seq fun K24 hK24 => ?_
       (have ho1 := ho
        have hinv1 := (merge_step hinv).2 (by first | exact .inl (by assumption) | exact .inr (by assumption))
        have hn1 : n ≤ 2 * i + 1 := by omega
        clear hinv ho hno hn2)
       have ho := ho1
       have hno := ho.num
       refine HC_draw 8 (by kernel_rfl) (by kernel_rfl) ?_; refine HD_r rfl rfl rfl (R_move rfl) ?_; refine HD_r rfl rfl rfl (R_move rfl) ?_
       refine HD_r rfl rfl rfl (R_indexPl (j := i) rfl hs rfl rfl rfl (by first | rfl | omega) (by omega)) ?_; refine HD_r rfl rfl rfl (R_fieldAddr (off' := plO p + (i * 2 + 0)) rfl rfl (by show plO p + i * 2 + 0 = _; omega)) ?_; refine HD_r rfl rfl rfl (R_loadEf slC_len (k := 0) (v := strV y.1) (fun q hq => Or.inr hq) rfl hs hy rfl rfl) ?_
       refine HD_r rfl rfl rfl (R_fieldAddr rfl rfl (by first | (simp only [Nat.zero_add, Nat.reduceAdd, Nat.reduceMul, Nat.zero_mul, Nat.mul_one, Nat.add_zero]; exact rfl) | exact rfl)) ?_; refine HD_r rfl rfl rfl (R_load rfl (known_L (k := 0) rfl) rfl rfl) ?_; refine HD_r rfl rfl rfl (R_strNe (a := y.1) (b := x.1) rfl rfl) ?_; refine HD_end ?_; refine HL_nil ?_; refine HQ_then ?_; refine hK24 _ _ _ _ ?_; clear hK24 K24; refine HC_cond rfl (fun h25 => ?_) (fun h25 => ?_)
       · try exact Bool.noConfusion h25
         try simp only [Z1, Z2, Z3, Z4, Z5, Z6, Z7, Z8, Z9, Z10, Z11, Z12, Z13] at h25
         refine HC_region ?_; refine HL_r rfl rfl rfl rfl (R_move rfl) ?_; refine HL_r rfl rfl rfl rfl (R_move rfl) ?_; refine HL_r rfl rfl rfl rfl (R_move rfl) ?_
         refine HL_r rfl rfl rfl rfl (R_indexPl (j := i) rfl hs rfl rfl rfl (by first | rfl | omega) (by omega)) ?_; refine HL_r rfl rfl rfl rfl (R_loadEl slC_len (fun q hq => Or.inr hq) rfl hs hy rfl rfl) ?_; refine HL_buildSlice (n := 1) (sz := 2) (vs := [_]) (zs := [_, _]) (r := slC y) rfl rfl rfl rfl rfl rfl rfl rfl rfl (by rw [made_list]; exact rfl) rfl fun rv => ?_; refine HL_appendRow (L0 := [_, _]) (xs := xs) (row := row) (n := n) (sz := 2) (b := 32) (news := slC y) (List.perm_append_comm (l₁ := [_, _])) rfl rfl rfl rfl (known_L (k := 0) rfl) rfl rfl rfl rfl rfl (by decide) rfl rfl rfl (by decide) ho.ok (by omega) (by omega) fun ra cap sp hra => ?_; refine HL_r rfl rfl rfl rfl (R_assign rfl) ?_; refine HL_nil ?_; refine HQ_blockN ?_; refine HQ_then ?_; refine hK9 _ _ _ _ ?_; clear hK9 K9; refine HC_region ?_; refine HL_r rfl rfl rfl rfl (R_move rfl) ?_; refine HL_r rfl rfl rfl rfl (R_pure rfl rfl rfl) ?_; refine HL_wrap_i64 (by omega) (by omega) ?_; refine HL_r rfl rfl rfl rfl (R_assign rfl) ?_; refine HL_nil ?_; refine HQ_then ?_
         (refine HQ_sel [2, 0] (L' := [_, _]) (by decide) rfl ?_
          exact HQ_again (i + 1, pt, acc ++ [y], n + 1, xs ++ slC y, some (ra, cap, sp)) ⟨by simp only; omega, by rw [hinv1, if_neg (by assumption)]; simp, ho.snoc hra, by simp only; omega⟩ (by simp only; omega) (.cons rfl (.cons rfl (.cons rfl (.cons rfl (.cons rfl .nil))))) (List.Sublist.refl _) (fun _ _ h => h))
       · try exact Bool.noConfusion h25
         try simp only [Z1, Z2, Z3, Z4, Z5, Z6, Z7, Z8, Z9, Z10, Z11, Z12, Z13] at h25
         refine HC_skip ?_; refine HQ_blockN ?_; refine HQ_then ?_; refine hK9 _ _ _ _ ?_; clear hK9 K9; refine HC_region ?_; refine HL_r rfl rfl rfl rfl (R_move rfl) ?_; refine HL_r rfl rfl rfl rfl (R_pure rfl rfl rfl) ?_; refine HL_wrap_i64 (by omega) (by omega) ?_; refine HL_r rfl rfl rfl rfl (R_assign rfl) ?_; refine HL_nil ?_; refine HQ_then ?_; exact HQ_again (i + 1, pt, acc, n, xs, row) ⟨by simp only; omega, by rw [hinv1, if_pos (by assumption)]; simp, ho, by simp only; omega⟩ (by simp only; omega) (.cons rfl (.cons rfl (.cons rfl (.cons rfl (.cons rfl .nil))))) (List.Sublist.refl _) (fun _ _ h => h)
     skip)
  · try exact Bool.noConfusion h8
    try simp only [Z1, Z2, Z3, Z4, Z5, Z6, Z7, Z8, Z9, Z10, Z11, Z12, Z13] at h8
    refine HC_exit ?_; refine HQ_thenE ?_; clear hK6 K6; refine HQ_thenE ?_; refine HQ_blockE ?_; refine HQ_then ?_; refine hK4 _ _ _ _ ?_; clear hK4 K4; refine HC_seq fun K26 hK26 => ?_; refine HC_seq fun K27 hK27 => ?_
    obtain rfl : i = l.length := by omega
    rw [List.drop_length, merge] at hinv
    have hno := ho.num
    refine HC_region ?_; refine HL_r rfl rfl rfl rfl (R_move rfl) ?_; refine HL_r rfl rfl rfl rfl (R_pure rfl rfl rfl) ?_; refine HL_nil ?_; refine HQ_then ?_; refine hK27 _ _ _ _ ?_; clear hK27 K27; refine HC_cond rfl (fun h28 => ?_) (fun h28 => ?_)
    · try exact Bool.noConfusion h28
      try simp only [Z1, Z2, Z3, Z4, Z5, Z6, Z7, Z8, Z9, Z10, Z11, Z12, Z13] at h28
      refine HC_region ?_; refine HL_r rfl rfl rfl rfl (R_move rfl) ?_; refine HL_r rfl rfl rfl rfl (R_loadA (vs := slC x) rfl (known_L (k := 0) rfl) rfl rfl rfl rfl) ?_; refine HL_buildSlice (n := 1) (sz := 2) (vs := [_]) (zs := [_, _]) (r := slC x) rfl rfl rfl rfl rfl rfl rfl rfl rfl (by rw [made_list]; exact rfl) rfl fun rv => ?_; refine HL_appendRow (L0 := [_, _]) (xs := xs) (row := row) (n := n) (sz := 2) (b := 32) (news := slC x) (List.perm_append_comm (l₁ := [_, _])) rfl rfl rfl rfl (known_L (k := 0) rfl) rfl rfl rfl rfl rfl (by decide) rfl rfl rfl (by decide) ho.ok (by omega) (by omega) fun ra cap sp hra => ?_; refine HL_r rfl rfl rfl rfl (R_assign rfl) ?_; refine HL_nil ?_; refine HQ_then ?_; refine hK26 _ _ _ _ ?_; clear hK26 K26; refine HC_seq fun K29 hK29 => ?_; refine HC_region ?_; refine HL_r rfl rfl rfl rfl (R_move rfl) ?_; refine HL_r rfl rfl rfl rfl (R_assign rfl) ?_; refine HL_nil ?_; refine HQ_then ?_; refine hK29 _ _ _ _ ?_; clear hK29 K29; refine HC_ret ?_; refine HQ_post rfl rfl (.cons (res_tmp rfl) .nil) (fun w1 hs1 => ?_)
      (have hr : res = acc ++ [x] := by rw [hinv]; simp_all
       have ho1 := ho.snoc hra
       rw [← hr] at ho1
       obtain ⟨e1, e2, e3⟩ := ho1
       rw [← e1, ← e2]
       exact ⟨⟨some (ra, cap, sp), e3⟩, rfl, hs1.weakL (.cons_cons _ (List.nil_sublist _))⟩)
    · try exact Bool.noConfusion h28
      try simp only [Z1, Z2, Z3, Z4, Z5, Z6, Z7, Z8, Z9, Z10, Z11, Z12, Z13] at h28
      refine HC_skip ?_; refine HQ_then ?_; refine hK26 _ _ _ _ ?_; clear hK26 K26; refine HC_seq fun K30 hK30 => ?_; refine HC_region ?_; refine HL_r rfl rfl rfl rfl (R_move rfl) ?_; refine HL_r rfl rfl rfl rfl (R_assign rfl) ?_; refine HL_nil ?_; refine HQ_then ?_; refine hK30 _ _ _ _ ?_; clear hK30 K30; refine HC_ret ?_; refine HQ_post rfl rfl (.cons (res_tmp rfl) .nil) (fun w1 hs1 => ?_)
      (have hr : res = acc := by rw [hinv]; simp_all
       rw [← hr] at ho
       obtain ⟨e1, e2, e3⟩ := ho
       rw [← e1, ← e2]
       exact ⟨⟨row, e3⟩, rfl, hs1.weakL (.cons _ (List.Sublist.refl _))⟩)
theorem merge_mem {α : Type} {kf : α → BS} {x z : α} : ∀ {p : Bool} {l : List α}, z ∈ merge kf x p l → z = x ∨ z ∈ l
  | p, [], h => by
    rw [merge] at h
    split at h
    · cases h
    · exact .inl (List.mem_singleton.1 h)
  | p, y :: ys, h => by
    rw [merge_cons] at h
    rcases List.mem_append.1 h with h | h
    · rcases List.mem_append.1 h with h | h
      · split at h
        · exact .inl (List.mem_singleton.1 h)
        · cases h
      · split at h
        · cases h
        · rw [List.mem_singleton.1 h]; exact .inr List.mem_cons_self
    · exact (merge_mem h).imp id (List.mem_cons_of_mem _)
theorem one_seg {a : AcL} {r : Nat} : Seg [(r, .cells a.cells.toArray 55 (0, 0))] [a].length ([a].flatMap AcL.cells) (some (⟨r, 0, none⟩, 1)) := by
  have h := rowP_seg (row := some (r, 1, [])) (sz := 8) (n := 1) (e := 55) (cs := a.cells) ⟨rfl, rfl⟩ (by decide)
  simpa [rowL, rowP] using h
theorem one_in {R : List (Nat × Obj)} {a : AcL} (ha : a.In R) (r : Nat) : StL.In ((r, .cells a.cells.toArray 55 (0, 0)) :: R) ⟨[a], some (⟨r, 0, none⟩, 1)⟩ :=
  ⟨by show 1 ≤ _; decide, one_seg.mono fun q hq => by rw [List.mem_singleton.1 hq]; exact List.mem_cons_self, fun x hx => by rw [List.mem_singleton.1 hx]; exact ha.mono fun q hq => List.mem_cons_of_mem _ hq⟩
set_option maxHeartbeats 1000000 in
set_option maxRecDepth 10000 in
theorem S_rPut {R : List (Nat × Obj)} {s : StL} {a : AcL} (hs : s.In R) (ha : a.In R) : PureT (α := StRes R (putS s.er a.er)) Tryz.prog 56 [s.val, a.val].toArray (fun x => x.val) [] (fun x => x.L) R := by
  have hl := hs.len
  have hseg := hs.seg
  have hc := S_rCheck hs
  have hput : putS s.er a.er = if chkS s.er ≠ 0 then (s.er, chkS s.er) else if lkE a.er ≠ 0 then (s.er, lkE a.er) else if (insL AcE.addr a.er s.er).length > 32 then (s.er, 5) else (insL AcE.addr a.er s.er, 0) := rfl
  obtain ⟨res, hres⟩ : ∃ r, r = merge AcL.addr a false s.accts := ⟨_, rfl⟩
  have hset : chkS s.er = 0 → (insL AcE.addr a.er s.er) = res.map AcL.er ∧ s.accts.length ≤ 32 ∧ (insL AcE.addr a.er s.er).length = s.accts.length + (if foundB s a.addr then 0 else 1) := fun h => by
    have h' := chk_ok.1 h
    have h2 : Sorted AcL.addr s.accts := (er_sorted s).2 h'.2.2
    refine ⟨?_, by rw [← s.er_len]; exact h'.1, ?_⟩
    · rw [hres, merge_ins h2, ins_er]; rfl
    · rw [ins_len h'.2.2, s.er_len, found_eq]
      by_cases hf : (findS s.er a.addr).isSome = true
      · rw [if_pos hf, if_pos (show (lookL AcE.addr a.er.addr s.er).isSome = true from hf)]; rfl
      · rw [if_neg hf, if_neg (show ¬ (lookL AcE.addr a.er.addr s.er).isSome = true from hf)]
  refine pureT_of_HC Tryz.func56 rfl rfl fun w => ?_; refine HC_seq fun K1 hK1 => ?_; refine HC_region ?_; refine HL_box (cs := s.cells.toArray) rfl rfl rfl rfl fun rs => ?_; refine HL_box (cs := a.cells.toArray) rfl rfl rfl rfl fun ra => ?_; refine HL_alloc (cs := #[_]) rfl rfl rfl rfl fun r1 => ?_; refine HL_r rfl rfl rfl rfl (R_assign rfl) ?_; refine HL_nil ?_; refine HQ_then ?_; refine hK1 _ _ _ _ ?_; clear hK1 K1; refine HC_seq fun K2 hK2 => ?_; refine HC_region ?_; refine HL_r rfl rfl rfl rfl (R_loadArr (xs := s.cells) (n := 1) rfl (known_L (k := 2) rfl) rfl rfl rfl) ?_; refine HL_callR rfl rfl rfl (enters_of Tryz.func52 (by kernel_rfl) rfl) hc (fun q hq => Or.inr hq) ?_; refine HL_r rfl rfl rfl rfl (R_assign rfl) ?_; refine HL_nil ?_; refine HQ_then ?_; refine hK2 _ _ _ _ ?_; clear hK2 K2; refine HC_seq fun K3 hK3 => ?_; refine HC_seq fun K4 hK4 => ?_; refine HC_region ?_; refine HL_r rfl rfl rfl rfl (R_move rfl) ?_; refine HL_r rfl rfl rfl rfl (R_pure rfl rfl rfl) ?_; refine HL_nil ?_; refine HQ_then ?_; refine hK4 _ _ _ _ ?_; clear hK4 K4; refine HC_cond rfl (fun h5 => ?_) (fun h5 => ?_)
  · try exact Bool.noConfusion h5
    try simp only [Z1, Z2, Z3, Z4, Z5, Z6, Z7, Z8, Z9, Z10, Z11, Z12, Z13] at h5
    refine HC_seq fun K6 hK6 => ?_; refine HC_region ?_; refine HL_r rfl rfl rfl rfl (R_loadArr (xs := s.cells) (n := 1) rfl (known_L (k := 2) rfl) rfl rfl rfl) ?_; refine HL_r rfl rfl rfl rfl (R_move rfl) ?_; refine HL_storeArr (k := 0) (n := 1) (ys := s.cells) rfl rfl rfl rfl rfl rfl rfl rfl rfl ?_; refine HL_r rfl rfl rfl rfl (R_assign rfl) ?_; refine HL_nil ?_; refine HQ_then ?_; refine hK6 _ _ _ _ ?_; clear hK6 K6; refine HC_ret ?_; refine HQ_thenR ?_; clear hK3 K3; refine HQ_post rfl rfl (.cons (res_cellA (vs := [_]) rfl (known_L (k := 0) rfl) rfl rfl) (.cons (res_tmp rfl) .nil)) (fun w1 hs1 => ?_); rw [hput, if_pos (by omega)]; exact ⟨⟨s, chkS s.er, [], hs, rfl⟩, rfl, hs1.weakL (List.nil_sublist _)⟩
  · try exact Bool.noConfusion h5
    try simp only [Z1, Z2, Z3, Z4, Z5, Z6, Z7, Z8, Z9, Z10, Z11, Z12, Z13] at h5
    refine HC_skip ?_; refine HQ_then ?_; refine hK3 _ _ _ _ ?_; clear hK3 K3; refine HC_seq fun K7 hK7 => ?_; refine HC_region ?_; refine HL_r rfl rfl rfl rfl (R_loadArr (xs := a.cells) (n := 8) rfl (known_L (k := 1) rfl) rfl rfl rfl) ?_; refine HL_buildSlice (n := 1) (sz := 8) (vs := [_]) (zs := [_, _, _, _, _, _, _, _]) (r := a.cells) rfl rfl rfl rfl rfl rfl rfl rfl rfl (by rw [made_list]; exact rfl) rfl fun rv => ?_; refine HL_r rfl rfl rfl rfl (R_build (r := [_]) rfl rfl) ?_; refine HL_callR (v := .int .i64 (chkS (StL.er ⟨[a], some (⟨rv, 0, none⟩, 1)⟩))) rfl rfl rfl (enters_of Tryz.func52 (by kernel_rfl) rfl) (S_rCheck (one_in ha rv)) (fun q hq => (List.mem_cons.1 hq).imp (fun h => by rw [h]; exact List.mem_cons_self) id) ?_; refine HL_as (congrArg (Value.int .i64) (chk_one a.er)) ?_; refine HL_r rfl rfl rfl rfl (R_assign rfl) ?_; refine HL_nil ?_; refine HQ_then ?_; refine hK7 _ _ _ _ ?_; clear hK7 K7; refine HC_seq fun K8 hK8 => ?_; refine HC_seq fun K9 hK9 => ?_; refine HC_region ?_; refine HL_r rfl rfl rfl rfl (R_move rfl) ?_; refine HL_r rfl rfl rfl rfl (R_pure rfl rfl rfl) ?_; refine HL_nil ?_; refine HQ_then ?_; refine hK9 _ _ _ _ ?_; clear hK9 K9; refine HC_cond rfl (fun h10 => ?_) (fun h10 => ?_)
    · try exact Bool.noConfusion h10
      try simp only [Z1, Z2, Z3, Z4, Z5, Z6, Z7, Z8, Z9, Z10, Z11, Z12, Z13] at h10
      refine HC_seq fun K11 hK11 => ?_; refine HC_region ?_; refine HL_r rfl rfl rfl rfl (R_loadArr (xs := s.cells) (n := 1) rfl (known_L (k := 3) rfl) rfl rfl rfl) ?_; refine HL_r rfl rfl rfl rfl (R_move rfl) ?_; refine HL_storeArr (k := 1) (n := 1) (ys := s.cells) rfl rfl rfl rfl rfl rfl rfl rfl rfl ?_; refine HL_r rfl rfl rfl rfl (R_assign rfl) ?_; refine HL_nil ?_; refine HQ_then ?_; refine hK11 _ _ _ _ ?_; clear hK11 K11; refine HC_ret ?_; refine HQ_thenR ?_; clear hK8 K8; refine HQ_post rfl rfl (.cons (res_cellA (vs := [_]) rfl (known_L (k := 1) rfl) rfl rfl) (.cons (res_tmp rfl) .nil)) (fun w1 hs1 => ?_); rw [hput, if_neg (by omega), if_pos (by omega)]; exact ⟨⟨s, lkE a.er, [], hs, rfl⟩, rfl, hs1.weakL (List.nil_sublist _)⟩
    · try exact Bool.noConfusion h10
      try simp only [Z1, Z2, Z3, Z4, Z5, Z6, Z7, Z8, Z9, Z10, Z11, Z12, Z13] at h10
      refine HC_skip ?_; refine HQ_then ?_; refine hK8 _ _ _ _ ?_; clear hK8 K8; refine HC_seq fun K12 hK12 => ?_
      have hok := hset (by omega)
      refine HC_region ?_; refine HL_r rfl rfl rfl rfl (R_loadArr (xs := s.cells) (n := 1) rfl (known_L (k := 3) rfl) rfl rfl rfl) ?_
      refine HL_r rfl rfl rfl rfl (R_fieldAddr rfl rfl (by first | (simp only [Nat.zero_add, Nat.reduceAdd, Nat.reduceMul, Nat.zero_mul, Nat.mul_one, Nat.add_zero]; exact rfl) | exact rfl)) ?_; refine HL_r rfl rfl rfl rfl (R_load rfl (known_L (k := 2) rfl) rfl rfl) ?_; refine HL_callR rfl rfl rfl (enters_of Tryz.func54 (by kernel_rfl) rfl) (S_rFind hs a.addr) (fun q hq => Or.inr hq) ?_; refine HL_r rfl rfl rfl rfl (R_move rfl) ?_; refine HL_r rfl rfl rfl rfl (R_extract rfl rfl) ?_; refine HL_r rfl rfl rfl rfl (R_extract rfl rfl) ?_; refine HL_alloc (cs := #[_, _, _, _, _, _, _, _]) rfl rfl rfl rfl fun r2 => ?_; refine HL_storeArr (k := 0) (n := 8) (ys := ((findL s a.addr)).cells) rfl rfl rfl rfl rfl rfl rfl rfl rfl ?_; refine HL_r rfl rfl rfl rfl (R_assign rfl) ?_; refine HL_nil ?_; refine HQ_then ?_; refine hK12 _ _ _ _ ?_; clear hK12 K12; refine HC_seq fun K13 hK13 => ?_; refine HC_seq fun K14 hK14 => ?_; refine HC_region ?_; refine HL_r rfl rfl rfl rfl (R_move rfl) ?_; refine HL_r rfl rfl rfl rfl (R_pure rfl rfl rfl) ?_; refine HL_r rfl rfl rfl rfl (R_move rfl) ?_
      refine HL_case 36 rfl (fun hb15 => ?_) (fun hb15 => ?_) <;> (try simp only [Z1, Z2, Z3, Z4, Z5, Z6, Z7, Z8, Z9, Z10, Z11, Z12, Z13] at hb15) <;> first | (refine HL_r rfl rfl rfl rfl (R_fieldAddr rfl rfl (by first | (simp only [Nat.zero_add, Nat.reduceAdd, Nat.reduceMul, Nat.zero_mul, Nat.mul_one, Nat.add_zero]; exact rfl) | exact rfl)) ?_) | (refine HL_skip rfl rfl rfl ?_)
      all_goals first
        | (refine HL_r rfl rfl rfl rfl (R_load (v := plV s.accts.length s.p) rfl (known_L (k := 4) rfl) rfl rfl) ?_)
        | (refine HL_skip rfl rfl rfl ?_)
      all_goals first
        | (refine HL_r rfl rfl rfl rfl (R_lenPl rfl hseg rfl) ?_)
        | (refine HL_skip rfl rfl rfl ?_)
      all_goals first
        | (refine HL_r rfl rfl rfl rfl (R_pure rfl rfl rfl) ?_)
        | (refine HL_skip rfl rfl rfl ?_)
      all_goals first
        | (refine HL_r rfl rfl rfl rfl (R_pickT rfl rfl) ?_)
        | (refine HL_r rfl rfl rfl rfl (R_pickF rfl rfl) ?_)
      all_goals refine HL_nil ?_
      all_goals (
       refine HQ_then ?_; refine hK14 _ _ _ _ ?_; clear hK14 K14; refine HC_cond rfl (fun h19 => ?_) (fun h19 => ?_)
       · try exact Bool.noConfusion h19
         all_goals try simp only [Z1, Z2, Z3, Z4, Z5, Z6, Z7, Z8, Z9, Z10, Z11, Z12, Z13] at h19
         all_goals (
          refine HC_seq fun K20 hK20 => ?_; refine HC_region ?_; refine HL_r rfl rfl rfl rfl (R_loadArr (xs := s.cells) (n := 1) rfl (known_L (k := 4) rfl) rfl rfl rfl) ?_; refine HL_storeArr (k := 2) (n := 1) (ys := s.cells) rfl rfl rfl rfl rfl rfl rfl rfl rfl ?_; refine HL_r rfl rfl rfl rfl (R_assign rfl) ?_; refine HL_nil ?_; refine HQ_then ?_; refine hK20 _ _ _ _ ?_; clear hK20 K20; refine HC_ret ?_; refine HQ_thenR ?_; clear hK13 K13; refine HQ_post rfl rfl (.cons (res_cellA (vs := [_]) rfl (known_L (k := 2) rfl) rfl rfl) (.cons (res_tmp rfl) .nil)) (fun w1 hs1 => ?_); rw [hput, if_neg (by omega), if_neg (by omega), if_pos (by rw [hok.2.2, if_neg (by simp_all)]; omega)]; exact ⟨⟨s, 5, [], hs, rfl⟩, rfl, hs1.weakL (List.nil_sublist _)⟩
          skip)
       · try exact Bool.noConfusion h19
         try simp only [Z1, Z2, Z3, Z4, Z5, Z6, Z7, Z8, Z9, Z10, Z11, Z12, Z13] at h19
         refine HC_skip ?_; refine HQ_then ?_; refine hK13 _ _ _ _ ?_; clear hK13 K13; refine HC_seq fun K21 hK21 => ?_
         have hroom : (insL AcE.addr a.er s.er).length ≤ 32 := by
           rw [hok.2.2]
           have := hok.2.1
           first
           | (rw [if_pos (by assumption)]; omega)
           | (rw [if_neg (by simp_all)]; omega)
         refine HC_region ?_; refine HL_r rfl rfl rfl rfl (R_build (r := [_]) rfl rfl) ?_; refine HL_alloc (cs := #[_]) rfl rfl rfl rfl fun r3 => ?_
         refine HL_storeA (k := 0) (n := 1) (cs' := #[_]) (vs := #[_]) rfl rfl rfl rfl rfl rfl rfl (by exact Nat.le_of_ble_eq_true rfl) rfl (by first | (simp only [List.set_cons_zero, List.set_cons_succ]; exact rfl) | exact rfl) ?_; refine HL_nil ?_; refine HQ_then ?_; refine hK21 _ _ _ _ ?_; clear hK21 K21; refine HC_seq fun K22 hK22 => ?_; refine HC_region ?_; refine HL_r rfl rfl rfl rfl (R_assign rfl) ?_; refine HL_nil ?_; refine HQ_then ?_; refine hK22 _ _ _ _ ?_; clear hK22 K22; refine HC_seq fun K23 hK23 => ?_; refine HC_seq fun K24 hK24 => ?_; refine HC_region ?_; refine HL_r rfl rfl rfl rfl (R_assign rfl) ?_; refine HL_nil ?_; refine HQ_then ?_; refine hK24 _ _ _ _ ?_; clear hK24 K24; refine HC_block ?_; refine HC_sel [0, 5, 4, 3] (L' := [_, _, _, _]) (by decide) rfl ?_; refine HC_loop (σ := Nat × Bool × List AcL × Nat × List Value × Row) (fun q => q.1 ≤ s.accts.length ∧ res = q.2.2.1 ++ merge AcL.addr a q.2.1 (s.accts.drop q.1) ∧ OutI AcL.cells 8 q.2.2.1 q.2.2.2.1 q.2.2.2.2.1 q.2.2.2.2.2 ∧ q.2.2.2.1 ≤ 2 * q.1) (fun q => [(2, ptV rs 0), (3, ptV ra 0), (4, ptV r1 0), (5, .int .i64 0), (10, ptV r3 0), (11, .bool q.2.1), (12, .int .i64 (q.1 : Int))]) (fun q => (r3, .cells #[rowV q.2.2.2.1 q.2.2.2.2.2] 24 (0, 0)) :: (rs, .cells s.cells.toArray 24 (0, 0)) :: (ra, .cells a.cells.toArray 55 (0, 0)) :: (r1, .cells st0L.cells.toArray 24 (0, 0)) :: rowL 55 q.2.2.2.2.1 q.2.2.2.2.2) (fun _ _ _ => True) (fun q => s.accts.length - q.1) (0, false, [], 0, [], none) ⟨Nat.zero_le _, hres, OutI.nil, Nat.zero_le _⟩ (.cons rfl (.cons rfl (.cons rfl (.cons rfl (.cons rfl (.cons rfl (.cons rfl .nil))))))) (List.Sublist.refl _) (fun _ _ h => h) ?_; rintro ⟨i, pt, acc, n, xs, row⟩ ⟨hi1, hinv, ho, hn2⟩; simp only at hi1 hinv ho hn2; change HC _ _ [(2, _), (3, _), (4, _), (5, _), (10, _), (11, .bool pt), (12, .int .i64 (i : Int))] ((r3, .cells #[rowV n row] _ _) :: (rs, _) :: (ra, _) :: (r1, _) :: rowL _ xs row) _ _ _; refine HC_seq fun K25 hK25 => ?_; refine HC_seq fun K26 hK26 => ?_; refine HC_region ?_; refine HL_r rfl rfl rfl rfl (R_move rfl) ?_
         refine HL_r rfl rfl rfl rfl (R_fieldAddr rfl rfl (by first | (simp only [Nat.zero_add, Nat.reduceAdd, Nat.reduceMul, Nat.zero_mul, Nat.mul_one, Nat.add_zero]; exact rfl) | exact rfl)) ?_; refine HL_r rfl rfl rfl rfl (R_load (v := plV s.accts.length s.p) rfl (known_L (k := 1) rfl) rfl rfl) ?_; refine HL_r rfl rfl rfl rfl (R_lenPl rfl hseg rfl) ?_; refine HL_r rfl rfl rfl rfl (R_pure rfl rfl rfl) ?_; refine HL_nil ?_; refine HQ_then ?_; refine hK26 _ _ _ _ ?_; clear hK26 K26; refine HC_cond rfl (fun h27 => ?_) (fun h27 => ?_)
         · try exact Bool.noConfusion h27
           try simp only [Z1, Z2, Z3, Z4, Z5, Z6, Z7, Z8, Z9, Z10, Z11, Z12, Z13] at h27
           refine HC_skip ?_; refine HQ_then ?_; refine hK25 _ _ _ _ ?_; clear hK25 K25; refine HC_seq fun K28 hK28 => ?_; refine HC_block ?_; refine HC_seq fun K29 hK29 => ?_; refine HC_seq fun K30 hK30 => ?_
           obtain ⟨y, hy, hmy⟩ := getI (show i < s.accts.length by omega)
           rw [dropI hy, merge_cons] at hinv
           have hno := ho.num
           refine HC_draw 13 (by kernel_rfl) (by kernel_rfl) ?_; refine HD_r rfl rfl rfl (R_move rfl) ?_; refine HD_r rfl rfl rfl (R_pure rfl rfl rfl) ?_; refine HD_r rfl rfl rfl (R_move rfl) ?_
           refine HD_case 53 rfl (fun hb31 => ?_) (fun hb31 => ?_) <;> (try simp only [Z1, Z2, Z3, Z4, Z5, Z6, Z7, Z8, Z9, Z10, Z11, Z12, Z13] at hb31) <;> first | (refine HD_r rfl rfl rfl (R_fieldAddr rfl rfl (by first | (simp only [Nat.zero_add, Nat.reduceAdd, Nat.reduceMul, Nat.zero_mul, Nat.mul_one, Nat.add_zero]; exact rfl) | exact rfl)) ?_) | (refine HD_skip rfl rfl rfl ?_)
           all_goals first
             | (refine HD_r rfl rfl rfl (R_load (v := plV s.accts.length s.p) rfl (known_L (k := 1) rfl) rfl rfl) ?_)
             | (refine HD_skip rfl rfl rfl ?_)
           all_goals first
             | (refine HD_r rfl rfl rfl (R_move rfl) ?_)
             | (refine HD_skip rfl rfl rfl ?_)
           all_goals first
             | (refine HD_r rfl rfl rfl (R_indexPl (j := i) rfl hseg rfl rfl rfl (by first | rfl | omega) (by omega)) ?_)
             | (refine HD_skip rfl rfl rfl ?_)
           all_goals first
             | (refine HD_r rfl rfl rfl (R_fieldAddr (off' := plO s.p + (i * 8 + 0)) rfl rfl (by show plO s.p + i * 8 + 0 = _; omega)) ?_)
             | (refine HD_skip rfl rfl rfl ?_)
           all_goals first
             | (refine HD_r rfl rfl rfl (R_loadEf AcL.len (k := 0) (v := strV y.addr) (fun q hq => Or.inr hq) rfl hseg hy rfl rfl) ?_)
             | (refine HD_skip rfl rfl rfl ?_)
           all_goals first
             | (refine HD_r rfl rfl rfl (R_fieldAddr rfl rfl (by first | (simp only [Nat.zero_add, Nat.reduceAdd, Nat.reduceMul, Nat.zero_mul, Nat.mul_one, Nat.add_zero]; exact rfl) | exact rfl)) ?_)
             | (refine HD_skip rfl rfl rfl ?_)
           all_goals first
             | (refine HD_r rfl rfl rfl (R_load rfl (known_L (k := 2) rfl) rfl rfl) ?_)
             | (refine HD_skip rfl rfl rfl ?_)
           all_goals first
             | (refine HD_r rfl rfl rfl (R_strGe (a := y.addr) (b := a.addr) rfl rfl) ?_)
             | (refine HD_skip rfl rfl rfl ?_)
           all_goals first
             | (refine HD_r rfl rfl rfl (R_pickT rfl rfl) ?_)
             | (refine HD_r rfl rfl rfl (R_pickF rfl rfl) ?_)
           all_goals refine HD_end ?_
           all_goals refine HL_nil ?_
           all_goals (
            refine HQ_then ?_; refine hK30 _ _ _ _ ?_; clear hK30 K30; refine HC_cond rfl (fun h40 => ?_) (fun h40 => ?_)
            · try exact Bool.noConfusion h40
              all_goals try simp only [Z1, Z2, Z3, Z4, Z5, Z6, Z7, Z8, Z9, Z10, Z11, Z12, Z13] at h40
              all_goals (
               refine HC_seq fun K41 hK41 => ?_; refine HC_region ?_
               refine HL_r rfl rfl rfl rfl (R_fieldAddr rfl rfl (by first | (simp only [Nat.zero_add, Nat.reduceAdd, Nat.reduceMul, Nat.zero_mul, Nat.mul_one, Nat.add_zero]; exact rfl) | exact rfl)) ?_; refine HL_r rfl rfl rfl rfl (R_load rfl (known_L (k := 0) rfl) rfl rfl) ?_; refine HL_r rfl rfl rfl rfl (R_loadArr (xs := a.cells) (n := 8) rfl (known_L (k := 2) rfl) rfl rfl rfl) ?_; refine HL_buildSlice (n := 1) (sz := 8) (vs := [_]) (zs := [_, _, _, _, _, _, _, _]) (r := a.cells) rfl rfl rfl rfl rfl rfl rfl rfl rfl (by rw [made_list]; exact rfl) rfl fun rv => ?_; refine HL_appendRow (L0 := [_, _, _, _, _]) (xs := xs) (row := row) (n := n) (sz := 8) (b := 96) (news := a.cells) (List.perm_append_comm (l₁ := [_, _, _, _, _])) rfl rfl rfl rfl (known_L (k := 0) rfl) rfl rfl rfl rfl rfl (by decide) rfl rfl rfl (by decide) ho.ok (by omega) (by omega) fun rap cap sp hra => ?_
               refine HL_r rfl rfl rfl rfl (R_fieldAddr rfl rfl (by first | (simp only [Nat.zero_add, Nat.reduceAdd, Nat.reduceMul, Nat.zero_mul, Nat.mul_one, Nat.add_zero]; exact rfl) | exact rfl)) ?_; refine HL_store (k := 2) (cs' := #[rowV (n + 1) (some (rap, cap, sp))]) rfl rfl rfl rfl rfl rfl rfl rfl rfl rfl ?_; refine HL_nil ?_; refine HQ_then ?_; refine hK41 _ _ _ _ ?_; clear hK41 K41; refine HC_sel [2, 3, 4, 5, 0] (L' := [_, _, _, _, _]) (by decide) rfl ?_
               obtain ⟨pt2, hpt2⟩ : ∃ b, b = true := ⟨_, rfl⟩
               refine HC_region ?_; refine HL_r rfl rfl rfl rfl (R_assign rfl) ?_; refine HL_as (congrArg Value.bool hpt2.symm) ?_; refine HL_nil ?_; refine HQ_then ?_; refine hK29 _ _ _ _ ?_; clear hK29 K29; refine HC_seq fun K42 hK42 => ?_
               (have ho1 := ho.snoc hra
                have hinv1 := (merge_step hinv).1 (by assumption) (by assumption)
                have hn1 : n + 1 ≤ 2 * i + 1 := by omega
                change HC _ _ ((11, .bool pt2) :: _) ((r3, .cells #[rowV (n + 1) (some (rap, cap, sp))] _ _) :: (rs, _) :: (ra, _) :: (r1, _) :: rowL 55 (xs ++ a.cells) (some (rap, cap, sp))) _ _ _; clear hinv ho hno hra hn2
                generalize acc ++ [a] = acc at ho1 hinv1
                generalize n + 1 = n at ho1 hn1 ⊢
                generalize xs ++ a.cells = xs at ho1 ⊢
                generalize (some (rap, cap, sp) : Row) = row at ho1 ⊢
                rw [← hpt2] at hinv1; clear hpt2
                obtain ⟨pt, rfl⟩ : ∃ b, b = pt2 := ⟨pt2, rfl⟩)
               have ho := ho1
               have hno := ho.num
               refine HC_draw 9 (by kernel_rfl) (by kernel_rfl) ?_
               refine HD_r rfl rfl rfl (R_fieldAddr rfl rfl (by first | (simp only [Nat.zero_add, Nat.reduceAdd, Nat.reduceMul, Nat.zero_mul, Nat.mul_one, Nat.add_zero]; exact rfl) | exact rfl)) ?_; refine HD_r rfl rfl rfl (R_load (v := plV s.accts.length s.p) rfl (known_L (k := 1) rfl) rfl rfl) ?_; refine HD_r rfl rfl rfl (R_move rfl) ?_
               refine HD_r rfl rfl rfl (R_indexPl (j := i) rfl hseg rfl rfl rfl (by first | rfl | omega) (by omega)) ?_; refine HD_r rfl rfl rfl (R_fieldAddr (off' := plO s.p + (i * 8 + 0)) rfl rfl (by show plO s.p + i * 8 + 0 = _; omega)) ?_; refine HD_r rfl rfl rfl (R_loadEf AcL.len (k := 0) (v := strV y.addr) (fun q hq => Or.inr hq) rfl hseg hy rfl rfl) ?_
               refine HD_r rfl rfl rfl (R_fieldAddr rfl rfl (by first | (simp only [Nat.zero_add, Nat.reduceAdd, Nat.reduceMul, Nat.zero_mul, Nat.mul_one, Nat.add_zero]; exact rfl) | exact rfl)) ?_; refine HD_r rfl rfl rfl (R_load rfl (known_L (k := 2) rfl) rfl rfl) ?_; refine HD_r rfl rfl rfl (R_strNe (a := y.addr) (b := a.addr) rfl rfl) ?_; refine HD_end ?_; refine HL_nil ?_; refine HQ_then ?_; refine hK42 _ _ _ _ ?_; clear hK42 K42; refine HC_cond rfl (fun h43 => ?_) (fun h43 => ?_)
               · try exact Bool.noConfusion h43
                 try simp only [Z1, Z2, Z3, Z4, Z5, Z6, Z7, Z8, Z9, Z10, Z11, Z12, Z13] at h43
                 refine HC_drawA [(r3, .cells #[rowV n row] 24 (0, 0))] [(0, .pure), (1, .pure), (2, .pure), (4, .pure), (5, .pure), (7, .act (aeNew (slV 1) (.cells y.cells.toArray 55 (0, 0))))] 8 (by kernel_rfl) (by kernel_rfl) (fun p hp => List.mem_singleton.1 hp ▸ List.mem_cons_self) ?_
                 refine HA_p rfl rfl rfl rfl (fun _ hS => (R_fieldAddr rfl rfl (by first | (simp only [Nat.zero_add, Nat.reduceAdd, Nat.reduceMul, Nat.zero_mul, Nat.mul_one, Nat.add_zero]; exact rfl) | exact rfl))) ?_; refine HA_p rfl rfl rfl rfl (fun _ hS => (R_load rfl (.inl (hS _ (mem_nth (n := 0) rfl))) rfl rfl)) ?_
                 refine HA_p rfl rfl rfl rfl (fun _ hS => (R_fieldAddr rfl rfl (by first | (simp only [Nat.zero_add, Nat.reduceAdd, Nat.reduceMul, Nat.zero_mul, Nat.mul_one, Nat.add_zero]; exact rfl) | exact rfl))) ?_; refine HA_r rfl rfl rfl rfl (R_load (v := plV s.accts.length s.p) rfl (known_L (k := 1) rfl) rfl rfl) ?_; refine HA_p rfl rfl rfl rfl (fun _ hS => (R_move rfl)) ?_
                 refine HA_p rfl rfl rfl rfl (fun _ hS => (R_indexPl (j := i) rfl hseg rfl rfl rfl (by first | rfl | omega) (by omega))) ?_; refine HA_r rfl rfl rfl rfl (R_loadEl AcL.len (fun q hq => Or.inr hq) rfl hseg hy rfl rfl) ?_; refine HA_buildSlice (n := 1) (sz := 8) (vs := [_]) (zs := [_, _, _, _, _, _, _, _]) (r := y.cells) rfl rfl rfl rfl rfl rfl rfl rfl rfl rfl (by rw [made_list]; exact rfl) rfl (fun p hp => List.mem_singleton.1 hp ▸ List.mem_cons_self) fun rv => ?_; refine HA_end ?_; refine HL_appendRow (L0 := [_, _, _, _, _]) (xs := xs) (row := row) (n := n) (sz := 8) (b := 96) (news := y.cells) (List.perm_append_comm (l₁ := [_, _, _, _, _])) rfl rfl rfl rfl (known_L (k := 0) rfl) rfl rfl rfl rfl rfl (by decide) rfl rfl rfl (by decide) ho.ok (by omega) (by omega) fun rap cap sp hra => ?_
                 refine HL_r rfl rfl rfl rfl (R_fieldAddr rfl rfl (by first | (simp only [Nat.zero_add, Nat.reduceAdd, Nat.reduceMul, Nat.zero_mul, Nat.mul_one, Nat.add_zero]; exact rfl) | exact rfl)) ?_; refine HL_store (k := 2) (cs' := #[rowV (n + 1) (some (rap, cap, sp))]) rfl rfl rfl rfl rfl rfl rfl rfl rfl rfl ?_; refine HL_nil ?_; refine HQ_blockN ?_; refine HQ_then ?_; refine hK28 _ _ _ _ ?_; clear hK28 K28; refine HC_region ?_; refine HL_r rfl rfl rfl rfl (R_move rfl) ?_; refine HL_r rfl rfl rfl rfl (R_pure rfl rfl rfl) ?_; refine HL_wrap_i64 (by omega) (by omega) ?_; refine HL_r rfl rfl rfl rfl (R_assign rfl) ?_; refine HL_nil ?_; refine HQ_then ?_
                 (refine HQ_sel [2, 3, 4, 5, 0] (L' := [_, _, _, _, _]) (by decide) rfl ?_
                  exact HQ_again (i + 1, pt, acc ++ [y], n + 1, xs ++ y.cells, some (rap, cap, sp)) ⟨by simp only; omega, by rw [hinv1, if_neg (by assumption)]; simp, ho.snoc hra, by simp only; omega⟩ (by simp only; omega) (.cons rfl (.cons rfl (.cons rfl (.cons rfl (.cons rfl (.cons rfl (.cons rfl .nil))))))) (List.Sublist.refl _) (fun _ _ h => h))
               · try exact Bool.noConfusion h43
                 try simp only [Z1, Z2, Z3, Z4, Z5, Z6, Z7, Z8, Z9, Z10, Z11, Z12, Z13] at h43
                 refine HC_skip ?_; refine HQ_blockN ?_; refine HQ_then ?_; refine hK28 _ _ _ _ ?_; clear hK28 K28; refine HC_region ?_; refine HL_r rfl rfl rfl rfl (R_move rfl) ?_; refine HL_r rfl rfl rfl rfl (R_pure rfl rfl rfl) ?_; refine HL_wrap_i64 (by omega) (by omega) ?_; refine HL_r rfl rfl rfl rfl (R_assign rfl) ?_; refine HL_nil ?_; refine HQ_then ?_; exact HQ_again (i + 1, pt, acc, n, xs, row) ⟨by simp only; omega, by rw [hinv1, if_pos (by assumption)]; simp, ho, by simp only; omega⟩ (by simp only; omega) (.cons rfl (.cons rfl (.cons rfl (.cons rfl (.cons rfl (.cons rfl (.cons rfl .nil))))))) (List.Sublist.refl _) (fun _ _ h => h)
               skip)
            · try exact Bool.noConfusion h40
              try simp only [Z1, Z2, Z3, Z4, Z5, Z6, Z7, Z8, Z9, Z10, Z11, Z12, Z13] at h40
              refine HC_skip ?_; refine HQ_then ?_; refine hK29 _ _ _ _ ?_; clear hK29 K29; refine HC_seq fun K44 hK44 => ?_
              (have ho1 := ho
               have hinv1 := (merge_step hinv).2 (by first | exact .inl (by assumption) | exact .inr (by assumption))
               have hn1 : n ≤ 2 * i + 1 := by omega
               clear hinv ho hno hn2)
              have ho := ho1
              have hno := ho.num
              refine HC_draw 9 (by kernel_rfl) (by kernel_rfl) ?_
              refine HD_r rfl rfl rfl (R_fieldAddr rfl rfl (by first | (simp only [Nat.zero_add, Nat.reduceAdd, Nat.reduceMul, Nat.zero_mul, Nat.mul_one, Nat.add_zero]; exact rfl) | exact rfl)) ?_; refine HD_r rfl rfl rfl (R_load (v := plV s.accts.length s.p) rfl (known_L (k := 1) rfl) rfl rfl) ?_; refine HD_r rfl rfl rfl (R_move rfl) ?_
              refine HD_r rfl rfl rfl (R_indexPl (j := i) rfl hseg rfl rfl rfl (by first | rfl | omega) (by omega)) ?_; refine HD_r rfl rfl rfl (R_fieldAddr (off' := plO s.p + (i * 8 + 0)) rfl rfl (by show plO s.p + i * 8 + 0 = _; omega)) ?_; refine HD_r rfl rfl rfl (R_loadEf AcL.len (k := 0) (v := strV y.addr) (fun q hq => Or.inr hq) rfl hseg hy rfl rfl) ?_
              refine HD_r rfl rfl rfl (R_fieldAddr rfl rfl (by first | (simp only [Nat.zero_add, Nat.reduceAdd, Nat.reduceMul, Nat.zero_mul, Nat.mul_one, Nat.add_zero]; exact rfl) | exact rfl)) ?_; refine HD_r rfl rfl rfl (R_load rfl (known_L (k := 2) rfl) rfl rfl) ?_; refine HD_r rfl rfl rfl (R_strNe (a := y.addr) (b := a.addr) rfl rfl) ?_; refine HD_end ?_; refine HL_nil ?_; refine HQ_then ?_; refine hK44 _ _ _ _ ?_; clear hK44 K44; refine HC_cond rfl (fun h45 => ?_) (fun h45 => ?_)
              · try exact Bool.noConfusion h45
                try simp only [Z1, Z2, Z3, Z4, Z5, Z6, Z7, Z8, Z9, Z10, Z11, Z12, Z13] at h45
                refine HC_drawA [(r3, .cells #[rowV n row] 24 (0, 0))] [(0, .pure), (1, .pure), (2, .pure), (4, .pure), (5, .pure), (7, .act (aeNew (slV 1) (.cells y.cells.toArray 55 (0, 0))))] 8 (by kernel_rfl) (by kernel_rfl) (fun p hp => List.mem_singleton.1 hp ▸ List.mem_cons_self) ?_
                refine HA_p rfl rfl rfl rfl (fun _ hS => (R_fieldAddr rfl rfl (by first | (simp only [Nat.zero_add, Nat.reduceAdd, Nat.reduceMul, Nat.zero_mul, Nat.mul_one, Nat.add_zero]; exact rfl) | exact rfl))) ?_; refine HA_p rfl rfl rfl rfl (fun _ hS => (R_load rfl (.inl (hS _ (mem_nth (n := 0) rfl))) rfl rfl)) ?_
                refine HA_p rfl rfl rfl rfl (fun _ hS => (R_fieldAddr rfl rfl (by first | (simp only [Nat.zero_add, Nat.reduceAdd, Nat.reduceMul, Nat.zero_mul, Nat.mul_one, Nat.add_zero]; exact rfl) | exact rfl))) ?_; refine HA_r rfl rfl rfl rfl (R_load (v := plV s.accts.length s.p) rfl (known_L (k := 1) rfl) rfl rfl) ?_; refine HA_p rfl rfl rfl rfl (fun _ hS => (R_move rfl)) ?_
                refine HA_p rfl rfl rfl rfl (fun _ hS => (R_indexPl (j := i) rfl hseg rfl rfl rfl (by first | rfl | omega) (by omega))) ?_; refine HA_r rfl rfl rfl rfl (R_loadEl AcL.len (fun q hq => Or.inr hq) rfl hseg hy rfl rfl) ?_; refine HA_buildSlice (n := 1) (sz := 8) (vs := [_]) (zs := [_, _, _, _, _, _, _, _]) (r := y.cells) rfl rfl rfl rfl rfl rfl rfl rfl rfl rfl (by rw [made_list]; exact rfl) rfl (fun p hp => List.mem_singleton.1 hp ▸ List.mem_cons_self) fun rv => ?_; refine HA_end ?_; refine HL_appendRow (L0 := [_, _, _, _, _]) (xs := xs) (row := row) (n := n) (sz := 8) (b := 96) (news := y.cells) (List.perm_append_comm (l₁ := [_, _, _, _, _])) rfl rfl rfl rfl (known_L (k := 0) rfl) rfl rfl rfl rfl rfl (by decide) rfl rfl rfl (by decide) ho.ok (by omega) (by omega) fun rap cap sp hra => ?_
                refine HL_r rfl rfl rfl rfl (R_fieldAddr rfl rfl (by first | (simp only [Nat.zero_add, Nat.reduceAdd, Nat.reduceMul, Nat.zero_mul, Nat.mul_one, Nat.add_zero]; exact rfl) | exact rfl)) ?_; refine HL_store (k := 2) (cs' := #[rowV (n + 1) (some (rap, cap, sp))]) rfl rfl rfl rfl rfl rfl rfl rfl rfl rfl ?_; refine HL_nil ?_; refine HQ_blockN ?_; refine HQ_then ?_; refine hK28 _ _ _ _ ?_; clear hK28 K28; refine HC_region ?_; refine HL_r rfl rfl rfl rfl (R_move rfl) ?_; refine HL_r rfl rfl rfl rfl (R_pure rfl rfl rfl) ?_; refine HL_wrap_i64 (by omega) (by omega) ?_; refine HL_r rfl rfl rfl rfl (R_assign rfl) ?_; refine HL_nil ?_; refine HQ_then ?_
                (refine HQ_sel [2, 3, 4, 5, 0] (L' := [_, _, _, _, _]) (by decide) rfl ?_
                 exact HQ_again (i + 1, pt, acc ++ [y], n + 1, xs ++ y.cells, some (rap, cap, sp)) ⟨by simp only; omega, by rw [hinv1, if_neg (by assumption)]; simp, ho.snoc hra, by simp only; omega⟩ (by simp only; omega) (.cons rfl (.cons rfl (.cons rfl (.cons rfl (.cons rfl (.cons rfl (.cons rfl .nil))))))) (List.Sublist.refl _) (fun _ _ h => h))
              · try exact Bool.noConfusion h45
                try simp only [Z1, Z2, Z3, Z4, Z5, Z6, Z7, Z8, Z9, Z10, Z11, Z12, Z13] at h45
                refine HC_skip ?_; refine HQ_blockN ?_; refine HQ_then ?_; refine hK28 _ _ _ _ ?_; clear hK28 K28; refine HC_region ?_; refine HL_r rfl rfl rfl rfl (R_move rfl) ?_; refine HL_r rfl rfl rfl rfl (R_pure rfl rfl rfl) ?_; refine HL_wrap_i64 (by omega) (by omega) ?_; refine HL_r rfl rfl rfl rfl (R_assign rfl) ?_; refine HL_nil ?_; refine HQ_then ?_; exact HQ_again (i + 1, pt, acc, n, xs, row) ⟨by simp only; omega, by rw [hinv1, if_pos (by assumption)]; simp, ho, by simp only; omega⟩ (by simp only; omega) (.cons rfl (.cons rfl (.cons rfl (.cons rfl (.cons rfl (.cons rfl (.cons rfl .nil))))))) (List.Sublist.refl _) (fun _ _ h => h)
            skip)
         · try exact Bool.noConfusion h27
           try simp only [Z1, Z2, Z3, Z4, Z5, Z6, Z7, Z8, Z9, Z10, Z11, Z12, Z13] at h27
           refine HC_exit ?_; refine HQ_thenE ?_; clear hK25 K25; refine HQ_thenE ?_; refine HQ_blockE ?_; refine HQ_then ?_; refine hK23 _ _ _ _ ?_; clear hK23 K23; refine HC_seq fun K46 hK46 => ?_; refine HC_seq fun K47 hK47 => ?_
           obtain rfl : i = s.accts.length := by omega
           rw [List.drop_length, merge] at hinv
           have hno := ho.num
           refine HC_region ?_; refine HL_r rfl rfl rfl rfl (R_move rfl) ?_; refine HL_r rfl rfl rfl rfl (R_pure rfl rfl rfl) ?_; refine HL_nil ?_; refine HQ_then ?_; refine hK47 _ _ _ _ ?_; clear hK47 K47; refine HC_cond rfl (fun h48 => ?_) (fun h48 => ?_)
           · try exact Bool.noConfusion h48
             try simp only [Z1, Z2, Z3, Z4, Z5, Z6, Z7, Z8, Z9, Z10, Z11, Z12, Z13] at h48
             refine HC_region ?_
             refine HL_r rfl rfl rfl rfl (R_fieldAddr rfl rfl (by first | (simp only [Nat.zero_add, Nat.reduceAdd, Nat.reduceMul, Nat.zero_mul, Nat.mul_one, Nat.add_zero]; exact rfl) | exact rfl)) ?_; refine HL_r rfl rfl rfl rfl (R_load rfl (known_L (k := 0) rfl) rfl rfl) ?_; refine HL_r rfl rfl rfl rfl (R_loadArr (xs := a.cells) (n := 8) rfl (known_L (k := 2) rfl) rfl rfl rfl) ?_; refine HL_buildSlice (n := 1) (sz := 8) (vs := [_]) (zs := [_, _, _, _, _, _, _, _]) (r := a.cells) rfl rfl rfl rfl rfl rfl rfl rfl rfl (by rw [made_list]; exact rfl) rfl fun rv => ?_; refine HL_appendRow (L0 := [_, _, _, _, _]) (xs := xs) (row := row) (n := n) (sz := 8) (b := 96) (news := a.cells) (List.perm_append_comm (l₁ := [_, _, _, _, _])) rfl rfl rfl rfl (known_L (k := 0) rfl) rfl rfl rfl rfl rfl (by decide) rfl rfl rfl (by decide) ho.ok (by omega) (by omega) fun rap cap sp hra => ?_
             refine HL_r rfl rfl rfl rfl (R_fieldAddr rfl rfl (by first | (simp only [Nat.zero_add, Nat.reduceAdd, Nat.reduceMul, Nat.zero_mul, Nat.mul_one, Nat.add_zero]; exact rfl) | exact rfl)) ?_; refine HL_store (k := 2) (cs' := #[rowV (n + 1) (some (rap, cap, sp))]) rfl rfl rfl rfl rfl rfl rfl rfl rfl rfl ?_; refine HL_nil ?_; refine HQ_then ?_; refine hK46 _ _ _ _ ?_; clear hK46 K46; refine HC_seq fun K49 hK49 => ?_
             (refine HC_sel [2, 3, 4, 5, 0] (L' := [_, _, _, _, _]) (by decide) rfl ?_
              have hr : res = acc ++ [a] := by rw [hinv]; simp_all
              have ho1 := ho.snoc hra
              change HC _ _ _ ((r3, .cells #[rowV (n + 1) (some (rap, cap, sp))] _ _) :: (rs, _) :: (ra, _) :: (r1, _) :: rowL 55 (xs ++ a.cells) (some (rap, cap, sp))) _ _ _; rw [← hr] at ho1; clear hinv ho hno hra hn2
              generalize n + 1 = n at ho1 ⊢
              generalize xs ++ a.cells = xs at ho1 ⊢
              generalize (some (rap, cap, sp) : Row) = row at ho1 ⊢)
             refine HC_region ?_; refine HL_r rfl rfl rfl rfl (R_loadA (vs := [rowV n row]) rfl (known_L (k := 0) rfl) rfl rfl rfl rfl) ?_; refine HL_storeA (k := 3) (n := 1) (cs' := #[rowV n row]) (vs := #[_]) rfl rfl rfl rfl rfl rfl (by show (oneB (rowV _ _) && true) = true; rw [rowV_one]; rfl) (by exact Nat.le_of_ble_eq_true rfl) rfl rfl ?_; refine HL_r rfl rfl rfl rfl (R_assign rfl) ?_; refine HL_nil ?_; refine HQ_then ?_; refine hK49 _ _ _ _ ?_; clear hK49 K49; refine HC_ret ?_; refine HQ_post rfl rfl (.cons (res_cellA (vs := [_]) rfl (known_L (k := 3) rfl) rfl rfl) (.cons (res_tmp rfl) .nil)) (fun w1 hs1 => ?_)
             (rw [hput, if_neg (by omega), if_neg (by omega), if_neg (by omega), hok.1]
              obtain ⟨e1, e2, e3⟩ := ho1
              subst e1 e2
              exact ⟨⟨⟨res, rowP row⟩, 0, rowL 55 (res.flatMap AcL.cells) row, ⟨by show res.length ≤ 9223372036854775807; have := congrArg List.length hok.1; rw [List.length_map] at this; omega, (rowP_seg e3 (by decide)).mono fun q hq => List.mem_append_left _ hq, fun z hz => ((merge_mem (hres ▸ hz)).elim (fun e => by rw [e]; exact ha) (hs.accts z)).mono fun q hq => List.mem_append_right _ hq⟩, rfl⟩, by show Ending.returned _ = Ending.returned (Value.tuple #[Value.agg #[plV res.length (rowP row)], .int .i64 0]); rw [rowP_V _ _ e3.zero]; rfl, hs1.weakL (List.sublist_append_right [_, _, _, _] _)⟩)
           · try exact Bool.noConfusion h48
             try simp only [Z1, Z2, Z3, Z4, Z5, Z6, Z7, Z8, Z9, Z10, Z11, Z12, Z13] at h48
             refine HC_skip ?_; refine HQ_then ?_; refine hK46 _ _ _ _ ?_; clear hK46 K46; refine HC_seq fun K50 hK50 => ?_
             (have hr : res = acc := by rw [hinv]; simp_all
              have ho1 := ho
              rw [← hr] at ho1
              clear hinv ho hno hn2)
             refine HC_region ?_; refine HL_r rfl rfl rfl rfl (R_loadA (vs := [rowV n row]) rfl (known_L (k := 0) rfl) rfl rfl rfl rfl) ?_; refine HL_storeA (k := 3) (n := 1) (cs' := #[rowV n row]) (vs := #[_]) rfl rfl rfl rfl rfl rfl (by show (oneB (rowV _ _) && true) = true; rw [rowV_one]; rfl) (by exact Nat.le_of_ble_eq_true rfl) rfl rfl ?_; refine HL_r rfl rfl rfl rfl (R_assign rfl) ?_; refine HL_nil ?_; refine HQ_then ?_; refine hK50 _ _ _ _ ?_; clear hK50 K50; refine HC_ret ?_; refine HQ_post rfl rfl (.cons (res_cellA (vs := [_]) rfl (known_L (k := 3) rfl) rfl rfl) (.cons (res_tmp rfl) .nil)) (fun w1 hs1 => ?_)
             (rw [hput, if_neg (by omega), if_neg (by omega), if_neg (by omega), hok.1]
              obtain ⟨e1, e2, e3⟩ := ho1
              subst e1 e2
              exact ⟨⟨⟨res, rowP row⟩, 0, rowL 55 (res.flatMap AcL.cells) row, ⟨by show res.length ≤ 9223372036854775807; have := congrArg List.length hok.1; rw [List.length_map] at this; omega, (rowP_seg e3 (by decide)).mono fun q hq => List.mem_append_left _ hq, fun z hz => ((merge_mem (hres ▸ hz)).elim (fun e => by rw [e]; exact ha) (hs.accts z)).mono fun q hq => List.mem_append_right _ hq⟩, rfl⟩, by show Ending.returned _ = Ending.returned (Value.tuple #[Value.agg #[plV res.length (rowP row)], .int .i64 0]); rw [rowP_V _ _ e3.zero]; rfl, hs1.weakL (List.sublist_append_right [_, _, _, _] _)⟩)
       skip)
theorem with_merge {l : List (BS × BS)} (h : Sorted Prod.fst l) (k v : BS) : merge Prod.fst (k, v) (decide (v = noneB)) l = withE l k v := by
  unfold withE
  by_cases e : v = noneB
  · rw [if_pos e, decide_eq_true e, merge_true]
  · rw [if_neg e, decide_eq_false e, merge_ins h]
set_option maxRecDepth 10000 in
theorem S_rSet {R : List (Nat × Obj)} {a : AcL} (ha : a.In R) (k v : BS) : PureT (α := AcRes R (setE a.er k v)) Tryz.prog 70 [a.val, strV k, strV v].toArray (fun x => x.val) [] (fun x => x.L) R := by
  have hl := ha.len
  have hseg := ha.seg
  have hset : setE a.er k v = if lkE a.er ≠ 0 then (a.er, lkE a.er) else if k.length ≠ 32 ∨ v.length ≠ 32 then (a.er, 2) else if (withE a.slots k v).length > 16 then (a.er, 5) else (⟨a.addr, a.nonce, a.bal, a.code, withE a.slots k v⟩, 0) := rfl
  refine pureT_of_HC Tryz.func70 rfl rfl fun w => ?_; refine HC_seq fun K1 hK1 => ?_; refine HC_region ?_; refine HL_box (cs := a.cells.toArray) rfl rfl rfl rfl fun ra => ?_; refine HL_alloc (cs := #[_, _, _, _, _, _, _, _]) rfl rfl rfl rfl fun r1 => ?_; refine HL_r rfl rfl rfl rfl (R_assign rfl) ?_; refine HL_nil ?_; refine HQ_then ?_; refine hK1 _ _ _ _ ?_; clear hK1 K1; refine HC_seq fun K2 hK2 => ?_; refine HC_region ?_; refine HL_r rfl rfl rfl rfl (R_loadArr (xs := a.cells) (n := 8) rfl (known_L (k := 1) rfl) rfl rfl rfl) ?_; refine HL_buildSlice (n := 1) (sz := 8) (vs := [_]) (zs := [_, _, _, _, _, _, _, _]) (r := a.cells) rfl rfl rfl rfl rfl rfl rfl rfl rfl (by rw [made_list]; exact rfl) rfl fun rv => ?_; refine HL_r rfl rfl rfl rfl (R_build (r := [_]) rfl rfl) ?_; refine HL_callR (v := .int .i64 (chkS (StL.er ⟨[a], some (⟨rv, 0, none⟩, 1)⟩))) rfl rfl rfl (enters_of Tryz.func52 (by kernel_rfl) rfl) (S_rCheck (one_in ha rv)) (fun q hq => (List.mem_cons.1 hq).imp (fun h => by rw [h]; exact List.mem_cons_self) id) ?_; refine HL_as (congrArg (Value.int .i64) (chk_one a.er)) ?_; refine HL_r rfl rfl rfl rfl (R_assign rfl) ?_; refine HL_nil ?_; refine HQ_then ?_; refine hK2 _ _ _ _ ?_; clear hK2 K2; refine HC_seq fun K3 hK3 => ?_; refine HC_seq fun K4 hK4 => ?_; refine HC_region ?_; refine HL_r rfl rfl rfl rfl (R_move rfl) ?_; refine HL_r rfl rfl rfl rfl (R_pure rfl rfl rfl) ?_; refine HL_nil ?_; refine HQ_then ?_; refine hK4 _ _ _ _ ?_; clear hK4 K4; refine HC_cond rfl (fun h5 => ?_) (fun h5 => ?_)
  · try exact Bool.noConfusion h5
    try simp only [Z1, Z2, Z3, Z4, Z5, Z6, Z7, Z8, Z9, Z10, Z11, Z12, Z13] at h5
    refine HC_seq fun K6 hK6 => ?_; refine HC_region ?_; refine HL_r rfl rfl rfl rfl (R_loadArr (xs := a.cells) (n := 8) rfl (known_L (k := 2) rfl) rfl rfl rfl) ?_; refine HL_r rfl rfl rfl rfl (R_move rfl) ?_; refine HL_storeArr (k := 1) (n := 8) (ys := (a).cells) rfl rfl rfl rfl rfl rfl rfl rfl rfl ?_; refine HL_r rfl rfl rfl rfl (R_assign rfl) ?_; refine HL_nil ?_; refine HQ_then ?_; refine hK6 _ _ _ _ ?_; clear hK6 K6; refine HC_ret ?_; refine HQ_thenR ?_; clear hK3 K3; refine HQ_post rfl rfl (.cons (res_cellA (vs := [_, _, _, _, _, _, _, _]) rfl (known_L (k := 1) rfl) rfl rfl) (.cons (res_tmp rfl) .nil)) (fun w1 hs1 => ?_); rw [hset, if_pos (by omega)]; exact ⟨⟨a, lkE a.er, [], ha, rfl⟩, rfl, hs1.weakL (List.nil_sublist _)⟩
  · try exact Bool.noConfusion h5
    try simp only [Z1, Z2, Z3, Z4, Z5, Z6, Z7, Z8, Z9, Z10, Z11, Z12, Z13] at h5
    refine HC_skip ?_; refine HQ_then ?_; refine hK3 _ _ _ _ ?_; clear hK3 K3; refine HC_seq fun K7 hK7 => ?_; refine HC_seq fun K8 hK8 => ?_; refine HC_region ?_; refine HL_r rfl rfl rfl rfl (R_move rfl) ?_; refine HL_r rfl rfl rfl rfl (R_lenBs rfl rfl) ?_; refine HL_r rfl rfl rfl rfl (R_pure rfl rfl rfl) ?_; refine HL_r rfl rfl rfl rfl (R_move rfl) ?_
    refine HL_case 21 rfl (fun hb9 => ?_) (fun hb9 => ?_) <;> (try simp only [Z1, Z2, Z3, Z4, Z5, Z6, Z7, Z8, Z9, Z10, Z11, Z12, Z13] at hb9) <;> first | (refine HL_r rfl rfl rfl rfl (R_move rfl) ?_) | (refine HL_skip rfl rfl rfl ?_)
    all_goals first
      | (refine HL_r rfl rfl rfl rfl (R_lenBs rfl rfl) ?_)
      | (refine HL_skip rfl rfl rfl ?_)
    all_goals first
      | (refine HL_r rfl rfl rfl rfl (R_pure rfl rfl rfl) ?_)
      | (refine HL_skip rfl rfl rfl ?_)
    all_goals first
      | (refine HL_r rfl rfl rfl rfl (R_pickT rfl rfl) ?_)
      | (refine HL_r rfl rfl rfl rfl (R_pickF rfl rfl) ?_)
    all_goals refine HL_nil ?_
    all_goals (
     refine HQ_then ?_; refine hK8 _ _ _ _ ?_; clear hK8 K8; refine HC_cond rfl (fun h12 => ?_) (fun h12 => ?_)
     · try exact Bool.noConfusion h12
       try simp only [Z1, Z2, Z3, Z4, Z5, Z6, Z7, Z8, Z9, Z10, Z11, Z12, Z13] at h12
       refine HC_seq fun K13 hK13 => ?_; refine HC_region ?_; refine HL_r rfl rfl rfl rfl (R_loadArr (xs := a.cells) (n := 8) rfl (known_L (k := 2) rfl) rfl rfl rfl) ?_; refine HL_storeArr (k := 1) (n := 8) (ys := (a).cells) rfl rfl rfl rfl rfl rfl rfl rfl rfl ?_; refine HL_r rfl rfl rfl rfl (R_assign rfl) ?_; refine HL_nil ?_; refine HQ_then ?_; refine hK13 _ _ _ _ ?_; clear hK13 K13; refine HC_ret ?_; refine HQ_thenR ?_; clear hK7 K7; refine HQ_post rfl rfl (.cons (res_cellA (vs := [_, _, _, _, _, _, _, _]) rfl (known_L (k := 1) rfl) rfl rfl) (.cons (res_tmp rfl) .nil)) (fun w1 hs1 => ?_); rw [hset, if_neg (by omega), if_pos (by omega)]; exact ⟨⟨a, 2, [], ha, rfl⟩, rfl, hs1.weakL (List.nil_sublist _)⟩
     · try exact Bool.noConfusion h12
       all_goals try simp only [Z1, Z2, Z3, Z4, Z5, Z6, Z7, Z8, Z9, Z10, Z11, Z12, Z13] at h12
       all_goals (
        refine HC_skip ?_; refine HQ_then ?_; refine hK7 _ _ _ _ ?_; clear hK7 K7; refine HC_seq fun K14 hK14 => ?_
        have hok : Sorted Prod.fst a.slots ∧ a.slots.length ≤ 16 := ⟨(look_ok (a := a.er) (by omega)).2.2.1, (look_ok (a := a.er) (by omega)).2.2.2.2⟩
        refine HC_region ?_
        refine HL_r rfl rfl rfl rfl (R_fieldAddr rfl rfl (by first | (simp only [Nat.zero_add, Nat.reduceAdd, Nat.reduceMul, Nat.zero_mul, Nat.mul_one, Nat.add_zero]; exact rfl) | exact rfl)) ?_; refine HL_r rfl rfl rfl rfl (R_load rfl (known_L (k := 2) rfl) rfl rfl) ?_; refine HL_r rfl rfl rfl rfl (R_move rfl) ?_; refine HL_r rfl rfl rfl rfl (R_move rfl) ?_; refine HL_r rfl rfl rfl rfl (R_build (r := [_, _]) rfl rfl) ?_; refine HL_callRE rfl rfl rfl (enters_of Tryz.func100 (by kernel_rfl) rfl) (S_rwith (by have := hok.2; omega) hseg (k, v)) (fun q hq => Or.inr hq) fun x => ?_
        obtain ⟨row, hrow⟩ := x
        refine HL_perm List.perm_append_comm ?_; change HL _ _ ((32, rowV (merge Prod.fst (k, v) (decide (v = noneB)) a.slots).length row) :: _) ((rv, _) :: (r1, _) :: (ra, _) :: rowL _ _ row) _ _ _ _
        have hrow : rowOk 2 (merge Prod.fst (k, v) (decide (v = noneB)) a.slots).length ((merge Prod.fst (k, v) (decide (v = noneB)) a.slots).flatMap slC) row := hrow
        rw [with_merge hok.1 k v] at hrow ⊢; refine HL_r rfl rfl rfl rfl (R_assign rfl) ?_; refine HL_nil ?_; refine HQ_then ?_; refine hK14 _ _ _ _ ?_; clear hK14 K14; refine HC_seq fun K15 hK15 => ?_; refine HC_seq fun K16 hK16 => ?_; refine HC_region ?_; refine HL_r rfl rfl rfl rfl (R_move rfl) ?_; refine HL_r rfl rfl rfl rfl (R_lenRow rfl hrow.zero rfl) ?_; refine HL_r rfl rfl rfl rfl (R_pure rfl rfl rfl) ?_; refine HL_nil ?_; refine HQ_then ?_; refine hK16 _ _ _ _ ?_; clear hK16 K16; refine HC_cond rfl (fun h17 => ?_) (fun h17 => ?_)
        · try exact Bool.noConfusion h17
          try simp only [Z1, Z2, Z3, Z4, Z5, Z6, Z7, Z8, Z9, Z10, Z11, Z12, Z13] at h17
          refine HC_seq fun K18 hK18 => ?_; refine HC_region ?_; refine HL_r rfl rfl rfl rfl (R_loadArr (xs := a.cells) (n := 8) rfl (known_L (k := 2) rfl) rfl rfl rfl) ?_; refine HL_storeArr (k := 1) (n := 8) (ys := (a).cells) rfl rfl rfl rfl rfl rfl rfl rfl rfl ?_; refine HL_r rfl rfl rfl rfl (R_assign rfl) ?_; refine HL_nil ?_; refine HQ_then ?_; refine hK18 _ _ _ _ ?_; clear hK18 K18; refine HC_ret ?_; refine HQ_thenR ?_; clear hK15 K15; refine HQ_post rfl rfl (.cons (res_cellA (vs := [_, _, _, _, _, _, _, _]) rfl (known_L (k := 1) rfl) rfl rfl) (.cons (res_tmp rfl) .nil)) (fun w1 hs1 => ?_); rw [hset, if_neg (by omega), if_neg (by omega), if_pos (by omega)]; exact ⟨⟨a, 5, [], ha, rfl⟩, rfl, hs1.weakL (List.nil_sublist _)⟩
        · try exact Bool.noConfusion h17
          try simp only [Z1, Z2, Z3, Z4, Z5, Z6, Z7, Z8, Z9, Z10, Z11, Z12, Z13] at h17
          refine HC_skip ?_; refine HQ_then ?_; refine hK15 _ _ _ _ ?_; clear hK15 K15; refine HC_seq fun K19 hK19 => ?_; refine HC_region ?_; refine HL_r rfl rfl rfl rfl (R_move rfl) ?_
          refine HL_r rfl rfl rfl rfl (R_fieldAddr rfl rfl (by first | (simp only [Nat.zero_add, Nat.reduceAdd, Nat.reduceMul, Nat.zero_mul, Nat.mul_one, Nat.add_zero]; exact rfl) | exact rfl)) ?_; refine HL_store (k := 2) (cs' := #[strV a.addr, uV a.nonce, uV a.bal.a, uV a.bal.b, uV a.bal.c, uV a.bal.d, strV a.code, rowV (withE a.slots k v).length row]) rfl rfl rfl rfl rfl (rowV_one _ _) rfl rfl rfl rfl ?_; refine HL_nil ?_; refine HQ_then ?_; refine hK19 _ _ _ _ ?_; clear hK19 K19; refine HC_seq fun K20 hK20 => ?_; refine HC_region ?_; refine HL_r rfl rfl rfl rfl (R_loadA (vs := [strV a.addr, uV a.nonce, uV a.bal.a, uV a.bal.b, uV a.bal.c, uV a.bal.d, strV a.code, rowV (withE a.slots k v).length row]) rfl (known_L (k := 2) rfl) rfl rfl rfl rfl) ?_; refine HL_storeA (k := 1) (n := 8) (cs' := #[strV a.addr, uV a.nonce, uV a.bal.a, uV a.bal.b, uV a.bal.c, uV a.bal.d, strV a.code, rowV (withE a.slots k v).length row]) (vs := #[_, _, _, _, _, _, _, _]) rfl rfl rfl rfl rfl rfl (by show (oneB (rowV _ _) && true) = true; rw [rowV_one]; rfl) (by exact Nat.le_of_ble_eq_true rfl) rfl rfl ?_; refine HL_r rfl rfl rfl rfl (R_assign rfl) ?_; refine HL_nil ?_; refine HQ_then ?_; refine hK20 _ _ _ _ ?_; clear hK20 K20; refine HC_ret ?_; refine HQ_post rfl rfl (.cons (res_cellA (vs := [_, _, _, _, _, _, _, _]) rfl (known_L (k := 1) rfl) rfl rfl) (.cons (res_tmp rfl) .nil)) (fun w1 hs1 => ?_)
          (rw [hset, if_neg (by omega), if_neg (by omega), if_neg (by omega)]
           exact ⟨⟨⟨a.addr, a.nonce, a.bal, a.code, withE a.slots k v, rowP row⟩, 0, rowL 93 ((withE a.slots k v).flatMap slC) row, ac_in_with ha (by omega) (by omega) (by omega) (rowP_seg hrow (by decide)), rfl⟩, by show Ending.returned _ = Ending.returned (Value.tuple #[Value.agg #[strV a.addr, uV a.nonce, uV a.bal.a, uV a.bal.b, uV a.bal.c, uV a.bal.d, strV a.code, plV (withE a.slots k v).length (rowP row)], .int .i64 0]); rw [rowP_V _ _ hrow.zero]; rfl, hs1.weakL (List.sublist_append_right [_, _, _] _)⟩)
        skip)
     skip)
end Go.Proofs.YtnkmbkndpoghdaaGreat
namespace Go.Proofs.YtnkmbkndpoghdaaGreat
set_option linter.all false
open Go.SL Go.RowKit Go.Shelf
/-! ### the reference of layouts: Addr, Forked, code, Code, Fits, Key, keys, has, packed, holds, low -/
set_option maxRecDepth 10000 in
theorem P_rAddr0 : Pure Tryz.prog 21 [.int .i64 0].toArray (strV A0) := by
  refine pure_of_HC Tryz.func21 rfl rfl fun w => ?_; refine HC_seq fun K1 hK1 => ?_; refine HC_region ?_; refine HL_r rfl rfl rfl rfl (R_assign rfl) ?_; refine HL_nil ?_; refine HQ_then ?_; refine hK1 _ _ _ _ ?_; clear hK1 K1; refine HC_seq fun K2 hK2 => ?_; refine HC_seq fun K3 hK3 => ?_; refine HC_region ?_; refine HL_r rfl rfl rfl rfl (R_move rfl) ?_; refine HL_r rfl rfl rfl rfl (R_pure rfl rfl rfl) ?_; refine HL_r rfl rfl rfl rfl (R_move rfl) ?_; refine HL_r rfl rfl rfl rfl (R_move rfl) ?_; refine HL_r rfl rfl rfl rfl (R_pure rfl rfl rfl) ?_; refine HL_r rfl rfl rfl rfl (R_pickF rfl rfl) ?_; refine HL_nil ?_; refine HQ_then ?_; refine hK3 _ _ _ _ ?_; clear hK3 K3; refine HC_cond rfl (fun h6 => ?_) (fun h6 => ?_)
  · try exact Bool.noConfusion h6
  · try exact Bool.noConfusion h6
    try simp only [Z1, Z2, Z3, Z4, Z5, Z6, Z7, Z8, Z9, Z10, Z11, Z12, Z13] at h6
    refine HC_skip ?_; refine HQ_then ?_; refine hK2 _ _ _ _ ?_; clear hK2 K2; refine HC_seq fun K8 hK8 => ?_; refine HC_region ?_; refine HL_make (n := 20) (b := 1) rfl rfl rfl rfl rfl rfl rfl rfl rfl (by decide) (by decide) fun r1 => ?_; refine HL_r rfl rfl rfl rfl (R_assign rfl) ?_; refine HL_nil ?_; refine HQ_then ?_; refine hK8 _ _ _ _ ?_; clear hK8 K8; refine HC_seq fun K9 hK9 => ?_; refine HC_region ?_; refine HL_r rfl rfl rfl rfl (R_move rfl) ?_; refine HL_r rfl rfl rfl rfl (R_indexS (j := 0) (m := 1) rfl rfl rfl rfl rfl (by decide) rfl) ?_; refine HL_store (k := 0) rfl rfl rfl rfl rfl rfl rfl rfl rfl rfl ?_; refine HL_nil ?_; refine HQ_then ?_; refine hK9 _ _ _ _ ?_; clear hK9 K9; refine HC_seq fun K10 hK10 => ?_; refine HC_region ?_; refine HL_r rfl rfl rfl rfl (R_move rfl) ?_; refine HL_r rfl rfl rfl rfl (R_move rfl) ?_; refine HL_r rfl rfl rfl rfl (R_pure rfl rfl rfl) ?_; refine HL_wrap_i64 (by omega) (by omega) ?_; refine HL_r rfl rfl rfl rfl (R_pure rfl rfl rfl) ?_; refine HL_wrap_u8 (by omega) (by omega) ?_; refine HL_r rfl rfl rfl rfl (R_indexS (j := 19) (m := 1) rfl rfl rfl rfl rfl (by decide) rfl) ?_; refine HL_store (k := 0) rfl rfl rfl rfl rfl rfl rfl rfl rfl rfl ?_; refine HL_nil ?_; refine HQ_then ?_; refine hK10 _ _ _ _ ?_; clear hK10 K10; refine HC_seq fun K11 hK11 => ?_; refine HC_region ?_; refine HL_r rfl rfl rfl rfl (R_move rfl) ?_; refine HL_r rfl rfl rfl rfl (R_bytesStr (b := A0) (row := some (r1, 20, [])) (e := 5) rfl ⟨rfl, rfl⟩ (fun p hp => .inl (by rw [List.mem_singleton.1 hp]; exact List.mem_cons_self)) rfl rfl rfl) ?_; refine HL_r rfl rfl rfl rfl (R_assign rfl) ?_; refine HL_nil ?_; refine HQ_then ?_; refine hK11 _ _ _ _ ?_; clear hK11 K11; refine HC_ret ?_; refine HQ_post rfl rfl (.cons (res_tmp rfl) .nil) (fun w1 hs1 => ?_); exact ⟨rfl, hs1.keep⟩
set_option maxRecDepth 10000 in
theorem P_rAddr1 : Pure Tryz.prog 21 [.int .i64 1].toArray (strV A1) := by
  refine pure_of_HC Tryz.func21 rfl rfl fun w => ?_; refine HC_seq fun K1 hK1 => ?_; refine HC_region ?_; refine HL_r rfl rfl rfl rfl (R_assign rfl) ?_; refine HL_nil ?_; refine HQ_then ?_; refine hK1 _ _ _ _ ?_; clear hK1 K1; refine HC_seq fun K2 hK2 => ?_; refine HC_seq fun K3 hK3 => ?_; refine HC_region ?_; refine HL_r rfl rfl rfl rfl (R_move rfl) ?_; refine HL_r rfl rfl rfl rfl (R_pure rfl rfl rfl) ?_; refine HL_r rfl rfl rfl rfl (R_move rfl) ?_; refine HL_r rfl rfl rfl rfl (R_move rfl) ?_; refine HL_r rfl rfl rfl rfl (R_pure rfl rfl rfl) ?_; refine HL_r rfl rfl rfl rfl (R_pickF rfl rfl) ?_; refine HL_nil ?_; refine HQ_then ?_; refine hK3 _ _ _ _ ?_; clear hK3 K3; refine HC_cond rfl (fun h6 => ?_) (fun h6 => ?_)
  · try exact Bool.noConfusion h6
  · try exact Bool.noConfusion h6
    try simp only [Z1, Z2, Z3, Z4, Z5, Z6, Z7, Z8, Z9, Z10, Z11, Z12, Z13] at h6
    refine HC_skip ?_; refine HQ_then ?_; refine hK2 _ _ _ _ ?_; clear hK2 K2; refine HC_seq fun K8 hK8 => ?_; refine HC_region ?_; refine HL_make (n := 20) (b := 1) rfl rfl rfl rfl rfl rfl rfl rfl rfl (by decide) (by decide) fun r1 => ?_; refine HL_r rfl rfl rfl rfl (R_assign rfl) ?_; refine HL_nil ?_; refine HQ_then ?_; refine hK8 _ _ _ _ ?_; clear hK8 K8; refine HC_seq fun K9 hK9 => ?_; refine HC_region ?_; refine HL_r rfl rfl rfl rfl (R_move rfl) ?_; refine HL_r rfl rfl rfl rfl (R_indexS (j := 0) (m := 1) rfl rfl rfl rfl rfl (by decide) rfl) ?_; refine HL_store (k := 0) rfl rfl rfl rfl rfl rfl rfl rfl rfl rfl ?_; refine HL_nil ?_; refine HQ_then ?_; refine hK9 _ _ _ _ ?_; clear hK9 K9; refine HC_seq fun K10 hK10 => ?_; refine HC_region ?_; refine HL_r rfl rfl rfl rfl (R_move rfl) ?_; refine HL_r rfl rfl rfl rfl (R_move rfl) ?_; refine HL_r rfl rfl rfl rfl (R_pure rfl rfl rfl) ?_; refine HL_wrap_i64 (by omega) (by omega) ?_; refine HL_r rfl rfl rfl rfl (R_pure rfl rfl rfl) ?_; refine HL_wrap_u8 (by omega) (by omega) ?_; refine HL_r rfl rfl rfl rfl (R_indexS (j := 19) (m := 1) rfl rfl rfl rfl rfl (by decide) rfl) ?_; refine HL_store (k := 0) rfl rfl rfl rfl rfl rfl rfl rfl rfl rfl ?_; refine HL_nil ?_; refine HQ_then ?_; refine hK10 _ _ _ _ ?_; clear hK10 K10; refine HC_seq fun K11 hK11 => ?_; refine HC_region ?_; refine HL_r rfl rfl rfl rfl (R_move rfl) ?_; refine HL_r rfl rfl rfl rfl (R_bytesStr (b := A1) (row := some (r1, 20, [])) (e := 5) rfl ⟨rfl, rfl⟩ (fun p hp => .inl (by rw [List.mem_singleton.1 hp]; exact List.mem_cons_self)) rfl rfl rfl) ?_; refine HL_r rfl rfl rfl rfl (R_assign rfl) ?_; refine HL_nil ?_; refine HQ_then ?_; refine hK11 _ _ _ _ ?_; clear hK11 K11; refine HC_ret ?_; refine HQ_post rfl rfl (.cons (res_tmp rfl) .nil) (fun w1 hs1 => ?_); exact ⟨rfl, hs1.keep⟩
set_option maxRecDepth 10000 in
theorem P_rAddrN {f : Int} (h : f < 0 ∨ f > 1) : Pure Tryz.prog 21 [.int .i64 f].toArray (strV []) := by
  refine pure_of_HC Tryz.func21 rfl rfl fun w => ?_; refine HC_seq fun K1 hK1 => ?_; refine HC_region ?_; refine HL_r rfl rfl rfl rfl (R_assign rfl) ?_; refine HL_nil ?_; refine HQ_then ?_; refine hK1 _ _ _ _ ?_; clear hK1 K1; refine HC_seq fun K2 hK2 => ?_; refine HC_seq fun K3 hK3 => ?_; refine HC_region ?_; refine HL_r rfl rfl rfl rfl (R_move rfl) ?_; refine HL_r rfl rfl rfl rfl (R_pure rfl rfl rfl) ?_; refine HL_r rfl rfl rfl rfl (R_move rfl) ?_
  refine HL_case 6 rfl (fun hb4 => ?_) (fun hb4 => ?_) <;> (try simp only [Z1, Z2, Z3, Z4, Z5, Z6, Z7, Z8, Z9, Z10, Z11, Z12, Z13] at hb4) <;> first | (refine HL_r rfl rfl rfl rfl (R_move rfl) ?_) | (refine HL_skip rfl rfl rfl ?_)
  all_goals first
    | (refine HL_r rfl rfl rfl rfl (R_pure rfl rfl rfl) ?_)
    | (refine HL_skip rfl rfl rfl ?_)
  all_goals first
    | (refine HL_r rfl rfl rfl rfl (R_pickT rfl rfl) ?_)
    | (refine HL_r rfl rfl rfl rfl (R_pickF rfl rfl) ?_)
  all_goals refine HL_nil ?_
  all_goals (
   refine HQ_then ?_; refine hK3 _ _ _ _ ?_; clear hK3 K3; refine HC_cond rfl (fun h6 => ?_) (fun h6 => ?_)
   · try exact Bool.noConfusion h6
     try simp only [Z1, Z2, Z3, Z4, Z5, Z6, Z7, Z8, Z9, Z10, Z11, Z12, Z13] at h6
     refine HC_seq fun K7 hK7 => ?_; refine HC_region ?_; refine HL_r rfl rfl rfl rfl (R_assign rfl) ?_; refine HL_nil ?_; refine HQ_then ?_; refine hK7 _ _ _ _ ?_; clear hK7 K7; refine HC_ret ?_; refine HQ_thenR ?_; clear hK2 K2; refine HQ_post rfl rfl (.cons (res_tmp rfl) .nil) (fun w1 hs1 => ?_)
     first | exact ⟨rfl, hs1.keep⟩ | (exfalso; omega)
   · try exact Bool.noConfusion h6
     all_goals try simp only [Z1, Z2, Z3, Z4, Z5, Z6, Z7, Z8, Z9, Z10, Z11, Z12, Z13] at h6
     all_goals (
      refine HC_skip ?_; refine HQ_then ?_; refine hK2 _ _ _ _ ?_; clear hK2 K2; refine HC_seq fun K8 hK8 => ?_; refine HC_region ?_
      exfalso; omega
      skip)
   skip)
theorem P_rAddr (f : Int) : Pure Tryz.prog 21 [.int .i64 f].toArray (strV (addrE f)) := by
  by_cases h0 : f = 0
  · subst h0; exact P_rAddr0
  · by_cases h1 : f = 1
    · subst h1; exact P_rAddr1
    · have h : f < 0 ∨ f > 1 := by omega
      have e : addrE f = [] := by unfold addrE; rw [if_pos h]
      rw [e]; exact P_rAddrN h
set_option maxRecDepth 10000 in
theorem P_rForked (f : Int) : Pure Tryz.prog 57 [.int .i64 f].toArray (.bool (decide (Forked f))) := by
  rw [forked_dec]; refine pure_of_HC Tryz.func57 rfl rfl fun w => ?_; refine HC_seq fun K1 hK1 => ?_; refine HC_region ?_; refine HL_r rfl rfl rfl rfl (R_assign rfl) ?_; refine HL_nil ?_; refine HQ_then ?_; refine hK1 _ _ _ _ ?_; clear hK1 K1; refine HC_seq fun K2 hK2 => ?_; refine HC_region ?_; refine HL_r rfl rfl rfl rfl (R_move rfl) ?_; refine HL_r rfl rfl rfl rfl (R_pure rfl rfl rfl) ?_; refine HL_r rfl rfl rfl rfl (R_move rfl) ?_
  refine HL_case 5 rfl (fun hb3 => ?_) (fun hb3 => ?_) <;> (try simp only [Z1, Z2, Z3, Z4, Z5, Z6, Z7, Z8, Z9, Z10, Z11, Z12, Z13] at hb3) <;> first | (refine HL_r rfl rfl rfl rfl (R_move rfl) ?_) | (refine HL_skip rfl rfl rfl ?_)
  all_goals first
    | (refine HL_r rfl rfl rfl rfl (R_pure rfl rfl rfl) ?_)
    | (refine HL_skip rfl rfl rfl ?_)
  all_goals first
    | (refine HL_r rfl rfl rfl rfl (R_pickT rfl rfl) ?_)
    | (refine HL_r rfl rfl rfl rfl (R_pickF rfl rfl) ?_)
  all_goals refine HL_r rfl rfl rfl rfl (R_assign rfl) ?_
  all_goals refine HL_nil ?_
  all_goals (
   refine HQ_then ?_; refine hK2 _ _ _ _ ?_; clear hK2 K2; refine HC_ret ?_; refine HQ_post rfl rfl (.cons (res_tmp rfl) .nil) (fun w1 hs1 => ?_); refine ⟨?_, hs1.keep⟩
   simp_all [resVal]
   all_goals first | done | omega | trace_state
   skip)
set_option maxRecDepth 10000 in
theorem P_rcode (f g : Int) : Pure Tryz.prog 53 [.int .i64 f, .int .i64 g].toArray (.tuple #[strV (codeE f g).1, .bool (codeE f g).2]) := by
  refine pure_of_HC Tryz.func53 rfl rfl fun w => ?_; refine HC_seq fun K1 hK1 => ?_; refine HC_region ?_; refine HL_r rfl rfl rfl rfl (R_assign rfl) ?_; refine HL_r rfl rfl rfl rfl (R_assign rfl) ?_; refine HL_nil ?_; refine HQ_then ?_; refine hK1 _ _ _ _ ?_; clear hK1 K1; refine HC_seq fun K2 hK2 => ?_; refine HC_seq fun K3 hK3 => ?_; refine HC_region ?_; refine HL_r rfl rfl rfl rfl (R_move rfl) ?_; refine HL_r rfl rfl rfl rfl (R_pure rfl rfl rfl) ?_; refine HL_nil ?_; refine HQ_then ?_; refine hK3 _ _ _ _ ?_; clear hK3 K3; refine HC_cond rfl (fun h4 => ?_) (fun h4 => ?_)
  · try exact Bool.noConfusion h4
    try simp only [Z1, Z2, Z3, Z4, Z5, Z6, Z7, Z8, Z9, Z10, Z11, Z12, Z13] at h4
    refine HC_seq fun K5 hK5 => ?_; refine HC_seq fun K6 hK6 => ?_; refine HC_region ?_; refine HL_r rfl rfl rfl rfl (R_move rfl) ?_; refine HL_r rfl rfl rfl rfl (R_pure rfl rfl rfl) ?_; refine HL_nil ?_; refine HQ_then ?_; refine hK6 _ _ _ _ ?_; clear hK6 K6; refine HC_cond rfl (fun h7 => ?_) (fun h7 => ?_)
    · try exact Bool.noConfusion h7
      try simp only [Z1, Z2, Z3, Z4, Z5, Z6, Z7, Z8, Z9, Z10, Z11, Z12, Z13] at h7
      refine HC_seq fun K8 hK8 => ?_; refine HC_region ?_; refine HL_r rfl rfl rfl rfl (R_assign rfl) ?_; refine HL_r rfl rfl rfl rfl (R_assign rfl) ?_; refine HL_nil ?_; refine HQ_then ?_; refine hK8 _ _ _ _ ?_; clear hK8 K8; refine HC_ret ?_; refine HQ_thenR ?_; clear hK5 K5; refine HQ_thenR ?_; clear hK2 K2; refine HQ_post rfl rfl (.cons (res_tmp rfl) (.cons (res_tmp rfl) .nil)) (fun w1 hs1 => ?_); refine ⟨?_, hs1.keep⟩
      unfold codeE
      rw [if_pos (by omega), if_pos (by omega)]; rfl
    · try exact Bool.noConfusion h7
      try simp only [Z1, Z2, Z3, Z4, Z5, Z6, Z7, Z8, Z9, Z10, Z11, Z12, Z13] at h7
      refine HC_skip ?_; refine HQ_then ?_; refine hK5 _ _ _ _ ?_; clear hK5 K5; refine HC_seq fun K9 hK9 => ?_; refine HC_region ?_; refine HL_r rfl rfl rfl rfl (R_assign rfl) ?_; refine HL_r rfl rfl rfl rfl (R_assign rfl) ?_; refine HL_nil ?_; refine HQ_then ?_; refine hK9 _ _ _ _ ?_; clear hK9 K9; refine HC_ret ?_; refine HQ_thenR ?_; clear hK2 K2; refine HQ_post rfl rfl (.cons (res_tmp rfl) (.cons (res_tmp rfl) .nil)) (fun w1 hs1 => ?_); refine ⟨?_, hs1.keep⟩
      unfold codeE
      rw [if_pos (by omega), if_neg (by omega)]; rfl
  · try exact Bool.noConfusion h4
    try simp only [Z1, Z2, Z3, Z4, Z5, Z6, Z7, Z8, Z9, Z10, Z11, Z12, Z13] at h4
    refine HC_skip ?_; refine HQ_then ?_; refine hK2 _ _ _ _ ?_; clear hK2 K2; refine HC_seq fun K10 hK10 => ?_; refine HC_seq fun K11 hK11 => ?_; refine HC_region ?_; refine HL_r rfl rfl rfl rfl (R_move rfl) ?_; refine HL_r rfl rfl rfl rfl (R_pure rfl rfl rfl) ?_; refine HL_nil ?_; refine HQ_then ?_; refine hK11 _ _ _ _ ?_; clear hK11 K11; refine HC_cond rfl (fun h12 => ?_) (fun h12 => ?_)
    · try exact Bool.noConfusion h12
      try simp only [Z1, Z2, Z3, Z4, Z5, Z6, Z7, Z8, Z9, Z10, Z11, Z12, Z13] at h12
      refine HC_seq fun K13 hK13 => ?_; refine HC_region ?_; refine HL_r rfl rfl rfl rfl (R_assign rfl) ?_; refine HL_r rfl rfl rfl rfl (R_assign rfl) ?_; refine HL_nil ?_; refine HQ_then ?_; refine hK13 _ _ _ _ ?_; clear hK13 K13; refine HC_ret ?_; refine HQ_thenR ?_; clear hK10 K10; refine HQ_post rfl rfl (.cons (res_tmp rfl) (.cons (res_tmp rfl) .nil)) (fun w1 hs1 => ?_); refine ⟨?_, hs1.keep⟩
      unfold codeE
      rw [if_neg (by omega), if_pos (by omega)]; rfl
    · try exact Bool.noConfusion h12
      try simp only [Z1, Z2, Z3, Z4, Z5, Z6, Z7, Z8, Z9, Z10, Z11, Z12, Z13] at h12
      refine HC_skip ?_; refine HQ_then ?_; refine hK10 _ _ _ _ ?_; clear hK10 K10; refine HC_seq fun K14 hK14 => ?_; refine HC_seq fun K15 hK15 => ?_; refine HC_region ?_; refine HL_r rfl rfl rfl rfl (R_move rfl) ?_; refine HL_r rfl rfl rfl rfl (R_pure rfl rfl rfl) ?_; refine HL_nil ?_; refine HQ_then ?_; refine hK15 _ _ _ _ ?_; clear hK15 K15; refine HC_cond rfl (fun h16 => ?_) (fun h16 => ?_)
      · try exact Bool.noConfusion h16
        try simp only [Z1, Z2, Z3, Z4, Z5, Z6, Z7, Z8, Z9, Z10, Z11, Z12, Z13] at h16
        refine HC_seq fun K17 hK17 => ?_; refine HC_region ?_; refine HL_r rfl rfl rfl rfl (R_assign rfl) ?_; refine HL_r rfl rfl rfl rfl (R_assign rfl) ?_; refine HL_nil ?_; refine HQ_then ?_; refine hK17 _ _ _ _ ?_; clear hK17 K17; refine HC_ret ?_; refine HQ_thenR ?_; clear hK14 K14; refine HQ_post rfl rfl (.cons (res_tmp rfl) (.cons (res_tmp rfl) .nil)) (fun w1 hs1 => ?_); refine ⟨?_, hs1.keep⟩
        unfold codeE
        rw [if_neg (by omega), if_neg (by omega), if_pos (by omega)]; rfl
      · try exact Bool.noConfusion h16
        try simp only [Z1, Z2, Z3, Z4, Z5, Z6, Z7, Z8, Z9, Z10, Z11, Z12, Z13] at h16
        refine HC_skip ?_; refine HQ_then ?_; refine hK14 _ _ _ _ ?_; clear hK14 K14; refine HC_seq fun K18 hK18 => ?_; refine HC_seq fun K19 hK19 => ?_; refine HC_region ?_; refine HL_r rfl rfl rfl rfl (R_move rfl) ?_; refine HL_r rfl rfl rfl rfl (R_pure rfl rfl rfl) ?_; refine HL_nil ?_; refine HQ_then ?_; refine hK19 _ _ _ _ ?_; clear hK19 K19; refine HC_cond rfl (fun h20 => ?_) (fun h20 => ?_)
        · try exact Bool.noConfusion h20
          try simp only [Z1, Z2, Z3, Z4, Z5, Z6, Z7, Z8, Z9, Z10, Z11, Z12, Z13] at h20
          refine HC_seq fun K21 hK21 => ?_; refine HC_region ?_; refine HL_r rfl rfl rfl rfl (R_assign rfl) ?_; refine HL_r rfl rfl rfl rfl (R_assign rfl) ?_; refine HL_nil ?_; refine HQ_then ?_; refine hK21 _ _ _ _ ?_; clear hK21 K21; refine HC_ret ?_; refine HQ_thenR ?_; clear hK18 K18; refine HQ_post rfl rfl (.cons (res_tmp rfl) (.cons (res_tmp rfl) .nil)) (fun w1 hs1 => ?_); refine ⟨?_, hs1.keep⟩
          unfold codeE
          rw [if_neg (by omega), if_neg (by omega), if_neg (by omega), if_pos (by omega)]; rfl
        · try exact Bool.noConfusion h20
          try simp only [Z1, Z2, Z3, Z4, Z5, Z6, Z7, Z8, Z9, Z10, Z11, Z12, Z13] at h20
          refine HC_skip ?_; refine HQ_then ?_; refine hK18 _ _ _ _ ?_; clear hK18 K18; refine HC_seq fun K22 hK22 => ?_; refine HC_region ?_; refine HL_r rfl rfl rfl rfl (R_assign rfl) ?_; refine HL_r rfl rfl rfl rfl (R_assign rfl) ?_; refine HL_nil ?_; refine HQ_then ?_; refine hK22 _ _ _ _ ?_; clear hK22 K22; refine HC_ret ?_; refine HQ_post rfl rfl (.cons (res_tmp rfl) (.cons (res_tmp rfl) .nil)) (fun w1 hs1 => ?_); refine ⟨?_, hs1.keep⟩
          unfold codeE
          rw [if_neg (by omega), if_neg (by omega), if_neg (by omega), if_neg (by omega)]; rfl
set_option maxHeartbeats 1000000 in
set_option maxRecDepth 10000 in
theorem P_rFits (f : Int) (r : Rec) : Pure Tryz.prog 18 [.int .i64 f, r.val].toArray (.int .i64 (fitsE f r)) := by
  refine pure_of_HC Tryz.func18 rfl rfl fun w => ?_; refine HC_seq fun K1 hK1 => ?_; refine HC_region ?_; refine HL_box (cs := r.cells.toArray) rfl rfl rfl rfl fun rb => ?_; refine HL_r rfl rfl rfl rfl (R_assign rfl) ?_; refine HL_nil ?_; refine HQ_then ?_; refine hK1 _ _ _ _ ?_; clear hK1 K1; refine HC_seq fun K2 hK2 => ?_; refine HC_seq fun K3 hK3 => ?_; refine HC_region ?_; refine HL_r rfl rfl rfl rfl (R_move rfl) ?_; refine HL_callP rfl rfl rfl (enters_of Tryz.func57 (by kernel_rfl) rfl) (P_rForked f) ?_; refine HL_r rfl rfl rfl rfl (R_pure rfl rfl rfl) ?_; refine HL_nil ?_; refine HQ_then ?_; refine hK3 _ _ _ _ ?_; clear hK3 K3; refine HC_cond rfl (fun h4 => ?_) (fun h4 => ?_)
  · try exact Bool.noConfusion h4
    try simp only [Z1, Z2, Z3, Z4, Z5, Z6, Z7, Z8, Z9, Z10, Z11, Z12, Z13] at h4
    refine HC_seq fun K5 hK5 => ?_; refine HC_region ?_; refine HL_r rfl rfl rfl rfl (R_assign rfl) ?_; refine HL_nil ?_; refine HQ_then ?_; refine hK5 _ _ _ _ ?_; clear hK5 K5; refine HC_ret ?_; refine HQ_thenR ?_; clear hK2 K2; refine HQ_post rfl rfl (.cons (res_tmp rfl) .nil) (fun w1 hs1 => ?_); refine ⟨?_, hs1.keep⟩
    unfold fitsE fitsB
    rw [if_pos (by first | assumption | (simp_all; done))]; rfl
  · try exact Bool.noConfusion h4
    try simp only [Z1, Z2, Z3, Z4, Z5, Z6, Z7, Z8, Z9, Z10, Z11, Z12, Z13] at h4
    refine HC_skip ?_; refine HQ_then ?_; refine hK2 _ _ _ _ ?_; clear hK2 K2; refine HC_seq fun K6 hK6 => ?_; refine HC_region ?_; refine HL_r rfl rfl rfl rfl (R_build (r := [_, _, _, _]) rfl rfl) ?_; refine HL_alloc (cs := #[_, _, _, _]) rfl rfl rfl rfl fun r1 => ?_
    refine HL_storeA (k := 0) (n := 4) (cs' := #[_, _, _, _]) (vs := #[_, _, _, _]) rfl rfl rfl rfl rfl rfl rfl (by exact Nat.le_of_ble_eq_true rfl) rfl (by first | (simp only [List.set_cons_zero, List.set_cons_succ]; exact rfl) | exact rfl) ?_; refine HL_nil ?_; refine HQ_then ?_; refine hK6 _ _ _ _ ?_; clear hK6 K6; refine HC_seq fun K7 hK7 => ?_; refine HC_seq fun K8 hK8 => ?_; refine HC_region ?_; refine HL_r rfl rfl rfl rfl (R_move rfl) ?_; refine HL_r rfl rfl rfl rfl (R_pure rfl rfl rfl) ?_; refine HL_r rfl rfl rfl rfl (R_move rfl) ?_
    refine HL_case 12 rfl (fun hb9 => ?_) (fun hb9 => ?_) <;> (try simp only [Z1, Z2, Z3, Z4, Z5, Z6, Z7, Z8, Z9, Z10, Z11, Z12, Z13] at hb9) <;> first | (refine HL_r rfl rfl rfl rfl (R_fieldAddr rfl rfl (by first | (simp only [Nat.zero_add, Nat.reduceAdd, Nat.reduceMul, Nat.zero_mul, Nat.mul_one, Nat.add_zero]; exact rfl) | exact rfl)) ?_) | (refine HL_skip rfl rfl rfl ?_)
    all_goals first
      | (refine HL_r rfl rfl rfl rfl (R_loadA (vs := [_, _, _, _]) rfl (known_L (k := 1) rfl) rfl rfl rfl rfl) ?_)
      | (refine HL_skip rfl rfl rfl ?_)
    all_goals first
      | (refine HL_r rfl rfl rfl rfl (R_loadA (vs := [_, _, _, _]) rfl (known_L (k := 0) rfl) rfl rfl rfl rfl) ?_)
      | (refine HL_skip rfl rfl rfl ?_)
    all_goals first
      | (refine HL_r rfl rfl rfl rfl (R_neArr rfl rfl rfl rfl rfl (by kernel_rfl) rfl rfl rfl rfl) ?_)
      | (refine HL_skip rfl rfl rfl ?_)
    all_goals first | (refine HL_as (congrArg (fun b => Value.bool (!b)) (eqW r.overhead w40)) ?_) | skip
    all_goals first
      | (refine HL_r rfl rfl rfl rfl (R_pickT rfl rfl) ?_)
      | (refine HL_r rfl rfl rfl rfl (R_pickF rfl rfl) ?_)
    all_goals refine HL_r rfl rfl rfl rfl (R_move rfl) ?_
    all_goals first
      | (refine HL_r rfl rfl rfl rfl (R_move rfl) ?_)
      | (refine HL_case 18 rfl (fun hb13 => ?_) (fun hb13 => ?_) <;> (try simp only [Z1, Z2, Z3, Z4, Z5, Z6, Z7, Z8, Z9, Z10, Z11, Z12, Z13] at hb13) <;> first | (refine HL_r rfl rfl rfl rfl (R_move rfl) ?_) | (refine HL_skip rfl rfl rfl ?_))
    all_goals first
      | (refine HL_r rfl rfl rfl rfl (R_pure rfl rfl rfl) ?_)
      | (refine HL_skip rfl rfl rfl ?_)
    all_goals first
      | (refine HL_r rfl rfl rfl rfl (R_move rfl) ?_)
      | (refine HL_skip rfl rfl rfl ?_)
    all_goals first
      | (refine HL_skip rfl rfl rfl ?_)
      | (refine HL_case 21 rfl (fun hb16 => ?_) (fun hb16 => ?_) <;> (try simp only [Z1, Z2, Z3, Z4, Z5, Z6, Z7, Z8, Z9, Z10, Z11, Z12, Z13] at hb16) <;> first | (refine HL_r rfl rfl rfl rfl (R_fieldAddr rfl rfl (by first | (simp only [Nat.zero_add, Nat.reduceAdd, Nat.reduceMul, Nat.zero_mul, Nat.mul_one, Nat.add_zero]; exact rfl) | exact rfl)) ?_) | (refine HL_skip rfl rfl rfl ?_))
    all_goals first
      | (refine HL_r rfl rfl rfl rfl (R_load rfl (known_L (k := 1) rfl) rfl rfl) ?_)
      | (refine HL_skip rfl rfl rfl ?_)
    all_goals first
      | (refine HL_r rfl rfl rfl rfl (R_pure rfl rfl rfl) ?_)
      | (refine HL_skip rfl rfl rfl ?_)
    all_goals first | (refine HL_as (congrArg (fun b => Value.bool (!b)) (eqU r.extra 0)) ?_) | skip
    all_goals first
      | (refine HL_r rfl rfl rfl rfl (R_move rfl) ?_)
      | (refine HL_skip rfl rfl rfl ?_)
    all_goals first
      | (refine HL_skip rfl rfl rfl ?_)
      | (refine HL_case 25 rfl (fun hb20 => ?_) (fun hb20 => ?_) <;> (try simp only [Z1, Z2, Z3, Z4, Z5, Z6, Z7, Z8, Z9, Z10, Z11, Z12, Z13] at hb20) <;> first | (refine HL_r rfl rfl rfl rfl (R_fieldAddr rfl rfl (by first | (simp only [Nat.zero_add, Nat.reduceAdd, Nat.reduceMul, Nat.zero_mul, Nat.mul_one, Nat.add_zero]; exact rfl) | exact rfl)) ?_) | (refine HL_skip rfl rfl rfl ?_))
    all_goals first
      | (refine HL_r rfl rfl rfl rfl (R_loadA (vs := [_, _, _, _]) rfl (known_L (k := 1) rfl) rfl rfl rfl rfl) ?_)
      | (refine HL_skip rfl rfl rfl ?_)
    all_goals first
      | (refine HL_r rfl rfl rfl rfl (R_loadA (vs := [_, _, _, _]) rfl (known_L (k := 0) rfl) rfl rfl rfl rfl) ?_)
      | (refine HL_skip rfl rfl rfl ?_)
    all_goals first
      | (refine HL_r rfl rfl rfl rfl (R_neArr rfl rfl rfl rfl rfl (by kernel_rfl) rfl rfl rfl rfl) ?_)
      | (refine HL_skip rfl rfl rfl ?_)
    all_goals first | (refine HL_as (congrArg (fun b => Value.bool (!b)) (eqW r.blob w40)) ?_) | skip
    all_goals first
      | (refine HL_r rfl rfl rfl rfl (R_pickT rfl rfl) ?_)
      | (refine HL_r rfl rfl rfl rfl (R_pickF rfl rfl) ?_)
      | (refine HL_skip rfl rfl rfl ?_)
    all_goals first
      | (refine HL_r rfl rfl rfl rfl (R_pickT rfl rfl) ?_)
      | (refine HL_r rfl rfl rfl rfl (R_pickF rfl rfl) ?_)
      | (refine HL_skip rfl rfl rfl ?_)
    all_goals first
      | (refine HL_r rfl rfl rfl rfl (R_pickT rfl rfl) ?_)
      | (refine HL_r rfl rfl rfl rfl (R_pickF rfl rfl) ?_)
    all_goals refine HL_r rfl rfl rfl rfl (R_move rfl) ?_
    all_goals first
      | (refine HL_r rfl rfl rfl rfl (R_move rfl) ?_)
      | (refine HL_skip rfl rfl rfl ?_)
      | (refine HL_case 33 rfl (fun hb26 => ?_) (fun hb26 => ?_) <;> (try simp only [Z1, Z2, Z3, Z4, Z5, Z6, Z7, Z8, Z9, Z10, Z11, Z12, Z13] at hb26) <;> first | (refine HL_r rfl rfl rfl rfl (R_move rfl) ?_) | (refine HL_skip rfl rfl rfl ?_))
    all_goals first
      | (refine HL_r rfl rfl rfl rfl (R_pure rfl rfl rfl) ?_)
      | (refine HL_skip rfl rfl rfl ?_)
    all_goals first
      | (refine HL_r rfl rfl rfl rfl (R_move rfl) ?_)
      | (refine HL_skip rfl rfl rfl ?_)
    all_goals first
      | (refine HL_skip rfl rfl rfl ?_)
      | (refine HL_case 36 rfl (fun hb29 => ?_) (fun hb29 => ?_) <;> (try simp only [Z1, Z2, Z3, Z4, Z5, Z6, Z7, Z8, Z9, Z10, Z11, Z12, Z13] at hb29) <;> first | (refine HL_r rfl rfl rfl rfl (R_fieldAddr rfl rfl (by first | (simp only [Nat.zero_add, Nat.reduceAdd, Nat.reduceMul, Nat.zero_mul, Nat.mul_one, Nat.add_zero]; exact rfl) | exact rfl)) ?_) | (refine HL_skip rfl rfl rfl ?_))
    all_goals first
      | (refine HL_r rfl rfl rfl rfl (R_load rfl (known_L (k := 1) rfl) rfl rfl) ?_)
      | (refine HL_skip rfl rfl rfl ?_)
    all_goals first
      | (refine HL_r rfl rfl rfl rfl (R_pure rfl rfl rfl) ?_)
      | (refine HL_skip rfl rfl rfl ?_)
    all_goals first | (refine HL_as (congrArg (fun b => Value.bool (!b)) (eqU r.operator 0)) ?_) | skip
    all_goals first
      | (refine HL_r rfl rfl rfl rfl (R_pickT rfl rfl) ?_)
      | (refine HL_r rfl rfl rfl rfl (R_pickF rfl rfl) ?_)
      | (refine HL_skip rfl rfl rfl ?_)
    all_goals first
      | (refine HL_r rfl rfl rfl rfl (R_pickT rfl rfl) ?_)
      | (refine HL_r rfl rfl rfl rfl (R_pickF rfl rfl) ?_)
    all_goals refine HL_nil ?_
    all_goals (
     refine HQ_then ?_; refine hK8 _ _ _ _ ?_; clear hK8 K8; refine HC_cond rfl (fun h33 => ?_) (fun h33 => ?_)
     · try exact Bool.noConfusion h33
       all_goals try simp only [Z1, Z2, Z3, Z4, Z5, Z6, Z7, Z8, Z9, Z10, Z11, Z12, Z13] at h33
       all_goals (
        refine HC_seq fun K34 hK34 => ?_; refine HC_region ?_; refine HL_r rfl rfl rfl rfl (R_assign rfl) ?_; refine HL_nil ?_; refine HQ_then ?_; refine hK34 _ _ _ _ ?_; clear hK34 K34; refine HC_ret ?_; refine HQ_thenR ?_; clear hK7 K7; refine HQ_post rfl rfl (.cons (res_tmp rfl) .nil) (fun w1 hs1 => ?_); refine ⟨?_, hs1.keep⟩
        unfold fitsE fitsB
        first
          | (exfalso; omega)
          | (rw [if_neg (by first | assumption | (simp_all; done)), if_neg (by simp_all; done)]; rfl)
        skip)
     · try exact Bool.noConfusion h33
       all_goals try simp only [Z1, Z2, Z3, Z4, Z5, Z6, Z7, Z8, Z9, Z10, Z11, Z12, Z13] at h33
       all_goals (
        refine HC_skip ?_; refine HQ_then ?_; refine hK7 _ _ _ _ ?_; clear hK7 K7; refine HC_seq fun K35 hK35 => ?_; refine HC_region ?_; refine HL_r rfl rfl rfl rfl (R_assign rfl) ?_; refine HL_nil ?_; refine HQ_then ?_; refine hK35 _ _ _ _ ?_; clear hK35 K35; refine HC_ret ?_; refine HQ_post rfl rfl (.cons (res_tmp rfl) .nil) (fun w1 hs1 => ?_); refine ⟨?_, hs1.keep⟩
        unfold fitsE fitsB
        first
          | (exfalso; omega)
          | (rw [if_neg (by first | assumption | (simp_all; done)), if_pos (by simp_all; done)]; rfl)
        skip)
     skip)
set_option maxRecDepth 10000 in
theorem P_rKey {n : Nat} (h : U64 n) : Pure Tryz.prog 66 [uV n].toArray (strV (keyE n)) := by
  refine pure_of_HC Tryz.func66 rfl rfl fun w => ?_; refine HC_seq fun K1 hK1 => ?_; refine HC_region ?_; refine HL_r rfl rfl rfl rfl (R_assign rfl) ?_; refine HL_nil ?_; refine HQ_then ?_; refine hK1 _ _ _ _ ?_; clear hK1 K1; refine HC_seq fun K2 hK2 => ?_; refine HC_region ?_; refine HL_r rfl rfl rfl rfl (R_move rfl) ?_; refine HL_r rfl rfl rfl rfl (R_build (r := [_, _, _, _]) rfl rfl) ?_; refine HL_callP rfl rfl rfl (enters_of Tryz.func96 (by kernel_rfl) rfl) (P_ref_Fixed (wN1_ok h).wok) ?_; refine HL_r rfl rfl rfl rfl (R_assign rfl) ?_; refine HL_nil ?_; refine HQ_then ?_; refine hK2 _ _ _ _ ?_; clear hK2 K2; refine HC_ret ?_; refine HQ_post rfl rfl (.cons (res_tmp rfl) .nil) (fun w1 hs1 => ?_); exact ⟨rfl, hs1.keep⟩
def keysC : List Value := tab.map fun i => uV (keyN i)
set_option maxRecDepth 10000 in
theorem E_rkeys : PureE (α := Nat) Tryz.prog 60 [].toArray (fun p => .slice (some ⟨p, 0, none⟩) 7 7) (fun p => [(p, .cells keysC.toArray 25 (0, 0))]) := by
  refine pureE_of_HC Tryz.func60 rfl rfl fun w => ?_; refine HC_seq fun K1 hK1 => ?_; refine HC_region ?_; refine HL_r rfl rfl rfl rfl (R_assign rfl) ?_; refine HL_nil ?_; refine HQ_then ?_; refine hK1 _ _ _ _ ?_; clear hK1 K1; refine HC_seq fun K2 hK2 => ?_; refine HC_region ?_; refine HL_buildSlice (vs := [_, _, _, _, _, _, _]) (zs := [_, _, _, _, _, _, _]) (r := [_, _, _, _, _, _, _]) rfl rfl rfl rfl rfl rfl rfl rfl rfl (by show (madeCells #[_] _).toList = _; rw [made_one]; exact rfl) rfl fun r1 => ?_; refine HL_r rfl rfl rfl rfl (R_assign rfl) ?_; refine HL_nil ?_; refine HQ_then ?_; refine hK2 _ _ _ _ ?_; clear hK2 K2; refine HC_ret ?_; refine HQ_post rfl rfl (.cons (res_tmp rfl) .nil) (fun w1 hs1 => ?_); exact ⟨r1, rfl, hs1.weakL (List.Sublist.refl _)⟩
set_option maxRecDepth 10000 in
theorem P_rhas (f : Int) {i : Nat} (hi : i < 7) : Pure Tryz.prog 62 [.int .i64 f, .int .i64 (i : Int)].toArray (.bool (hasE f i)) := by
  refine pure_of_HC Tryz.func62 rfl rfl fun w => ?_; refine HC_seq fun K1 hK1 => ?_; refine HC_region ?_; refine HL_r rfl rfl rfl rfl (R_assign rfl) ?_; refine HL_nil ?_; refine HQ_then ?_; refine hK1 _ _ _ _ ?_; clear hK1 K1; refine HC_seq fun K2 hK2 => ?_; refine HC_seq fun K3 hK3 => ?_; refine HC_region ?_; refine HL_r rfl rfl rfl rfl (R_move rfl) ?_; refine HL_r rfl rfl rfl rfl (R_pure rfl rfl rfl) ?_; refine HL_nil ?_; refine HQ_then ?_; refine hK3 _ _ _ _ ?_; clear hK3 K3; refine HC_cond rfl (fun h4 => ?_) (fun h4 => ?_)
  · try exact Bool.noConfusion h4
    try simp only [Z1, Z2, Z3, Z4, Z5, Z6, Z7, Z8, Z9, Z10, Z11, Z12, Z13] at h4
    refine HC_seq fun K5 hK5 => ?_; refine HC_region ?_; refine HL_r rfl rfl rfl rfl (R_assign rfl) ?_; refine HL_nil ?_; refine HQ_then ?_; refine hK5 _ _ _ _ ?_; clear hK5 K5; refine HC_ret ?_; refine HQ_thenR ?_; clear hK2 K2; refine HQ_post rfl rfl (.cons (res_tmp rfl) .nil) (fun w1 hs1 => ?_); refine ⟨?_, hs1.keep⟩
    (have h : i = 0 ∨ i = 1 := by omega
     rcases h with rfl | rfl <;> rfl)
  · try exact Bool.noConfusion h4
    try simp only [Z1, Z2, Z3, Z4, Z5, Z6, Z7, Z8, Z9, Z10, Z11, Z12, Z13] at h4
    refine HC_skip ?_; refine HQ_then ?_; refine hK2 _ _ _ _ ?_; clear hK2 K2; refine HC_seq fun K6 hK6 => ?_; refine HC_seq fun K7 hK7 => ?_; refine HC_region ?_; refine HL_r rfl rfl rfl rfl (R_move rfl) ?_; refine HL_r rfl rfl rfl rfl (R_pure rfl rfl rfl) ?_; refine HL_nil ?_; refine HQ_then ?_; refine hK7 _ _ _ _ ?_; clear hK7 K7; refine HC_cond rfl (fun h8 => ?_) (fun h8 => ?_)
    · try exact Bool.noConfusion h8
      try simp only [Z1, Z2, Z3, Z4, Z5, Z6, Z7, Z8, Z9, Z10, Z11, Z12, Z13] at h8
      refine HC_seq fun K9 hK9 => ?_; refine HC_region ?_; refine HL_r rfl rfl rfl rfl (R_move rfl) ?_; refine HL_r rfl rfl rfl rfl (R_pure rfl rfl rfl) ?_; refine HL_r rfl rfl rfl rfl (R_assign rfl) ?_; refine HL_nil ?_; refine HQ_then ?_; refine hK9 _ _ _ _ ?_; clear hK9 K9; refine HC_ret ?_; refine HQ_thenR ?_; clear hK6 K6; refine HQ_post rfl rfl (.cons (res_tmp rfl) .nil) (fun w1 hs1 => ?_); refine ⟨?_, hs1.keep⟩
      (have h : i = 2 ∨ i = 3 := by omega
       rcases h with rfl | rfl <;> rfl)
    · try exact Bool.noConfusion h8
      try simp only [Z1, Z2, Z3, Z4, Z5, Z6, Z7, Z8, Z9, Z10, Z11, Z12, Z13] at h8
      refine HC_skip ?_; refine HQ_then ?_; refine hK6 _ _ _ _ ?_; clear hK6 K6; refine HC_seq fun K10 hK10 => ?_; refine HC_seq fun K11 hK11 => ?_; refine HC_region ?_; refine HL_r rfl rfl rfl rfl (R_move rfl) ?_; refine HL_r rfl rfl rfl rfl (R_pure rfl rfl rfl) ?_; refine HL_nil ?_; refine HQ_then ?_; refine hK11 _ _ _ _ ?_; clear hK11 K11; refine HC_cond rfl (fun h12 => ?_) (fun h12 => ?_)
      · try exact Bool.noConfusion h12
        try simp only [Z1, Z2, Z3, Z4, Z5, Z6, Z7, Z8, Z9, Z10, Z11, Z12, Z13] at h12
        refine HC_seq fun K13 hK13 => ?_; refine HC_region ?_; refine HL_r rfl rfl rfl rfl (R_move rfl) ?_; refine HL_r rfl rfl rfl rfl (R_pure rfl rfl rfl) ?_; refine HL_r rfl rfl rfl rfl (R_assign rfl) ?_; refine HL_nil ?_; refine HQ_then ?_; refine hK13 _ _ _ _ ?_; clear hK13 K13; refine HC_ret ?_; refine HQ_thenR ?_; clear hK10 K10; refine HQ_post rfl rfl (.cons (res_tmp rfl) .nil) (fun w1 hs1 => ?_); refine ⟨?_, hs1.keep⟩
        (have h : i = 4 ∨ i = 5 := by omega
         rcases h with rfl | rfl <;> rfl)
      · try exact Bool.noConfusion h12
        try simp only [Z1, Z2, Z3, Z4, Z5, Z6, Z7, Z8, Z9, Z10, Z11, Z12, Z13] at h12
        refine HC_skip ?_; refine HQ_then ?_; refine hK10 _ _ _ _ ?_; clear hK10 K10; refine HC_seq fun K14 hK14 => ?_; refine HC_region ?_; refine HL_r rfl rfl rfl rfl (R_move rfl) ?_; refine HL_r rfl rfl rfl rfl (R_pure rfl rfl rfl) ?_; refine HL_r rfl rfl rfl rfl (R_assign rfl) ?_; refine HL_nil ?_; refine HQ_then ?_; refine hK14 _ _ _ _ ?_; clear hK14 K14; refine HC_ret ?_; refine HQ_post rfl rfl (.cons (res_tmp rfl) .nil) (fun w1 hs1 => ?_); refine ⟨?_, hs1.keep⟩
        (obtain rfl : i = 6 := by omega
         rfl)
set_option maxRecDepth 10000 in
theorem P_rpacked {x y : Nat} (hx : U64 x) (hy : U64 y) : Pure Tryz.prog 95 [uV x, uV y].toArray (strV (bW ⟨y, x, 0, 0⟩)) := by
  refine pure_of_HC Tryz.func95 rfl rfl fun w => ?_; refine HC_seq fun K1 hK1 => ?_; refine HC_region ?_; refine HL_r rfl rfl rfl rfl (R_assign rfl) ?_; refine HL_nil ?_; refine HQ_then ?_; refine hK1 _ _ _ _ ?_; clear hK1 K1; refine HC_seq fun K2 hK2 => ?_; refine HC_region ?_; refine HL_r rfl rfl rfl rfl (R_move rfl) ?_; refine HL_r rfl rfl rfl rfl (R_move rfl) ?_; refine HL_r rfl rfl rfl rfl (R_build (r := [_, _, _, _]) rfl rfl) ?_; refine HL_callP rfl rfl rfl (enters_of Tryz.func96 (by kernel_rfl) rfl) (P_ref_Fixed (l := [y, x, 0, 0]) (W4.ok.wok (w := ⟨y, x, 0, 0⟩) ⟨hy, hx, u64_0, u64_0⟩)) ?_; refine HL_r rfl rfl rfl rfl (R_assign rfl) ?_; refine HL_nil ?_; refine HQ_then ?_; refine hK2 _ _ _ _ ?_; clear hK2 K2; refine HC_ret ?_; refine HQ_post rfl rfl (.cons (res_tmp rfl) .nil) (fun w1 hs1 => ?_); exact ⟨rfl, hs1.keep⟩
set_option maxHeartbeats 1000000 in
set_option maxRecDepth 10000 in
theorem P_rholds {r : Rec} (hr : r.ok) {i : Nat} (hi : i < 7) : Pure Tryz.prog 63 [.int .i64 (i : Int), r.val].toArray (strV (bW (holdsE r i))) := by
  refine pure_of_HC Tryz.func63 rfl rfl fun w => ?_; refine HC_seq fun K1 hK1 => ?_; refine HC_region ?_; refine HL_box (cs := r.cells.toArray) rfl rfl rfl rfl fun rb => ?_; refine HL_r rfl rfl rfl rfl (R_assign rfl) ?_; refine HL_nil ?_; refine HQ_then ?_; refine hK1 _ _ _ _ ?_; clear hK1 K1; refine HC_seq fun K2 hK2 => ?_; refine HC_seq fun K3 hK3 => ?_; refine HC_region ?_; refine HL_r rfl rfl rfl rfl (R_move rfl) ?_; refine HL_nil ?_; refine HQ_then ?_; refine hK3 _ _ _ _ ?_; clear hK3 K3; refine HC_block ?_; refine HC_seq fun K4 hK4 => ?_; refine HC_region ?_; refine HL_r rfl rfl rfl rfl (R_pure rfl rfl rfl) ?_; refine HL_r rfl rfl rfl rfl (R_assign rfl) ?_; refine HL_nil ?_; refine HQ_then ?_; refine hK4 _ _ _ _ ?_; clear hK4 K4; refine HC_cond rfl (fun h5 => ?_) (fun h5 => ?_)
  · try exact Bool.noConfusion h5
    try simp only [Z1, Z2, Z3, Z4, Z5, Z6, Z7, Z8, Z9, Z10, Z11, Z12, Z13] at h5
    refine HC_seq fun K6 hK6 => ?_; refine HC_region ?_
    refine HL_r rfl rfl rfl rfl (R_fieldAddr rfl rfl (by first | (simp only [Nat.zero_add, Nat.reduceAdd, Nat.reduceMul, Nat.zero_mul, Nat.mul_one, Nat.add_zero]; exact rfl) | exact rfl)) ?_; refine HL_r rfl rfl rfl rfl (R_load rfl (known_L (k := 0) rfl) rfl rfl) ?_
    refine HL_r rfl rfl rfl rfl (R_fieldAddr rfl rfl (by first | (simp only [Nat.zero_add, Nat.reduceAdd, Nat.reduceMul, Nat.zero_mul, Nat.mul_one, Nat.add_zero]; exact rfl) | exact rfl)) ?_; refine HL_r rfl rfl rfl rfl (R_load rfl (known_L (k := 0) rfl) rfl rfl) ?_; refine HL_callP rfl rfl rfl (enters_of Tryz.func95 (by kernel_rfl) rfl) (P_rpacked hr.time hr.number) ?_; refine HL_r rfl rfl rfl rfl (R_assign rfl) ?_; refine HL_nil ?_; refine HQ_then ?_; refine hK6 _ _ _ _ ?_; clear hK6 K6; refine HC_ret ?_; refine HQ_blockR ?_; refine HQ_thenR ?_; clear hK2 K2; refine HQ_post rfl rfl (.cons (res_tmp rfl) .nil) (fun w1 hs1 => ?_); refine ⟨?_, hs1.keep⟩
    (obtain rfl : i = 0 := by omega
     rfl)
  · try exact Bool.noConfusion h5
    try simp only [Z1, Z2, Z3, Z4, Z5, Z6, Z7, Z8, Z9, Z10, Z11, Z12, Z13] at h5
    refine HC_seq fun K7 hK7 => ?_; refine HC_region ?_; refine HL_r rfl rfl rfl rfl (R_pure rfl rfl rfl) ?_; refine HL_r rfl rfl rfl rfl (R_assign rfl) ?_; refine HL_nil ?_; refine HQ_then ?_; refine hK7 _ _ _ _ ?_; clear hK7 K7; refine HC_cond rfl (fun h8 => ?_) (fun h8 => ?_)
    · try exact Bool.noConfusion h8
      try simp only [Z1, Z2, Z3, Z4, Z5, Z6, Z7, Z8, Z9, Z10, Z11, Z12, Z13] at h8
      refine HC_seq fun K9 hK9 => ?_; refine HC_region ?_
      refine HL_r rfl rfl rfl rfl (R_fieldAddr rfl rfl (by first | (simp only [Nat.zero_add, Nat.reduceAdd, Nat.reduceMul, Nat.zero_mul, Nat.mul_one, Nat.add_zero]; exact rfl) | exact rfl)) ?_; refine HL_r rfl rfl rfl rfl (R_loadA (vs := [_, _, _, _]) rfl (known_L (k := 0) rfl) rfl rfl rfl rfl) ?_; refine HL_callP rfl rfl rfl (enters_of Tryz.func96 (by kernel_rfl) rfl) (P_ref_Fixed hr.base.wok) ?_; refine HL_r rfl rfl rfl rfl (R_assign rfl) ?_; refine HL_nil ?_; refine HQ_then ?_; refine hK9 _ _ _ _ ?_; clear hK9 K9; refine HC_ret ?_; refine HQ_blockR ?_; refine HQ_thenR ?_; clear hK2 K2; refine HQ_post rfl rfl (.cons (res_tmp rfl) .nil) (fun w1 hs1 => ?_); refine ⟨?_, hs1.keep⟩
      (obtain rfl : i = 1 := by omega
       rfl)
    · try exact Bool.noConfusion h8
      try simp only [Z1, Z2, Z3, Z4, Z5, Z6, Z7, Z8, Z9, Z10, Z11, Z12, Z13] at h8
      refine HC_seq fun K10 hK10 => ?_; refine HC_region ?_; refine HL_r rfl rfl rfl rfl (R_pure rfl rfl rfl) ?_; refine HL_r rfl rfl rfl rfl (R_assign rfl) ?_; refine HL_nil ?_; refine HQ_then ?_; refine hK10 _ _ _ _ ?_; clear hK10 K10; refine HC_cond rfl (fun h11 => ?_) (fun h11 => ?_)
      · try exact Bool.noConfusion h11
        try simp only [Z1, Z2, Z3, Z4, Z5, Z6, Z7, Z8, Z9, Z10, Z11, Z12, Z13] at h11
        refine HC_seq fun K12 hK12 => ?_; refine HC_region ?_
        refine HL_r rfl rfl rfl rfl (R_fieldAddr rfl rfl (by first | (simp only [Nat.zero_add, Nat.reduceAdd, Nat.reduceMul, Nat.zero_mul, Nat.mul_one, Nat.add_zero]; exact rfl) | exact rfl)) ?_; refine HL_r rfl rfl rfl rfl (R_loadA (vs := [_, _, _, _]) rfl (known_L (k := 0) rfl) rfl rfl rfl rfl) ?_; refine HL_callP rfl rfl rfl (enters_of Tryz.func96 (by kernel_rfl) rfl) (P_ref_Fixed hr.overhead.wok) ?_; refine HL_r rfl rfl rfl rfl (R_assign rfl) ?_; refine HL_nil ?_; refine HQ_then ?_; refine hK12 _ _ _ _ ?_; clear hK12 K12; refine HC_ret ?_; refine HQ_blockR ?_; refine HQ_thenR ?_; clear hK2 K2; refine HQ_post rfl rfl (.cons (res_tmp rfl) .nil) (fun w1 hs1 => ?_); refine ⟨?_, hs1.keep⟩
        (obtain rfl : i = 2 := by omega
         rfl)
      · try exact Bool.noConfusion h11
        try simp only [Z1, Z2, Z3, Z4, Z5, Z6, Z7, Z8, Z9, Z10, Z11, Z12, Z13] at h11
        refine HC_seq fun K13 hK13 => ?_; refine HC_region ?_; refine HL_r rfl rfl rfl rfl (R_pure rfl rfl rfl) ?_; refine HL_r rfl rfl rfl rfl (R_assign rfl) ?_; refine HL_nil ?_; refine HQ_then ?_; refine hK13 _ _ _ _ ?_; clear hK13 K13; refine HC_cond rfl (fun h14 => ?_) (fun h14 => ?_)
        · try exact Bool.noConfusion h14
          try simp only [Z1, Z2, Z3, Z4, Z5, Z6, Z7, Z8, Z9, Z10, Z11, Z12, Z13] at h14
          refine HC_seq fun K15 hK15 => ?_; refine HC_region ?_
          refine HL_r rfl rfl rfl rfl (R_fieldAddr rfl rfl (by first | (simp only [Nat.zero_add, Nat.reduceAdd, Nat.reduceMul, Nat.zero_mul, Nat.mul_one, Nat.add_zero]; exact rfl) | exact rfl)) ?_; refine HL_r rfl rfl rfl rfl (R_load rfl (known_L (k := 0) rfl) rfl rfl) ?_; refine HL_callP rfl rfl rfl (enters_of Tryz.func95 (by kernel_rfl) rfl) (P_rpacked u64_0 hr.scalar) ?_; refine HL_r rfl rfl rfl rfl (R_assign rfl) ?_; refine HL_nil ?_; refine HQ_then ?_; refine hK15 _ _ _ _ ?_; clear hK15 K15; refine HC_ret ?_; refine HQ_blockR ?_; refine HQ_thenR ?_; clear hK2 K2; refine HQ_post rfl rfl (.cons (res_tmp rfl) .nil) (fun w1 hs1 => ?_); refine ⟨?_, hs1.keep⟩
          (obtain rfl : i = 3 := by omega
           rfl)
        · try exact Bool.noConfusion h14
          try simp only [Z1, Z2, Z3, Z4, Z5, Z6, Z7, Z8, Z9, Z10, Z11, Z12, Z13] at h14
          refine HC_seq fun K16 hK16 => ?_; refine HC_region ?_; refine HL_r rfl rfl rfl rfl (R_pure rfl rfl rfl) ?_; refine HL_r rfl rfl rfl rfl (R_assign rfl) ?_; refine HL_nil ?_; refine HQ_then ?_; refine hK16 _ _ _ _ ?_; clear hK16 K16; refine HC_cond rfl (fun h17 => ?_) (fun h17 => ?_)
          · try exact Bool.noConfusion h17
            try simp only [Z1, Z2, Z3, Z4, Z5, Z6, Z7, Z8, Z9, Z10, Z11, Z12, Z13] at h17
            refine HC_seq fun K18 hK18 => ?_; refine HC_region ?_
            refine HL_r rfl rfl rfl rfl (R_fieldAddr rfl rfl (by first | (simp only [Nat.zero_add, Nat.reduceAdd, Nat.reduceMul, Nat.zero_mul, Nat.mul_one, Nat.add_zero]; exact rfl) | exact rfl)) ?_; refine HL_r rfl rfl rfl rfl (R_load rfl (known_L (k := 0) rfl) rfl rfl) ?_
            refine HL_r rfl rfl rfl rfl (R_fieldAddr rfl rfl (by first | (simp only [Nat.zero_add, Nat.reduceAdd, Nat.reduceMul, Nat.zero_mul, Nat.mul_one, Nat.add_zero]; exact rfl) | exact rfl)) ?_; refine HL_r rfl rfl rfl rfl (R_load rfl (known_L (k := 0) rfl) rfl rfl) ?_; refine HL_callP rfl rfl rfl (enters_of Tryz.func95 (by kernel_rfl) rfl) (P_rpacked hr.extra hr.scalar) ?_; refine HL_r rfl rfl rfl rfl (R_assign rfl) ?_; refine HL_nil ?_; refine HQ_then ?_; refine hK18 _ _ _ _ ?_; clear hK18 K18; refine HC_ret ?_; refine HQ_blockR ?_; refine HQ_thenR ?_; clear hK2 K2; refine HQ_post rfl rfl (.cons (res_tmp rfl) .nil) (fun w1 hs1 => ?_); refine ⟨?_, hs1.keep⟩
            (obtain rfl : i = 4 := by omega
             rfl)
          · try exact Bool.noConfusion h17
            try simp only [Z1, Z2, Z3, Z4, Z5, Z6, Z7, Z8, Z9, Z10, Z11, Z12, Z13] at h17
            refine HC_seq fun K19 hK19 => ?_; refine HC_region ?_; refine HL_r rfl rfl rfl rfl (R_pure rfl rfl rfl) ?_; refine HL_r rfl rfl rfl rfl (R_assign rfl) ?_; refine HL_nil ?_; refine HQ_then ?_; refine hK19 _ _ _ _ ?_; clear hK19 K19; refine HC_cond rfl (fun h20 => ?_) (fun h20 => ?_)
            · try exact Bool.noConfusion h20
              try simp only [Z1, Z2, Z3, Z4, Z5, Z6, Z7, Z8, Z9, Z10, Z11, Z12, Z13] at h20
              refine HC_seq fun K21 hK21 => ?_; refine HC_region ?_
              refine HL_r rfl rfl rfl rfl (R_fieldAddr rfl rfl (by first | (simp only [Nat.zero_add, Nat.reduceAdd, Nat.reduceMul, Nat.zero_mul, Nat.mul_one, Nat.add_zero]; exact rfl) | exact rfl)) ?_; refine HL_r rfl rfl rfl rfl (R_loadA (vs := [_, _, _, _]) rfl (known_L (k := 0) rfl) rfl rfl rfl rfl) ?_; refine HL_callP rfl rfl rfl (enters_of Tryz.func96 (by kernel_rfl) rfl) (P_ref_Fixed hr.blob.wok) ?_; refine HL_r rfl rfl rfl rfl (R_assign rfl) ?_; refine HL_nil ?_; refine HQ_then ?_; refine hK21 _ _ _ _ ?_; clear hK21 K21; refine HC_ret ?_; refine HQ_blockR ?_; refine HQ_thenR ?_; clear hK2 K2; refine HQ_post rfl rfl (.cons (res_tmp rfl) .nil) (fun w1 hs1 => ?_); refine ⟨?_, hs1.keep⟩
              (obtain rfl : i = 5 := by omega
               rfl)
            · try exact Bool.noConfusion h20
              try simp only [Z1, Z2, Z3, Z4, Z5, Z6, Z7, Z8, Z9, Z10, Z11, Z12, Z13] at h20
              refine HC_skip ?_; refine HQ_blockN ?_; refine HQ_then ?_; refine hK2 _ _ _ _ ?_; clear hK2 K2; refine HC_seq fun K22 hK22 => ?_; refine HC_region ?_
              refine HL_r rfl rfl rfl rfl (R_fieldAddr rfl rfl (by first | (simp only [Nat.zero_add, Nat.reduceAdd, Nat.reduceMul, Nat.zero_mul, Nat.mul_one, Nat.add_zero]; exact rfl) | exact rfl)) ?_; refine HL_r rfl rfl rfl rfl (R_load rfl (known_L (k := 0) rfl) rfl rfl) ?_; refine HL_callP rfl rfl rfl (enters_of Tryz.func95 (by kernel_rfl) rfl) (P_rpacked u64_0 hr.operator) ?_; refine HL_r rfl rfl rfl rfl (R_assign rfl) ?_; refine HL_nil ?_; refine HQ_then ?_; refine hK22 _ _ _ _ ?_; clear hK22 K22; refine HC_ret ?_; refine HQ_post rfl rfl (.cons (res_tmp rfl) .nil) (fun w1 hs1 => ?_); refine ⟨?_, hs1.keep⟩
              (obtain rfl : i = 6 := by omega
               rfl)
/-- Eight bytes that are a number. -/
structure Num8 (s : BS) (x : Nat) : Prop where
  len : s.length = 8
  u : U64 x
  at_ : ∀ i, i < 8 → (s.getD i 0).toNat = x / 256 ^ (7 - i) % 256
end Go.Proofs.YtnkmbkndpoghdaaGreat
namespace Go.Proofs.YtnkmbkndpoghdaaGreat
set_option linter.all false
open Go.SL Go.RowKit Go.Shelf
theorem keys_nth {j : Nat} (h : j < 7) : nth keysC.toArray.toList j = some (uV (keyN j)) := by
  have : j = 0 ∨ j = 1 ∨ j = 2 ∨ j = 3 ∨ j = 4 ∨ j = 5 ∨ j = 6 := by omega
  rcases this with rfl | rfl | rfl | rfl | rfl | rfl | rfl <;> rfl
end Go.Proofs.YtnkmbkndpoghdaaGreat
namespace Go.Proofs.YtnkmbkndpoghdaaGreat
set_option linter.all false
open Go.SL Go.RowKit Go.Shelf
set_option maxHeartbeats 1000000 in
set_option maxRecDepth 10000 in
theorem S_rcoded {R : List (Nat × Obj)} {f : Int} {i : Nat} (hi2 : i < 2) {a : AcL} (ha : a.In R) {r : Rec} (hr : r.ok) : PureT (α := AcRes R (codedE f i (AcL.er { a with addr := addrE i }) r)) Tryz.prog 55 [.int .i64 f, .int .i64 (i : Int), a.val, r.val].toArray (fun x => x.val) [] (fun x => x.L) R := by
  obtain ⟨b0, hb0⟩ : ∃ b : AcL, b = { a with addr := addrE i, code := (codeE f i).1 } := ⟨_, rfl⟩
  have hcl : (codeE f i).1.length ≤ 512 := by
    unfold codeE
    (repeat' split) <;> decide
  have hb : b0.In R := hb0 ▸ code_in (addr_in ha (addr_len i)) hcl
  obtain ⟨rows, hrows⟩ : ∃ rows, rows = rowsW f r := ⟨_, rfl⟩
  have hdr : ∀ j, j < 7 → rows.drop j = (keyE (keyN j), (rowW f r j).2) :: rows.drop (j + 1) := fun j hj => by rw [hrows, ← rows_w]; exact map_drop _ hj
  have hd7 : rows.drop 7 = [] := by rw [hrows]; rfl
  have hcd : codedE f i (AcL.er { a with addr := addrE i }) r = if (i : Int) = 1 then (b0.er, 0) else setRows b0.er rows := by
    subst hb0 hrows
    unfold codedE
    by_cases h1 : (i : Int) = 1
    · rw [if_pos h1, if_pos h1]
      rw [show i = 1 by omega]; rfl
    · rw [if_neg h1, if_neg h1]; rfl
  rw [hcd]; clear hrows hcd; refine pureT_of_HC Tryz.func55 rfl rfl fun w => ?_; refine HC_seq fun K1 hK1 => ?_; refine HC_region ?_; refine HL_box (cs := a.cells.toArray) rfl rfl rfl rfl fun ra => ?_; refine HL_box (cs := r.cells.toArray) rfl rfl rfl rfl fun rr => ?_; refine HL_alloc (cs := #[_, _, _, _, _, _, _, _]) rfl rfl rfl rfl fun r1 => ?_; refine HL_r rfl rfl rfl rfl (R_assign rfl) ?_; refine HL_nil ?_; refine HQ_then ?_; refine hK1 _ _ _ _ ?_; clear hK1 K1; refine HC_seq fun K2 hK2 => ?_; refine HC_region ?_; refine HL_r rfl rfl rfl rfl (R_move rfl) ?_; refine HL_r rfl rfl rfl rfl (R_move rfl) ?_; refine HL_callP rfl rfl rfl (enters_of Tryz.func53 (by kernel_rfl) rfl) (P_rcode f i) ?_; refine HL_r rfl rfl rfl rfl (R_move rfl) ?_; refine HL_r rfl rfl rfl rfl (R_extract rfl rfl) ?_; refine HL_r rfl rfl rfl rfl (R_extract rfl rfl) ?_; refine HL_r rfl rfl rfl rfl (R_assign rfl) ?_; refine HL_r rfl rfl rfl rfl (R_assign rfl) ?_; refine HL_nil ?_; refine HQ_then ?_; refine hK2 _ _ _ _ ?_; clear hK2 K2; refine HC_seq fun K3 hK3 => ?_; refine HC_region ?_; refine HL_r rfl rfl rfl rfl (R_move rfl) ?_; refine HL_callP rfl rfl rfl (enters_of Tryz.func21 (by kernel_rfl) rfl) (P_rAddr i) ?_
  refine HL_r rfl rfl rfl rfl (R_fieldAddr rfl rfl (by first | (simp only [Nat.zero_add, Nat.reduceAdd, Nat.reduceMul, Nat.zero_mul, Nat.mul_one, Nat.add_zero]; exact rfl) | exact rfl)) ?_; refine HL_store (k := 2) (cs' := (AcL.cells { a with addr := addrE i }).toArray) rfl rfl rfl rfl rfl rfl rfl rfl rfl rfl ?_; refine HL_nil ?_; refine HQ_then ?_; refine hK3 _ _ _ _ ?_; clear hK3 K3; refine HC_seq fun K4 hK4 => ?_; refine HC_region ?_; refine HL_r rfl rfl rfl rfl (R_move rfl) ?_
  refine HL_r rfl rfl rfl rfl (R_fieldAddr rfl rfl (by first | (simp only [Nat.zero_add, Nat.reduceAdd, Nat.reduceMul, Nat.zero_mul, Nat.mul_one, Nat.add_zero]; exact rfl) | exact rfl)) ?_; refine HL_store (k := 2) (cs' := b0.cells.toArray) rfl rfl rfl rfl rfl rfl rfl rfl (by rw [hb0]; rfl) rfl ?_; refine HL_nil ?_; refine HQ_then ?_; refine hK4 _ _ _ _ ?_; clear hK4 K4; refine HC_seq fun K5 hK5 => ?_; refine HC_seq fun K6 hK6 => ?_; refine HC_region ?_; refine HL_r rfl rfl rfl rfl (R_move rfl) ?_; refine HL_r rfl rfl rfl rfl (R_pure rfl rfl rfl) ?_; refine HL_nil ?_; refine HQ_then ?_; refine hK6 _ _ _ _ ?_; clear hK6 K6; refine HC_cond rfl (fun h7 => ?_) (fun h7 => ?_)
  · try exact Bool.noConfusion h7
    try simp only [Z1, Z2, Z3, Z4, Z5, Z6, Z7, Z8, Z9, Z10, Z11, Z12, Z13] at h7
    refine HC_seq fun K8 hK8 => ?_; refine HC_region ?_; refine HL_r rfl rfl rfl rfl (R_loadArr (xs := b0.cells) (n := 8) rfl (known_L (k := 2) rfl) rfl rfl rfl) ?_; refine HL_storeArr (k := 0) (n := 8) (ys := (b0).cells) rfl rfl rfl rfl rfl rfl rfl rfl rfl ?_; refine HL_r rfl rfl rfl rfl (R_assign rfl) ?_; refine HL_nil ?_; refine HQ_then ?_; refine hK8 _ _ _ _ ?_; clear hK8 K8; refine HC_ret ?_; refine HQ_thenR ?_; clear hK5 K5; refine HQ_post rfl rfl (.cons (res_cellA (vs := [_, _, _, _, _, _, _, _]) rfl (known_L (k := 0) rfl) rfl rfl) (.cons (res_tmp rfl) .nil)) (fun w1 hs1 => ?_)
    (rw [if_pos (by omega)]
     exact ⟨⟨b0, 0, [], hb, rfl⟩, rfl, hs1.weakL (List.nil_sublist _)⟩)
  · try exact Bool.noConfusion h7
    try simp only [Z1, Z2, Z3, Z4, Z5, Z6, Z7, Z8, Z9, Z10, Z11, Z12, Z13] at h7
    refine HC_skip ?_; refine HQ_then ?_; refine hK5 _ _ _ _ ?_; clear hK5 K5; refine HC_seq fun K9 hK9 => ?_; refine HC_region ?_; refine HL_callPE rfl rfl rfl (enters_of Tryz.func60 (by kernel_rfl) rfl) E_rkeys fun rk => ?_; refine HL_r rfl rfl rfl rfl (R_assign rfl) ?_; refine HL_nil ?_; refine HQ_then ?_; refine hK9 _ _ _ _ ?_; clear hK9 K9; refine HC_seq fun K10 hK10 => ?_; refine HC_seq fun K11 hK11 => ?_; refine HC_region ?_; refine HL_r rfl rfl rfl rfl (R_assign rfl) ?_; refine HL_nil ?_; refine HQ_then ?_; refine hK11 _ _ _ _ ?_; clear hK11 K11; refine HC_block ?_; refine HC_sel [3, 2, 1, 0] (L' := [_, _, _, _]) (by decide) rfl ?_; refine HC_loop (σ := Nat × AcSt R) (fun q => q.1 ≤ 7 ∧ setRows b0.er rows = setRows q.2.a.er (rows.drop q.1)) (fun q => [(0, .int .i64 f), (6, ptV ra 0), (7, ptV rr 0), (8, ptV r1 0), (9, .int .i64 0), (12, .slice (some ⟨rk, 0, none⟩) 7 7), (13, .int .i64 (q.1 : Int))]) (fun q => (ra, .cells q.2.a.cells.toArray 55 (0, 0)) :: (rr, .cells r.cells.toArray 29 (0, 0)) :: (r1, .cells ac0L.cells.toArray 55 (0, 0)) :: (rk, .cells keysC.toArray 25 (0, 0)) :: q.2.L) (fun _ _ _ => True) (fun q => 7 - q.1) (0, ⟨b0, [], hb⟩) ⟨Nat.zero_le _, rfl⟩ (.cons rfl (.cons rfl (.cons rfl (.cons rfl (.cons rfl (.cons rfl (.cons rfl .nil))))))) (List.Sublist.refl _) (fun _ _ h => h) ?_; rintro ⟨j, s⟩ ⟨hj7, hinv⟩; simp only at hj7 hinv; change HC _ _ [(0, _), (6, _), (7, _), (8, _), (9, _), (12, _), (13, .int .i64 (j : Int))] ((ra, .cells s.a.cells.toArray _ (0, 0)) :: (rr, _) :: (r1, _) :: (rk, _) :: s.L) _ _ _; refine HC_seq fun K12 hK12 => ?_; refine HC_seq fun K13 hK13 => ?_; refine HC_region ?_; refine HL_r rfl rfl rfl rfl (R_move rfl) ?_; refine HL_r rfl rfl rfl rfl (R_move rfl) ?_; refine HL_r rfl rfl rfl rfl (R_lenSl rfl rfl) ?_; refine HL_r rfl rfl rfl rfl (R_pure rfl rfl rfl) ?_; refine HL_nil ?_; refine HQ_then ?_; refine hK13 _ _ _ _ ?_; clear hK13 K13; refine HC_cond rfl (fun h14 => ?_) (fun h14 => ?_)
    · try exact Bool.noConfusion h14
      try simp only [Z1, Z2, Z3, Z4, Z5, Z6, Z7, Z8, Z9, Z10, Z11, Z12, Z13] at h14
      refine HC_skip ?_; refine HQ_then ?_; refine hK12 _ _ _ _ ?_; clear hK12 K12; refine HC_seq fun K15 hK15 => ?_; refine HC_block ?_; refine HC_seq fun K16 hK16 => ?_
      have hj : j < 7 := by omega
      rw [hdr j hj, setRows_cons] at hinv; refine HC_region ?_; refine HL_callP rfl rfl rfl (enters_of Tryz.func61 (by kernel_rfl) rfl) P_rNone ?_; refine HL_r rfl rfl rfl rfl (R_assign rfl) ?_; refine HL_nil ?_; refine HQ_then ?_; refine hK16 _ _ _ _ ?_; clear hK16 K16; refine HC_seq fun K17 hK17 => ?_; refine HC_region ?_; refine HL_r rfl rfl rfl rfl (R_move rfl) ?_; refine HL_r rfl rfl rfl rfl (R_move rfl) ?_; refine HL_callP rfl rfl rfl (enters_of Tryz.func62 (by kernel_rfl) rfl) (P_rhas f hj) ?_; refine HL_r rfl rfl rfl rfl (R_assign rfl) ?_; refine HL_nil ?_; refine HQ_then ?_; refine hK17 _ _ _ _ ?_; clear hK17 K17; refine HC_seq fun K18 hK18 => ?_; refine HC_seq fun K19 hK19 => ?_; refine HC_region ?_; refine HL_r rfl rfl rfl rfl (R_move rfl) ?_; refine HL_nil ?_; refine HQ_then ?_; refine hK19 _ _ _ _ ?_; clear hK19 K19; refine HC_cond rfl (fun h20 => ?_) (fun h20 => ?_)
      · try exact Bool.noConfusion h20
        try simp only [Z1, Z2, Z3, Z4, Z5, Z6, Z7, Z8, Z9, Z10, Z11, Z12, Z13] at h20
        refine HC_region ?_; refine HL_r rfl rfl rfl rfl (R_move rfl) ?_; refine HL_r rfl rfl rfl rfl (R_loadArr (xs := r.cells) (n := 17) rfl (known_L (k := 1) rfl) rfl rfl rfl) ?_; refine HL_callP rfl rfl rfl (enters_of Tryz.func63 (by kernel_rfl) rfl) (P_rholds hr hj) ?_; refine HL_as (congrArg strV (row_yes (f := f) (by assumption))) ?_; refine HL_r rfl rfl rfl rfl (R_assign rfl) ?_; refine HL_nil ?_; refine HQ_then ?_; refine hK18 _ _ _ _ ?_; clear hK18 K18; refine HC_seq fun K21 hK21 => ?_
        first | rw [row_no (f := f) (r := r) (i := j) (by assumption)] | skip
        refine HC_drawB s.L [(1, .pure), (2, .pure), (3, .pure), (5, .pure), (6, .pure), (7, .grow (geCall (Classical.choice (acRes_ne s.ok (keyE (keyN j)) (rowW f r j).2)) AcRes.val AcRes.L)), (8, .pure), (9, .pure), (10, .pure), (11, .grow (geNew ptrV (.cells #[.string ⟨#[]⟩, .int .u64 0, .int .u64 0, .int .u64 0, .int .u64 0, .int .u64 0, .string ⟨#[]⟩, .slice none 0 0] 55 (0, 0)))), (12, .turn), (13, .pure)] 14 [0, 1, 2, 3, 4, 5, 6, 7, 8, 9, 10, 11, 12, 13] (by kernel_rfl) (by kernel_rfl) (fun p hp => List.mem_cons_of_mem _ (List.mem_cons_of_mem _ (List.mem_cons_of_mem _ (List.mem_cons_of_mem _ hp)))) ?_; refine HB_r (k := 0) rfl rfl rfl rfl rfl (R_loadArr (xs := s.a.cells) (n := 8) rfl (known_L (k := 0) rfl) rfl rfl rfl) ?_; refine HB_p (k := 1) rfl rfl rfl rfl rfl (fun _ hS => (R_move rfl)) ?_; refine HB_p (k := 2) rfl rfl rfl rfl rfl (fun _ hS => (R_move rfl)) ?_; refine HB_p (k := 3) rfl rfl rfl rfl rfl (fun _ _ => R_indexS (j := j) (m := 1) (off' := j) rfl rfl rfl rfl rfl (by omega) (by omega)) ?_; refine HB_r (k := 4) rfl rfl rfl rfl rfl (R_load rfl (known_L (k := 3) rfl) rfl (keys_nth hj)) ?_; refine HB_callP (k := 5) rfl rfl rfl rfl rfl (enters_of Tryz.func66 (by kernel_rfl) rfl) (P_rKey (keyN_u j)) ?_; refine HB_p (k := 6) rfl rfl rfl rfl rfl (fun _ hS => (R_move rfl)) ?_; refine HB_callRE (k := 7) rfl rfl rfl rfl rfl (enters_of Tryz.func70 (by kernel_rfl) rfl) (S_rSet s.ok (keyE (keyN j)) (rowW f r j).2) (fun q hq => List.mem_append.1 hq) fun x => ?_; refine HB_p (k := 8) rfl rfl rfl rfl rfl (fun _ hS => (R_move rfl)) ?_; refine HB_p (k := 9) rfl rfl rfl rfl rfl (fun _ hS => (R_extract rfl rfl)) ?_; refine HB_p (k := 10) rfl rfl rfl rfl rfl (fun _ hS => (R_extract rfl rfl)) ?_; refine HB_alloc (k := 11) (cs := #[_, _, _, _, _, _, _, _]) rfl rfl rfl rfl rfl rfl fun r2 => ?_; refine HB_storeArr (k := 12) (q := 0) (n := 8) (ys := x.a.cells) rfl rfl rfl rfl rfl rfl rfl rfl rfl rfl rfl (fun p hp => List.mem_cons_of_mem _ (List.mem_append_right _ (List.mem_cons_of_mem _ (List.mem_cons_of_mem _ (List.mem_cons_of_mem _ (List.mem_cons_of_mem _ hp)))))) ?_; refine HB_p (k := 13) rfl rfl rfl rfl rfl (fun _ hS => (R_assign rfl)) ?_; refine HB_end ?_; refine HL_nil ?_; refine HQ_then ?_; refine hK21 _ _ _ _ ?_; clear hK21 K21; refine HC_seq fun K22 hK22 => ?_; refine HC_seq fun K23 hK23 => ?_; refine HC_perm (List.Perm.cons _ (perm_mid x.L [_, _, _, _] s.L)) ?_; change HC _ _ _ ((_, .cells x.a.cells.toArray _ _) :: (ra, .cells s.a.cells.toArray _ _) :: (rr, _) :: (r1, _) :: (rk, _) :: (x.L ++ s.L)) _ _ _
        have hx := x.eq
        have hxe : (setE s.a.er (keyE (keyN j)) (rowW f r j).2).2 = x.err := (congrArg Prod.snd hx).symm
        have hxa : (setE s.a.er (keyE (keyN j)) (rowW f r j).2).1 = x.a.er := (congrArg Prod.fst hx).symm
        refine HC_region ?_; refine HL_r rfl rfl rfl rfl (R_move rfl) ?_; refine HL_r rfl rfl rfl rfl (R_pure rfl rfl rfl) ?_; refine HL_nil ?_; refine HQ_then ?_; refine hK23 _ _ _ _ ?_; clear hK23 K23; refine HC_cond rfl (fun h24 => ?_) (fun h24 => ?_)
        · try exact Bool.noConfusion h24
          try simp only [Z1, Z2, Z3, Z4, Z5, Z6, Z7, Z8, Z9, Z10, Z11, Z12, Z13] at h24
          refine HC_seq fun K25 hK25 => ?_; refine HC_region ?_; refine HL_r rfl rfl rfl rfl (R_loadArr (xs := s.a.cells) (n := 8) rfl (known_L (k := 1) rfl) rfl rfl rfl) ?_; refine HL_r rfl rfl rfl rfl (R_move rfl) ?_; refine HL_storeArr (k := 3) (n := 8) (ys := (s.a).cells) rfl rfl rfl rfl rfl rfl rfl rfl rfl ?_; refine HL_r rfl rfl rfl rfl (R_assign rfl) ?_; refine HL_nil ?_; refine HQ_then ?_; refine hK25 _ _ _ _ ?_; clear hK25 K25; refine HC_ret ?_; refine HQ_thenR ?_; clear hK22 K22; refine HQ_blockR ?_; refine HQ_thenR ?_; clear hK15 K15; refine HQ_thenR ?_; refine HQ_blockR ?_; refine HQ_thenR ?_; clear hK10 K10; refine HQ_post rfl rfl (.cons (res_cellA (vs := [_, _, _, _, _, _, _, _]) rfl (known_L (k := 3) rfl) rfl rfl) (.cons (res_tmp rfl) .nil)) (fun w1 hs1 => ?_)
          (have he : setRows b0.er rows = (s.a.er, x.err) := by
             rw [hinv, if_pos (by rw [hxe]; assumption)]; exact (set_same (by rw [hxe]; assumption)).trans (congrArg (Prod.mk s.a.er) hxe)
           rw [if_neg (by omega), he]
           exact ⟨⟨s.a, x.err, s.L, s.ok, rfl⟩, rfl, hs1.weakL (.cons _ (.cons _ (.cons _ (.cons _ (.cons _ (List.sublist_append_right _ _))))))⟩)
        · try exact Bool.noConfusion h24
          try simp only [Z1, Z2, Z3, Z4, Z5, Z6, Z7, Z8, Z9, Z10, Z11, Z12, Z13] at h24
          refine HC_skip ?_; refine HQ_then ?_; refine hK22 _ _ _ _ ?_; clear hK22 K22; refine HC_region ?_; refine HL_r rfl rfl rfl rfl (R_loadArr (xs := x.a.cells) (n := 8) rfl (known_L (k := 0) rfl) rfl rfl rfl) ?_; refine HL_storeArr (k := 1) (n := 8) (ys := (x.a).cells) rfl rfl rfl rfl rfl rfl rfl rfl rfl ?_; refine HL_nil ?_; refine HQ_blockN ?_; refine HQ_then ?_; refine hK15 _ _ _ _ ?_; clear hK15 K15; refine HC_region ?_; refine HL_r rfl rfl rfl rfl (R_move rfl) ?_; refine HL_r rfl rfl rfl rfl (R_pure rfl rfl rfl) ?_; refine HL_wrap_i64 (by omega) (by omega) ?_; refine HL_r rfl rfl rfl rfl (R_assign rfl) ?_; refine HL_nil ?_; refine HQ_then ?_; exact HQ_again (j + 1, s.next x) ⟨by simp only; omega, by rw [hinv, if_neg (by rw [hxe]; omega), hxa]; rfl⟩ (by simp only; omega) (.cons rfl (.cons rfl (.cons rfl (.cons rfl (.cons rfl (.cons rfl (.cons rfl .nil))))))) (List.sublist_cons_self _ _) (fun _ _ h => h)
      · try exact Bool.noConfusion h20
        try simp only [Z1, Z2, Z3, Z4, Z5, Z6, Z7, Z8, Z9, Z10, Z11, Z12, Z13] at h20
        refine HC_skip ?_; refine HQ_then ?_; refine hK18 _ _ _ _ ?_; clear hK18 K18; refine HC_seq fun K26 hK26 => ?_
        first | rw [row_no (f := f) (r := r) (i := j) (by assumption)] | skip
        refine HC_drawB s.L [(1, .pure), (2, .pure), (3, .pure), (5, .pure), (6, .pure), (7, .grow (geCall (Classical.choice (acRes_ne s.ok (keyE (keyN j)) (rowW f r j).2)) AcRes.val AcRes.L)), (8, .pure), (9, .pure), (10, .pure), (11, .grow (geNew ptrV (.cells #[.string ⟨#[]⟩, .int .u64 0, .int .u64 0, .int .u64 0, .int .u64 0, .int .u64 0, .string ⟨#[]⟩, .slice none 0 0] 55 (0, 0)))), (12, .turn), (13, .pure)] 14 [0, 1, 2, 3, 4, 5, 6, 7, 8, 9, 10, 11, 12, 13] (by kernel_rfl) (by kernel_rfl) (fun p hp => List.mem_cons_of_mem _ (List.mem_cons_of_mem _ (List.mem_cons_of_mem _ (List.mem_cons_of_mem _ hp)))) ?_; refine HB_r (k := 0) rfl rfl rfl rfl rfl (R_loadArr (xs := s.a.cells) (n := 8) rfl (known_L (k := 0) rfl) rfl rfl rfl) ?_; refine HB_p (k := 1) rfl rfl rfl rfl rfl (fun _ hS => (R_move rfl)) ?_; refine HB_p (k := 2) rfl rfl rfl rfl rfl (fun _ hS => (R_move rfl)) ?_; refine HB_p (k := 3) rfl rfl rfl rfl rfl (fun _ _ => R_indexS (j := j) (m := 1) (off' := j) rfl rfl rfl rfl rfl (by omega) (by omega)) ?_; refine HB_r (k := 4) rfl rfl rfl rfl rfl (R_load rfl (known_L (k := 3) rfl) rfl (keys_nth hj)) ?_; refine HB_callP (k := 5) rfl rfl rfl rfl rfl (enters_of Tryz.func66 (by kernel_rfl) rfl) (P_rKey (keyN_u j)) ?_; refine HB_p (k := 6) rfl rfl rfl rfl rfl (fun _ hS => (R_move rfl)) ?_; refine HB_callRE (k := 7) rfl rfl rfl rfl rfl (enters_of Tryz.func70 (by kernel_rfl) rfl) (S_rSet s.ok (keyE (keyN j)) (rowW f r j).2) (fun q hq => List.mem_append.1 hq) fun x => ?_; refine HB_p (k := 8) rfl rfl rfl rfl rfl (fun _ hS => (R_move rfl)) ?_; refine HB_p (k := 9) rfl rfl rfl rfl rfl (fun _ hS => (R_extract rfl rfl)) ?_; refine HB_p (k := 10) rfl rfl rfl rfl rfl (fun _ hS => (R_extract rfl rfl)) ?_; refine HB_alloc (k := 11) (cs := #[_, _, _, _, _, _, _, _]) rfl rfl rfl rfl rfl rfl fun r3 => ?_; refine HB_storeArr (k := 12) (q := 0) (n := 8) (ys := x.a.cells) rfl rfl rfl rfl rfl rfl rfl rfl rfl rfl rfl (fun p hp => List.mem_cons_of_mem _ (List.mem_append_right _ (List.mem_cons_of_mem _ (List.mem_cons_of_mem _ (List.mem_cons_of_mem _ (List.mem_cons_of_mem _ hp)))))) ?_; refine HB_p (k := 13) rfl rfl rfl rfl rfl (fun _ hS => (R_assign rfl)) ?_; refine HB_end ?_; refine HL_nil ?_; refine HQ_then ?_; refine hK26 _ _ _ _ ?_; clear hK26 K26; refine HC_seq fun K27 hK27 => ?_; refine HC_seq fun K28 hK28 => ?_; refine HC_perm (List.Perm.cons _ (perm_mid x.L [_, _, _, _] s.L)) ?_; change HC _ _ _ ((_, .cells x.a.cells.toArray _ _) :: (ra, .cells s.a.cells.toArray _ _) :: (rr, _) :: (r1, _) :: (rk, _) :: (x.L ++ s.L)) _ _ _
        have hx := x.eq
        have hxe : (setE s.a.er (keyE (keyN j)) (rowW f r j).2).2 = x.err := (congrArg Prod.snd hx).symm
        have hxa : (setE s.a.er (keyE (keyN j)) (rowW f r j).2).1 = x.a.er := (congrArg Prod.fst hx).symm
        refine HC_region ?_; refine HL_r rfl rfl rfl rfl (R_move rfl) ?_; refine HL_r rfl rfl rfl rfl (R_pure rfl rfl rfl) ?_; refine HL_nil ?_; refine HQ_then ?_; refine hK28 _ _ _ _ ?_; clear hK28 K28; refine HC_cond rfl (fun h29 => ?_) (fun h29 => ?_)
        · try exact Bool.noConfusion h29
          try simp only [Z1, Z2, Z3, Z4, Z5, Z6, Z7, Z8, Z9, Z10, Z11, Z12, Z13] at h29
          refine HC_seq fun K30 hK30 => ?_; refine HC_region ?_; refine HL_r rfl rfl rfl rfl (R_loadArr (xs := s.a.cells) (n := 8) rfl (known_L (k := 1) rfl) rfl rfl rfl) ?_; refine HL_r rfl rfl rfl rfl (R_move rfl) ?_; refine HL_storeArr (k := 3) (n := 8) (ys := (s.a).cells) rfl rfl rfl rfl rfl rfl rfl rfl rfl ?_; refine HL_r rfl rfl rfl rfl (R_assign rfl) ?_; refine HL_nil ?_; refine HQ_then ?_; refine hK30 _ _ _ _ ?_; clear hK30 K30; refine HC_ret ?_; refine HQ_thenR ?_; clear hK27 K27; refine HQ_blockR ?_; refine HQ_thenR ?_; clear hK15 K15; refine HQ_thenR ?_; refine HQ_blockR ?_; refine HQ_thenR ?_; clear hK10 K10; refine HQ_post rfl rfl (.cons (res_cellA (vs := [_, _, _, _, _, _, _, _]) rfl (known_L (k := 3) rfl) rfl rfl) (.cons (res_tmp rfl) .nil)) (fun w1 hs1 => ?_)
          (have he : setRows b0.er rows = (s.a.er, x.err) := by
             rw [hinv, if_pos (by rw [hxe]; assumption)]; exact (set_same (by rw [hxe]; assumption)).trans (congrArg (Prod.mk s.a.er) hxe)
           rw [if_neg (by omega), he]
           exact ⟨⟨s.a, x.err, s.L, s.ok, rfl⟩, rfl, hs1.weakL (.cons _ (.cons _ (.cons _ (.cons _ (.cons _ (List.sublist_append_right _ _))))))⟩)
        · try exact Bool.noConfusion h29
          try simp only [Z1, Z2, Z3, Z4, Z5, Z6, Z7, Z8, Z9, Z10, Z11, Z12, Z13] at h29
          refine HC_skip ?_; refine HQ_then ?_; refine hK27 _ _ _ _ ?_; clear hK27 K27; refine HC_region ?_; refine HL_r rfl rfl rfl rfl (R_loadArr (xs := x.a.cells) (n := 8) rfl (known_L (k := 0) rfl) rfl rfl rfl) ?_; refine HL_storeArr (k := 1) (n := 8) (ys := (x.a).cells) rfl rfl rfl rfl rfl rfl rfl rfl rfl ?_; refine HL_nil ?_; refine HQ_blockN ?_; refine HQ_then ?_; refine hK15 _ _ _ _ ?_; clear hK15 K15; refine HC_region ?_; refine HL_r rfl rfl rfl rfl (R_move rfl) ?_; refine HL_r rfl rfl rfl rfl (R_pure rfl rfl rfl) ?_; refine HL_wrap_i64 (by omega) (by omega) ?_; refine HL_r rfl rfl rfl rfl (R_assign rfl) ?_; refine HL_nil ?_; refine HQ_then ?_; exact HQ_again (j + 1, s.next x) ⟨by simp only; omega, by rw [hinv, if_neg (by rw [hxe]; omega), hxa]; rfl⟩ (by simp only; omega) (.cons rfl (.cons rfl (.cons rfl (.cons rfl (.cons rfl (.cons rfl (.cons rfl .nil))))))) (List.sublist_cons_self _ _) (fun _ _ h => h)
    · try exact Bool.noConfusion h14
      try simp only [Z1, Z2, Z3, Z4, Z5, Z6, Z7, Z8, Z9, Z10, Z11, Z12, Z13] at h14
      refine HC_exit ?_; refine HQ_thenE ?_; clear hK12 K12; refine HQ_thenE ?_; refine HQ_blockE ?_; refine HQ_then ?_; refine hK10 _ _ _ _ ?_; clear hK10 K10; refine HC_seq fun K31 hK31 => ?_; refine HC_region ?_; refine HL_r rfl rfl rfl rfl (R_loadArr (xs := s.a.cells) (n := 8) rfl (known_L (k := 0) rfl) rfl rfl rfl) ?_; refine HL_storeArr (k := 2) (n := 8) (ys := (s.a).cells) rfl rfl rfl rfl rfl rfl rfl rfl rfl ?_; refine HL_r rfl rfl rfl rfl (R_assign rfl) ?_; refine HL_nil ?_; refine HQ_then ?_; refine hK31 _ _ _ _ ?_; clear hK31 K31; refine HC_ret ?_; refine HQ_post rfl rfl (.cons (res_cellA (vs := [_, _, _, _, _, _, _, _]) rfl (known_L (k := 2) rfl) rfl rfl) (.cons (res_tmp rfl) .nil)) (fun w1 hs1 => ?_)
      (obtain rfl : j = 7 := by omega
       rw [if_neg (by omega), hinv, hd7]
       exact ⟨⟨s.a, 0, s.L, s.ok, rfl⟩, rfl, hs1.weakL (.cons _ (.cons _ (.cons _ (.cons _ (List.Sublist.refl _)))))⟩)
set_option maxHeartbeats 1000000 in
set_option maxRecDepth 10000 in
theorem S_rWrite {R : List (Nat × Obj)} (f : Int) {s : StL} (hs : s.In R) {r : Rec} (hr : r.ok) : PureT (α := StRes R (writeE f s.er r)) Tryz.prog 16 [.int .i64 f, s.val, r.val].toArray (fun x => x.val) [] (fun x => x.L) R := by
  have hc := S_rCheck hs
  obtain ⟨res, hres⟩ : ∃ res, res = changeE f s.er fun w a => codedE f w a r := ⟨_, rfl⟩
  have hwr : writeE f s.er r = if fitsE f r ≠ 0 then (s.er, fitsE f r) else if chkS s.er ≠ 0 then (s.er, chkS s.er) else res := by rw [hres]; rfl
  rw [hwr]; refine pureT_of_HC Tryz.func16 rfl rfl fun w => ?_; refine HC_seq fun K1 hK1 => ?_; refine HC_region ?_; refine HL_box (cs := s.cells.toArray) rfl rfl rfl rfl fun rb => ?_; refine HL_box (cs := r.cells.toArray) rfl rfl rfl rfl fun rr => ?_; refine HL_alloc (cs := #[_]) rfl rfl rfl rfl fun r1 => ?_; refine HL_r rfl rfl rfl rfl (R_assign rfl) ?_; refine HL_nil ?_; refine HQ_then ?_; refine hK1 _ _ _ _ ?_; clear hK1 K1; refine HC_seq fun K2 hK2 => ?_; refine HC_region ?_; refine HL_r rfl rfl rfl rfl (R_move rfl) ?_; refine HL_r rfl rfl rfl rfl (R_loadArr (xs := r.cells) (n := 17) rfl (known_L (k := 1) rfl) rfl rfl rfl) ?_; refine HL_callP rfl rfl rfl (enters_of Tryz.func18 (by kernel_rfl) rfl) (P_rFits f r) ?_; refine HL_r rfl rfl rfl rfl (R_assign rfl) ?_; refine HL_nil ?_; refine HQ_then ?_; refine hK2 _ _ _ _ ?_; clear hK2 K2; refine HC_seq fun K3 hK3 => ?_; refine HC_seq fun K4 hK4 => ?_; refine HC_region ?_; refine HL_r rfl rfl rfl rfl (R_move rfl) ?_; refine HL_r rfl rfl rfl rfl (R_pure rfl rfl rfl) ?_; refine HL_nil ?_; refine HQ_then ?_; refine hK4 _ _ _ _ ?_; clear hK4 K4; refine HC_cond rfl (fun h5 => ?_) (fun h5 => ?_)
  · try exact Bool.noConfusion h5
    try simp only [Z1, Z2, Z3, Z4, Z5, Z6, Z7, Z8, Z9, Z10, Z11, Z12, Z13] at h5
    refine HC_seq fun K6 hK6 => ?_; refine HC_region ?_; refine HL_r rfl rfl rfl rfl (R_loadArr (xs := s.cells) (n := 1) rfl (known_L (k := 2) rfl) rfl rfl rfl) ?_; refine HL_r rfl rfl rfl rfl (R_move rfl) ?_; refine HL_storeArr (k := 0) (n := 1) (ys := s.cells) rfl rfl rfl rfl rfl rfl rfl rfl rfl ?_; refine HL_r rfl rfl rfl rfl (R_assign rfl) ?_; refine HL_nil ?_; refine HQ_then ?_; refine hK6 _ _ _ _ ?_; clear hK6 K6; refine HC_ret ?_; refine HQ_thenR ?_; clear hK3 K3; refine HQ_post rfl rfl (.cons (res_cellA (vs := [_]) rfl (known_L (k := 0) rfl) rfl rfl) (.cons (res_tmp rfl) .nil)) (fun w1 hs1 => ?_); rw [if_pos (by omega)]; exact ⟨⟨s, fitsE f r, [], hs, rfl⟩, rfl, hs1.weakL (List.nil_sublist _)⟩
  · try exact Bool.noConfusion h5
    try simp only [Z1, Z2, Z3, Z4, Z5, Z6, Z7, Z8, Z9, Z10, Z11, Z12, Z13] at h5
    refine HC_skip ?_; refine HQ_then ?_; refine hK3 _ _ _ _ ?_; clear hK3 K3; refine HC_seq fun K7 hK7 => ?_; refine HC_region ?_; refine HL_r rfl rfl rfl rfl (R_loadArr (xs := s.cells) (n := 1) rfl (known_L (k := 2) rfl) rfl rfl rfl) ?_; refine HL_callR rfl rfl rfl (enters_of Tryz.func52 (by kernel_rfl) rfl) hc (fun q hq => Or.inr hq) ?_; refine HL_r rfl rfl rfl rfl (R_assign rfl) ?_; refine HL_nil ?_; refine HQ_then ?_; refine hK7 _ _ _ _ ?_; clear hK7 K7; refine HC_seq fun K8 hK8 => ?_; refine HC_seq fun K9 hK9 => ?_; refine HC_region ?_; refine HL_r rfl rfl rfl rfl (R_move rfl) ?_; refine HL_r rfl rfl rfl rfl (R_pure rfl rfl rfl) ?_; refine HL_nil ?_; refine HQ_then ?_; refine hK9 _ _ _ _ ?_; clear hK9 K9; refine HC_cond rfl (fun h10 => ?_) (fun h10 => ?_)
    · try exact Bool.noConfusion h10
      try simp only [Z1, Z2, Z3, Z4, Z5, Z6, Z7, Z8, Z9, Z10, Z11, Z12, Z13] at h10
      refine HC_seq fun K11 hK11 => ?_; refine HC_region ?_; refine HL_r rfl rfl rfl rfl (R_loadArr (xs := s.cells) (n := 1) rfl (known_L (k := 2) rfl) rfl rfl rfl) ?_; refine HL_r rfl rfl rfl rfl (R_move rfl) ?_; refine HL_storeArr (k := 0) (n := 1) (ys := s.cells) rfl rfl rfl rfl rfl rfl rfl rfl rfl ?_; refine HL_r rfl rfl rfl rfl (R_assign rfl) ?_; refine HL_nil ?_; refine HQ_then ?_; refine hK11 _ _ _ _ ?_; clear hK11 K11; refine HC_ret ?_; refine HQ_thenR ?_; clear hK8 K8; refine HQ_post rfl rfl (.cons (res_cellA (vs := [_]) rfl (known_L (k := 0) rfl) rfl rfl) (.cons (res_tmp rfl) .nil)) (fun w1 hs1 => ?_); rw [if_neg (by omega), if_pos (by omega)]; exact ⟨⟨s, chkS s.er, [], hs, rfl⟩, rfl, hs1.weakL (List.nil_sublist _)⟩
    · try exact Bool.noConfusion h10
      try simp only [Z1, Z2, Z3, Z4, Z5, Z6, Z7, Z8, Z9, Z10, Z11, Z12, Z13] at h10
      refine HC_skip ?_; refine HQ_then ?_; refine hK8 _ _ _ _ ?_; clear hK8 K8; refine HC_seq fun K12 hK12 => ?_; refine HC_region ?_; refine HL_r rfl rfl rfl rfl (R_loadArr (xs := s.cells) (n := 1) rfl (known_L (k := 2) rfl) rfl rfl rfl) ?_; refine HL_alloc (cs := #[_]) rfl rfl rfl rfl fun r2 => ?_; refine HL_storeArr (k := 0) (n := 1) (ys := s.cells) rfl rfl rfl rfl rfl rfl rfl rfl rfl ?_; refine HL_nil ?_; refine HQ_then ?_; refine hK12 _ _ _ _ ?_; clear hK12 K12; refine HC_seq fun K13 hK13 => ?_; refine HC_seq fun K14 hK14 => ?_; refine HC_region ?_; refine HL_r rfl rfl rfl rfl (R_assign rfl) ?_; refine HL_nil ?_; refine HQ_then ?_; refine hK14 _ _ _ _ ?_; clear hK14 K14; refine HC_block ?_
      have hrs2 : changeL f s.er (fun w a => codedE f w a r) (([0, 1] : List Int).drop 0) s.er = res := hres.symm
      refine HC_sel [0, 3, 2, 1] (L' := [_, _, _, _]) (by decide) rfl ?_; refine HC_loop (σ := Nat × StSt R) (fun q => q.1 ≤ 2 ∧ changeL f s.er (fun w a => codedE f w a r) (([0, 1] : List Int).drop q.1) q.2.s.er = res) (fun q => [(0, .int .i64 f), (4, ptV rb 0), (5, ptV rr 0), (6, ptV r1 0), (7, .int .i64 0), (10, ptV r2 0), (11, .int .i64 (q.1 : Int))]) (fun q => (r2, .cells q.2.s.cells.toArray 24 (0, 0)) :: (rb, .cells s.cells.toArray 24 (0, 0)) :: (rr, .cells r.cells.toArray 29 (0, 0)) :: (r1, .cells st0L.cells.toArray 24 (0, 0)) :: q.2.L) (fun _ _ _ => True) (fun q => 2 - q.1) (0, ⟨s, [], hs⟩) ⟨Nat.zero_le _, hrs2⟩ (.cons rfl (.cons rfl (.cons rfl (.cons rfl (.cons rfl (.cons rfl (.cons rfl .nil))))))) (List.Sublist.refl _) (fun _ _ h => h) ?_; rintro ⟨i, t⟩ ⟨hi2, hinv⟩; simp only at hi2 hinv; change HC _ _ [(0, _), (4, _), (5, _), (6, _), (7, _), (10, _), (11, .int .i64 (i : Int))] ((r2, .cells t.s.cells.toArray _ (0, 0)) :: (rb, _) :: (rr, _) :: (r1, _) :: t.L) _ _ _; refine HC_seq fun K15 hK15 => ?_; refine HC_seq fun K16 hK16 => ?_; refine HC_region ?_; refine HL_r rfl rfl rfl rfl (R_move rfl) ?_; refine HL_r rfl rfl rfl rfl (R_pure rfl rfl rfl) ?_; refine HL_nil ?_; refine HQ_then ?_; refine hK16 _ _ _ _ ?_; clear hK16 K16; refine HC_cond rfl (fun h17 => ?_) (fun h17 => ?_)
      · try exact Bool.noConfusion h17
        try simp only [Z1, Z2, Z3, Z4, Z5, Z6, Z7, Z8, Z9, Z10, Z11, Z12, Z13] at h17
        refine HC_skip ?_; refine HQ_then ?_; refine hK15 _ _ _ _ ?_; clear hK15 K15; refine HC_seq fun K18 hK18 => ?_; refine HC_block ?_; refine HC_seq fun K19 hK19 => ?_
        have hi : i < 2 := by omega
        rw [change_drop hi, changeL_cons] at hinv; refine HC_region ?_; refine HL_r rfl rfl rfl rfl (R_move rfl) ?_; refine HL_r rfl rfl rfl rfl (R_move rfl) ?_; refine HL_callP rfl rfl rfl (enters_of Tryz.func53 (by kernel_rfl) rfl) (P_rcode f i) ?_; refine HL_r rfl rfl rfl rfl (R_move rfl) ?_; refine HL_r rfl rfl rfl rfl (R_extract rfl rfl) ?_; refine HL_r rfl rfl rfl rfl (R_extract rfl rfl) ?_; refine HL_r rfl rfl rfl rfl (R_assign rfl) ?_; refine HL_r rfl rfl rfl rfl (R_assign rfl) ?_; refine HL_nil ?_; refine HQ_then ?_; refine hK19 _ _ _ _ ?_; clear hK19 K19; refine HC_seq fun K20 hK20 => ?_; refine HC_seq fun K21 hK21 => ?_; refine HC_region ?_; refine HL_r rfl rfl rfl rfl (R_move rfl) ?_; refine HL_r rfl rfl rfl rfl (R_pure rfl rfl rfl) ?_; refine HL_nil ?_; refine HQ_then ?_; refine hK21 _ _ _ _ ?_; clear hK21 K21; refine HC_cond rfl (fun h22 => ?_) (fun h22 => ?_)
        · try exact Bool.noConfusion h22
          try simp only [Z1, Z2, Z3, Z4, Z5, Z6, Z7, Z8, Z9, Z10, Z11, Z12, Z13] at h22
          refine HC_exit ?_; refine HQ_thenE ?_; clear hK20 K20; refine HQ_blockE ?_; refine HQ_then ?_; refine hK18 _ _ _ _ ?_; clear hK18 K18; refine HC_region ?_; refine HL_r rfl rfl rfl rfl (R_move rfl) ?_; refine HL_r rfl rfl rfl rfl (R_pure rfl rfl rfl) ?_; refine HL_wrap_i64 (by omega) (by omega) ?_; refine HL_r rfl rfl rfl rfl (R_assign rfl) ?_; refine HL_nil ?_; refine HQ_then ?_
          (rw [if_pos (by simp_all)] at hinv
           exact HQ_again (i + 1, t) ⟨by simp only; omega, hinv⟩ (by simp only; omega) (.cons rfl (.cons rfl (.cons rfl (.cons rfl (.cons rfl (.cons rfl (.cons rfl .nil))))))) (List.Sublist.refl _) (fun _ _ h => h))
        · try exact Bool.noConfusion h22
          try simp only [Z1, Z2, Z3, Z4, Z5, Z6, Z7, Z8, Z9, Z10, Z11, Z12, Z13] at h22
          refine HC_skip ?_; refine HQ_then ?_; refine hK20 _ _ _ _ ?_; clear hK20 K20; refine HC_seq fun K23 hK23 => ?_; rw [if_neg (by simp_all)] at hinv
          refine HC_drawB [] [(1, .pure), (2, .pure), (4, .pure), (5, .pure), (6, .pure), (7, .grow (geNew ptrV (.cells #[.string ⟨#[]⟩, .int .u64 0, .int .u64 0, .int .u64 0, .int .u64 0, .int .u64 0, .string ⟨#[]⟩, .slice none 0 0] 55 (0, 0)))), (8, .turn), (9, .pure)] 10 [0, 1, 2, 3, 4, 5, 6, 7, 8, 9] (by kernel_rfl) (by kernel_rfl) (by first | exact (fun _ h => nomatch h) | simp [SubS] | (intro p hp; simp [hp])) ?_; refine HB_r (k := 0) rfl rfl rfl rfl rfl (R_loadArr (xs := t.s.cells) (n := 1) rfl (known_L (k := 0) rfl) rfl rfl rfl) ?_; refine HB_p (k := 1) rfl rfl rfl rfl rfl (fun _ hS => (R_move rfl)) ?_; refine HB_callP (k := 2) rfl rfl rfl rfl rfl (enters_of Tryz.func21 (by kernel_rfl) rfl) (P_rAddr i) ?_; refine HB_callR (k := 3) rfl rfl rfl rfl rfl (enters_of Tryz.func54 (by kernel_rfl) rfl) (S_rFind t.ok (addrE i)) (fun q hq => (List.mem_append.1 hq).elim (fun h => Or.inl (List.mem_cons_of_mem _ (List.mem_cons_of_mem _ (List.mem_cons_of_mem _ (List.mem_cons_of_mem _ h))))) Or.inr) ?_; refine HB_p (k := 4) rfl rfl rfl rfl rfl (fun _ hS => (R_move rfl)) ?_; refine HB_p (k := 5) rfl rfl rfl rfl rfl (fun _ hS => (R_extract rfl rfl)) ?_; refine HB_p (k := 6) rfl rfl rfl rfl rfl (fun _ hS => (R_extract rfl rfl)) ?_; refine HB_alloc (k := 7) (cs := #[_, _, _, _, _, _, _, _]) rfl rfl rfl rfl rfl rfl fun r3 => ?_; refine HB_storeArr (k := 8) (q := 0) (n := 8) (ys := (findL t.s (addrE i)).cells) rfl rfl rfl rfl rfl rfl rfl rfl rfl rfl rfl (fun _ h => nomatch h) ?_; refine HB_p (k := 9) rfl rfl rfl rfl rfl (fun _ hS => (R_assign rfl)) ?_; refine HB_end ?_; refine HL_nil ?_; refine HQ_then ?_; refine hK23 _ _ _ _ ?_; clear hK23 K23; refine HC_seq fun K24 hK24 => ?_; refine HC_region ?_; refine HL_r rfl rfl rfl rfl (R_move rfl) ?_; refine HL_r rfl rfl rfl rfl (R_move rfl) ?_; refine HL_r rfl rfl rfl rfl (R_loadArr (xs := (findL t.s (addrE i)).cells) (n := 8) rfl (known_L (k := 0) rfl) rfl rfl rfl) ?_; refine HL_r rfl rfl rfl rfl (R_loadArr (xs := r.cells) (n := 17) rfl (known_L (k := 3) rfl) rfl rfl rfl) ?_; refine HL_callRE rfl rfl rfl (enters_of Tryz.func55 (by kernel_rfl) rfl) (S_rcoded (f := f) hi (find_in t.ok (addrE i)) hr) (fun q hq => (List.mem_append.1 hq).elim (fun h => Or.inl (List.mem_cons_of_mem _ (List.mem_cons_of_mem _ (List.mem_cons_of_mem _ (List.mem_cons_of_mem _ (List.mem_cons_of_mem _ h)))))) Or.inr) fun x => ?_; refine HL_perm (perm_mid x.L [_, _, _, _, _] t.L) ?_; change HL _ _ ((58, .tuple #[x.a.val, .int .i64 x.err]) :: _) ((r3, _) :: (r2, _) :: (rb, _) :: (rr, _) :: (r1, _) :: (x.L ++ t.L)) _ _ _ _
          have hxe : (codedE f i (oldE t.s.er i) r).2 = x.err := by rw [← old_er]; exact (congrArg Prod.snd x.eq).symm
          have hxa : (codedE f i (oldE t.s.er i) r).1 = x.a.er := by rw [← old_er]; exact (congrArg Prod.fst x.eq).symm
          simp only [hxe, hxa] at hinv; refine HL_r rfl rfl rfl rfl (R_move rfl) ?_; refine HL_r rfl rfl rfl rfl (R_extract rfl rfl) ?_; refine HL_r rfl rfl rfl rfl (R_extract rfl rfl) ?_; refine HL_alloc (cs := #[_, _, _, _, _, _, _, _]) rfl rfl rfl rfl fun r4 => ?_; refine HL_storeArr (k := 0) (n := 8) (ys := (x.a).cells) rfl rfl rfl rfl rfl rfl rfl rfl rfl ?_; refine HL_r rfl rfl rfl rfl (R_assign rfl) ?_; refine HL_nil ?_; refine HQ_then ?_; refine hK24 _ _ _ _ ?_; clear hK24 K24; refine HC_seq fun K25 hK25 => ?_; refine HC_seq fun K26 hK26 => ?_; refine HC_region ?_; refine HL_r rfl rfl rfl rfl (R_move rfl) ?_; refine HL_r rfl rfl rfl rfl (R_pure rfl rfl rfl) ?_; refine HL_nil ?_; refine HQ_then ?_; refine hK26 _ _ _ _ ?_; clear hK26 K26; refine HC_cond rfl (fun h27 => ?_) (fun h27 => ?_)
          · try exact Bool.noConfusion h27
            try simp only [Z1, Z2, Z3, Z4, Z5, Z6, Z7, Z8, Z9, Z10, Z11, Z12, Z13] at h27
            refine HC_seq fun K28 hK28 => ?_; refine HC_region ?_; refine HL_r rfl rfl rfl rfl (R_loadArr (xs := s.cells) (n := 1) rfl (known_L (k := 3) rfl) rfl rfl rfl) ?_; refine HL_r rfl rfl rfl rfl (R_move rfl) ?_; refine HL_storeArr (k := 5) (n := 1) (ys := s.cells) rfl rfl rfl rfl rfl rfl rfl rfl rfl ?_; refine HL_r rfl rfl rfl rfl (R_assign rfl) ?_; refine HL_nil ?_; refine HQ_then ?_; refine hK28 _ _ _ _ ?_; clear hK28 K28; refine HC_ret ?_; refine HQ_thenR ?_; clear hK25 K25; refine HQ_blockR ?_; refine HQ_thenR ?_; clear hK18 K18; refine HQ_thenR ?_; refine HQ_blockR ?_; refine HQ_thenR ?_; clear hK13 K13; refine HQ_post rfl rfl (.cons (res_cellA (vs := [_]) rfl (known_L (k := 5) rfl) rfl rfl) (.cons (res_tmp rfl) .nil)) (fun w1 hs1 => ?_)
            (rw [if_pos (show x.err ≠ 0 by omega)] at hinv
             rw [if_neg (by omega), if_neg (by omega)]
             exact ⟨⟨s, x.err, [], hs, hinv⟩, rfl, hs1.weakL (List.nil_sublist _)⟩)
          · try exact Bool.noConfusion h27
            try simp only [Z1, Z2, Z3, Z4, Z5, Z6, Z7, Z8, Z9, Z10, Z11, Z12, Z13] at h27
            refine HC_skip ?_; refine HQ_then ?_; refine hK25 _ _ _ _ ?_; clear hK25 K25; refine HC_seq fun K29 hK29 => ?_; refine HC_region ?_; refine HL_r rfl rfl rfl rfl (R_loadArr (xs := t.s.cells) (n := 1) rfl (known_L (k := 2) rfl) rfl rfl rfl) ?_; refine HL_r rfl rfl rfl rfl (R_loadArr (xs := x.a.cells) (n := 8) rfl (known_L (k := 0) rfl) rfl rfl rfl) ?_; refine HL_callRE rfl rfl rfl (enters_of Tryz.func56 (by kernel_rfl) rfl) (S_rPut (R := x.L ++ (t.L ++ R)) (t.ok.mono fun q hq => List.mem_append_right _ hq) x.ok) (fun q hq => (List.mem_append.1 hq).elim (fun h => Or.inl (List.mem_cons_of_mem _ (List.mem_cons_of_mem _ (List.mem_cons_of_mem _ (List.mem_cons_of_mem _ (List.mem_cons_of_mem _ (List.mem_cons_of_mem _ (List.mem_append_left _ h)))))))) fun hq => (List.mem_append.1 hq).elim (fun h => Or.inl (List.mem_cons_of_mem _ (List.mem_cons_of_mem _ (List.mem_cons_of_mem _ (List.mem_cons_of_mem _ (List.mem_cons_of_mem _ (List.mem_cons_of_mem _ (List.mem_append_right _ h)))))))) Or.inr) fun y => ?_; refine HL_perm (perm_mid y.L [_, _, _, _, _, _] (x.L ++ t.L)) ?_; change HL _ _ ((68, .tuple #[y.s.val, .int .i64 y.err]) :: _) ((r4, _) :: (r3, _) :: (r2, _) :: (rb, _) :: (rr, _) :: (r1, _) :: (y.L ++ (x.L ++ t.L))) _ _ _ _
            have hye : (putS t.s.er x.a.er).2 = y.err := (congrArg Prod.snd y.eq).symm
            have hys : (putS t.s.er x.a.er).1 = y.s.er := (congrArg Prod.fst y.eq).symm
            simp only [hye, hys] at hinv; refine HL_r rfl rfl rfl rfl (R_move rfl) ?_; refine HL_r rfl rfl rfl rfl (R_extract rfl rfl) ?_; refine HL_r rfl rfl rfl rfl (R_extract rfl rfl) ?_; refine HL_alloc (cs := #[_]) rfl rfl rfl rfl fun r5 => ?_; refine HL_storeArr (k := 0) (n := 1) (ys := y.s.cells) rfl rfl rfl rfl rfl rfl rfl rfl rfl ?_; refine HL_r rfl rfl rfl rfl (R_assign rfl) ?_; refine HL_nil ?_; refine HQ_then ?_; refine hK29 _ _ _ _ ?_; clear hK29 K29; refine HC_seq fun K30 hK30 => ?_; refine HC_seq fun K31 hK31 => ?_; refine HC_region ?_; refine HL_r rfl rfl rfl rfl (R_move rfl) ?_; refine HL_r rfl rfl rfl rfl (R_pure rfl rfl rfl) ?_; refine HL_nil ?_; refine HQ_then ?_; refine hK31 _ _ _ _ ?_; clear hK31 K31; refine HC_cond rfl (fun h32 => ?_) (fun h32 => ?_)
            · try exact Bool.noConfusion h32
              try simp only [Z1, Z2, Z3, Z4, Z5, Z6, Z7, Z8, Z9, Z10, Z11, Z12, Z13] at h32
              refine HC_seq fun K33 hK33 => ?_; refine HC_region ?_; refine HL_r rfl rfl rfl rfl (R_loadArr (xs := s.cells) (n := 1) rfl (known_L (k := 4) rfl) rfl rfl rfl) ?_; refine HL_r rfl rfl rfl rfl (R_move rfl) ?_; refine HL_storeArr (k := 6) (n := 1) (ys := s.cells) rfl rfl rfl rfl rfl rfl rfl rfl rfl ?_; refine HL_r rfl rfl rfl rfl (R_assign rfl) ?_; refine HL_nil ?_; refine HQ_then ?_; refine hK33 _ _ _ _ ?_; clear hK33 K33; refine HC_ret ?_; refine HQ_thenR ?_; clear hK30 K30; refine HQ_blockR ?_; refine HQ_thenR ?_; clear hK18 K18; refine HQ_thenR ?_; refine HQ_blockR ?_; refine HQ_thenR ?_; clear hK13 K13; refine HQ_post rfl rfl (.cons (res_cellA (vs := [_]) rfl (known_L (k := 6) rfl) rfl rfl) (.cons (res_tmp rfl) .nil)) (fun w1 hs1 => ?_)
              (rw [if_neg (show ¬ (x.err ≠ 0) by omega), if_pos (show y.err ≠ 0 by omega)] at hinv
               rw [if_neg (by omega), if_neg (by omega)]
               exact ⟨⟨s, y.err, [], hs, hinv⟩, rfl, hs1.weakL (List.nil_sublist _)⟩)
            · try exact Bool.noConfusion h32
              try simp only [Z1, Z2, Z3, Z4, Z5, Z6, Z7, Z8, Z9, Z10, Z11, Z12, Z13] at h32
              refine HC_skip ?_; refine HQ_then ?_; refine hK30 _ _ _ _ ?_; clear hK30 K30; refine HC_region ?_; refine HL_r rfl rfl rfl rfl (R_loadArr (xs := y.s.cells) (n := 1) rfl (known_L (k := 0) rfl) rfl rfl rfl) ?_; refine HL_storeArr (k := 3) (n := 1) (ys := y.s.cells) rfl rfl rfl rfl rfl rfl rfl rfl rfl ?_; refine HL_nil ?_; refine HQ_blockN ?_; refine HQ_then ?_; refine hK18 _ _ _ _ ?_; clear hK18 K18; refine HC_region ?_; refine HL_r rfl rfl rfl rfl (R_move rfl) ?_; refine HL_r rfl rfl rfl rfl (R_pure rfl rfl rfl) ?_; refine HL_wrap_i64 (by omega) (by omega) ?_; refine HL_r rfl rfl rfl rfl (R_assign rfl) ?_; refine HL_nil ?_; refine HQ_then ?_
              (rw [if_neg (show ¬ (x.err ≠ 0) by omega), if_neg (show ¬ (y.err ≠ 0) by omega)] at hinv
               exact HQ_again (i + 1, t.next y) ⟨by simp only; omega, hinv⟩ (by simp only; omega) (.cons rfl (.cons rfl (.cons rfl (.cons rfl (.cons rfl (.cons rfl (.cons rfl .nil))))))) (.cons _ (.cons _ (.cons _ (List.Sublist.refl _)))) (fun _ _ h => h))
      · try exact Bool.noConfusion h17
        try simp only [Z1, Z2, Z3, Z4, Z5, Z6, Z7, Z8, Z9, Z10, Z11, Z12, Z13] at h17
        refine HC_exit ?_; refine HQ_thenE ?_; clear hK15 K15; refine HQ_thenE ?_; refine HQ_blockE ?_; refine HQ_then ?_; refine hK13 _ _ _ _ ?_; clear hK13 K13; refine HC_seq fun K34 hK34 => ?_; refine HC_region ?_; refine HL_r rfl rfl rfl rfl (R_loadArr (xs := t.s.cells) (n := 1) rfl (known_L (k := 0) rfl) rfl rfl rfl) ?_; refine HL_storeArr (k := 3) (n := 1) (ys := t.s.cells) rfl rfl rfl rfl rfl rfl rfl rfl rfl ?_; refine HL_r rfl rfl rfl rfl (R_assign rfl) ?_; refine HL_nil ?_; refine HQ_then ?_; refine hK34 _ _ _ _ ?_; clear hK34 K34; refine HC_ret ?_; refine HQ_post rfl rfl (.cons (res_cellA (vs := [_]) rfl (known_L (k := 3) rfl) rfl rfl) (.cons (res_tmp rfl) .nil)) (fun w1 hs1 => ?_)
        (obtain rfl : i = 2 := by omega
         rw [if_neg (by omega), if_neg (by omega)]
         exact ⟨⟨t.s, 0, t.L, t.ok, hinv⟩, rfl, hs1.weakL (.cons _ (.cons _ (.cons _ (.cons _ (List.Sublist.refl _)))))⟩)
end Go.Proofs.YtnkmbkndpoghdaaGreat
namespace Go.Proofs.YtnkmbkndpoghdaaGreat
set_option linter.all false
open Go.SL Go.RowKit Go.Shelf
/-! ### the law of what is written -/
theorem two_res {R R' : List (Nat × Obj)} {p : List AcE × Int} (x : StRes R p) (y : StRes R' p) : x.s.er = y.s.er ∧ x.err = y.err := by
  have h : (x.s.er, x.err) = (y.s.er, y.err) := x.eq.trans y.eq.symm
  exact ⟨congrArg Prod.fst h, congrArg Prod.snd h⟩
set_option maxRecDepth 10000 in
theorem L_Writes {R : List (Nat × Obj)} (f : Int) {s : StL} (hs : s.In R) {r : Rec} (hr : r.ok) : PureR Tryz.prog 3 [.int .i64 f, s.val, r.val].toArray (.bool true) R := by
  refine pureR_of_HC Tryz.func3 rfl rfl fun w => ?_
  refine HC_seq fun K1 hK1 => ?_
  refine HC_region ?_
  all_goals refine HL_box (cs := s.cells.toArray) rfl rfl rfl rfl fun rs => ?_
  all_goals refine HL_box (cs := r.cells.toArray) rfl rfl rfl rfl fun rr => ?_
  all_goals refine HL_r rfl rfl rfl rfl (R_assign rfl) ?_
  all_goals refine HL_nil ?_
  all_goals (
   refine HQ_then ?_
   refine hK1 _ _ _ _ ?_; clear hK1 K1
   refine HC_seq fun K2 hK2 => ?_
   refine HC_region ?_
   all_goals refine HL_callR rfl rfl rfl (enters_of Tryz.func13 (by kernel_rfl) rfl) S_works23 (fun q hq => Or.inr hq) ?_
   all_goals refine HL_r rfl rfl rfl rfl (R_assign rfl) ?_
   all_goals refine HL_nil ?_
   all_goals (
    refine HQ_then ?_
    refine hK2 _ _ _ _ ?_; clear hK2 K2
    refine HC_seq fun K3 hK3 => ?_
    refine HC_seq fun K4 hK4 => ?_
    refine HC_region ?_
    all_goals refine HL_r rfl rfl rfl rfl (R_move rfl) ?_
    all_goals refine HL_r rfl rfl rfl rfl (R_pure rfl rfl rfl) ?_
    all_goals refine HL_nil ?_
    all_goals (
     refine HQ_then ?_
     refine hK4 _ _ _ _ ?_; clear hK4 K4
     refine HC_cond rfl (fun h5 => ?_) (fun h5 => ?_)
     · try exact Bool.noConfusion h5
       all_goals try simp only [Z1, Z2, Z3, Z4, Z5, Z6, Z7, Z8, Z9, Z10, Z11, Z12, Z13] at h5
       all_goals (
        refine HC_seq fun K6 hK6 => ?_
        refine HC_region ?_
        all_goals refine HL_r rfl rfl rfl rfl (R_assign rfl) ?_
        all_goals refine HL_nil ?_
        all_goals (
         refine HQ_then ?_
         refine hK6 _ _ _ _ ?_; clear hK6 K6
         refine HC_ret ?_
         refine HQ_thenR ?_; clear hK3 K3
         refine HQ_post rfl rfl (.cons (res_tmp rfl) .nil) (fun w1 hs1 => ?_)
         refine ⟨?_, hs1.keep⟩
         first
           | rfl
           | simp [resVal]
         skip)
        skip)
     · try exact Bool.noConfusion h5
       all_goals try simp only [Z1, Z2, Z3, Z4, Z5, Z6, Z7, Z8, Z9, Z10, Z11, Z12, Z13] at h5
       all_goals (
        refine HC_skip ?_
        refine HQ_then ?_
        refine hK3 _ _ _ _ ?_; clear hK3 K3
        refine HC_seq fun K7 hK7 => ?_
        refine HC_region ?_
        all_goals refine HL_r rfl rfl rfl rfl (R_loadArr (xs := s.cells) (n := 1) rfl (known_L (k := 1) rfl) rfl rfl rfl) ?_
        all_goals refine HL_callR rfl rfl rfl (enters_of Tryz.func14 (by kernel_rfl) rfl) (S_Few hs) (fun q hq => Or.inr hq) ?_
        all_goals refine HL_r rfl rfl rfl rfl (R_assign rfl) ?_
        all_goals refine HL_nil ?_
        all_goals (
         refine HQ_then ?_
         refine hK7 _ _ _ _ ?_; clear hK7 K7
         refine HC_seq fun K8 hK8 => ?_
         refine HC_seq fun K9 hK9 => ?_
         refine HC_region ?_
         all_goals refine HL_r rfl rfl rfl rfl (R_move rfl) ?_
         all_goals refine HL_r rfl rfl rfl rfl (R_pure rfl rfl rfl) ?_
         all_goals refine HL_nil ?_
         all_goals (
          refine HQ_then ?_
          refine hK9 _ _ _ _ ?_; clear hK9 K9
          refine HC_cond rfl (fun h10 => ?_) (fun h10 => ?_)
          · try exact Bool.noConfusion h10
            all_goals try simp only [Z1, Z2, Z3, Z4, Z5, Z6, Z7, Z8, Z9, Z10, Z11, Z12, Z13] at h10
            all_goals (
             refine HC_seq fun K11 hK11 => ?_
             refine HC_region ?_
             all_goals refine HL_r rfl rfl rfl rfl (R_move rfl) ?_
             all_goals refine HL_r rfl rfl rfl rfl (R_assign rfl) ?_
             all_goals refine HL_nil ?_
             all_goals (
              refine HQ_then ?_
              refine hK11 _ _ _ _ ?_; clear hK11 K11
              refine HC_ret ?_
              refine HQ_thenR ?_; clear hK8 K8
              refine HQ_post rfl rfl (.cons (res_tmp rfl) .nil) (fun w1 hs1 => ?_)
              refine ⟨?_, hs1.keep⟩
              first
                | rfl
                | simp [resVal]
              skip)
             skip)
          · try exact Bool.noConfusion h10
            all_goals try simp only [Z1, Z2, Z3, Z4, Z5, Z6, Z7, Z8, Z9, Z10, Z11, Z12, Z13] at h10
            all_goals (
             refine HC_skip ?_
             refine HQ_then ?_
             refine hK8 _ _ _ _ ?_; clear hK8 K8
             refine HC_seq fun K12 hK12 => ?_
             refine HC_region ?_
             all_goals refine HL_r rfl rfl rfl rfl (R_move rfl) ?_
             all_goals refine HL_r rfl rfl rfl rfl (R_loadArr (xs := s.cells) (n := 1) rfl (known_L (k := 1) rfl) rfl rfl rfl) ?_
             all_goals refine HL_r rfl rfl rfl rfl (R_loadArr (xs := r.cells) (n := 17) rfl (known_L (k := 0) rfl) rfl rfl rfl) ?_
             all_goals refine HL_callRE rfl rfl rfl (enters_of Tryz.func15 (by kernel_rfl) rfl) (S_Write (R := R) f hs hr) (fun q hq => Or.inr hq) fun x => ?_
             all_goals refine HL_perm List.perm_append_comm ?_
             all_goals change HL _ _ ((26, .tuple #[x.s.val, .int .i64 x.err]) :: _) ((rr, _) :: (rs, _) :: x.L) _ _ _ _
             all_goals refine HL_r rfl rfl rfl rfl (R_move rfl) ?_
             all_goals refine HL_r rfl rfl rfl rfl (R_extract rfl rfl) ?_
             all_goals refine HL_r rfl rfl rfl rfl (R_extract rfl rfl) ?_
             all_goals refine HL_alloc (cs := #[_]) rfl rfl rfl rfl fun rx => ?_
             all_goals refine HL_storeArr (k := 0) (n := 1) (ys := x.s.cells) rfl rfl rfl rfl rfl rfl rfl rfl rfl ?_
             all_goals refine HL_r rfl rfl rfl rfl (R_assign rfl) ?_
             all_goals refine HL_nil ?_
             all_goals (
              refine HQ_then ?_
              refine hK12 _ _ _ _ ?_; clear hK12 K12
              refine HC_seq fun K13 hK13 => ?_
              refine HC_region ?_
              all_goals refine HL_r rfl rfl rfl rfl (R_move rfl) ?_
              all_goals refine HL_r rfl rfl rfl rfl (R_loadArr (xs := s.cells) (n := 1) rfl (known_L (k := 2) rfl) rfl rfl rfl) ?_
              all_goals refine HL_r rfl rfl rfl rfl (R_loadArr (xs := r.cells) (n := 17) rfl (known_L (k := 1) rfl) rfl rfl rfl) ?_
              all_goals refine HL_callRE rfl rfl rfl (enters_of Tryz.func16 (by kernel_rfl) rfl) (S_rWrite (R := R) f hs hr) (fun q hq => Or.inr hq) fun y => ?_
              all_goals refine HL_perm (perm_mid y.L [_, _, _] (x.L)) ?_
              all_goals change HL _ _ ((33, .tuple #[y.s.val, .int .i64 y.err]) :: _) ((rx, _) :: (rr, _) :: (rs, _) :: (y.L ++ (x.L))) _ _ _ _
              all_goals refine HL_r rfl rfl rfl rfl (R_move rfl) ?_
              all_goals refine HL_r rfl rfl rfl rfl (R_extract rfl rfl) ?_
              all_goals refine HL_r rfl rfl rfl rfl (R_extract rfl rfl) ?_
              all_goals refine HL_alloc (cs := #[_]) rfl rfl rfl rfl fun ry => ?_
              all_goals refine HL_storeArr (k := 0) (n := 1) (ys := y.s.cells) rfl rfl rfl rfl rfl rfl rfl rfl rfl ?_
              all_goals refine HL_r rfl rfl rfl rfl (R_assign rfl) ?_
              all_goals refine HL_nil ?_
              all_goals (
               refine HQ_then ?_
               refine hK13 _ _ _ _ ?_; clear hK13 K13
               refine HC_seq fun K14 hK14 => ?_
               refine HC_region ?_
               all_goals refine HL_r rfl rfl rfl rfl (R_loadArr (xs := x.s.cells) (n := 1) rfl (known_L (k := 1) rfl) rfl rfl rfl) ?_
               all_goals refine HL_r rfl rfl rfl rfl (R_loadArr (xs := y.s.cells) (n := 1) rfl (known_L (k := 0) rfl) rfl rfl rfl) ?_
               all_goals refine HL_callR rfl rfl rfl (enters_of Tryz.func17 (by kernel_rfl) rfl) (S_rSame (R := y.L ++ (x.L ++ R)) (x.ok.mono fun q hq => List.mem_append_right _ hq) (y.ok.mono fun q hq => (List.mem_append.1 hq).elim (fun h => List.mem_append_left _ h) fun h => List.mem_append_right _ (List.mem_append_right _ h))) (fun q hq => (List.mem_append.1 hq).elim (fun h => Or.inl (List.mem_cons_of_mem _ (List.mem_cons_of_mem _ (List.mem_cons_of_mem _ (List.mem_cons_of_mem _ (List.mem_append_left _ h)))))) (fun hq => (List.mem_append.1 hq).elim (fun h => Or.inl (List.mem_cons_of_mem _ (List.mem_cons_of_mem _ (List.mem_cons_of_mem _ (List.mem_cons_of_mem _ (List.mem_append_right _ h)))))) (fun hq => Or.inr hq))) ?_; refine HL_as (as_bool (decide_eq_true (two_res x y).1)) ?_
               all_goals refine HL_r rfl rfl rfl rfl (R_assign rfl) ?_
               all_goals refine HL_nil ?_
               all_goals (
                refine HQ_then ?_
                refine hK14 _ _ _ _ ?_; clear hK14 K14
                refine HC_seq fun K15 hK15 => ?_
                refine HC_region ?_
                all_goals refine HL_r rfl rfl rfl rfl (R_move rfl) ?_
                all_goals refine HL_r rfl rfl rfl rfl (R_move rfl) ?_
                all_goals first
                  | (refine HL_r rfl rfl rfl rfl (R_move rfl) ?_)
                  | (refine HL_skip rfl rfl rfl ?_)
                  | (refine HL_case 40 rfl (fun hb16 => ?_) (fun hb16 => ?_) <;> (try simp only [Z1, Z2, Z3, Z4, Z5, Z6, Z7, Z8, Z9, Z10, Z11, Z12, Z13] at hb16) <;> first | (refine HL_r rfl rfl rfl rfl (R_move rfl) ?_) | (refine HL_skip rfl rfl rfl ?_))
                all_goals first
                  | (refine HL_r rfl rfl rfl rfl (R_pickT rfl rfl) ?_)
                  | (refine HL_r rfl rfl rfl rfl (R_pickF rfl rfl) ?_)
                all_goals refine HL_r rfl rfl rfl rfl (R_move rfl) ?_
                all_goals first
                  | (refine HL_r rfl rfl rfl rfl (R_move rfl) ?_)
                  | (refine HL_skip rfl rfl rfl ?_)
                  | (refine HL_case 43 rfl (fun hb17 => ?_) (fun hb17 => ?_) <;> (try simp only [Z1, Z2, Z3, Z4, Z5, Z6, Z7, Z8, Z9, Z10, Z11, Z12, Z13] at hb17) <;> first | (refine HL_r rfl rfl rfl rfl (R_move rfl) ?_) | (refine HL_skip rfl rfl rfl ?_))
                all_goals rw [(two_res x y).2]
                all_goals first
                  | (refine HL_r rfl rfl rfl rfl (R_move rfl) ?_)
                  | (refine HL_skip rfl rfl rfl ?_)
                  | (refine HL_case 43 rfl (fun hb18 => ?_) (fun hb18 => ?_) <;> (try simp only [Z1, Z2, Z3, Z4, Z5, Z6, Z7, Z8, Z9, Z10, Z11, Z12, Z13] at hb18) <;> first | (refine HL_r rfl rfl rfl rfl (R_move rfl) ?_) | (refine HL_skip rfl rfl rfl ?_))
                all_goals first
                  | (refine HL_r rfl rfl rfl rfl (R_pure rfl rfl rfl) ?_)
                  | (refine HL_skip rfl rfl rfl ?_)
                  | (refine HL_case 43 rfl (fun hb19 => ?_) (fun hb19 => ?_) <;> (try simp only [Z1, Z2, Z3, Z4, Z5, Z6, Z7, Z8, Z9, Z10, Z11, Z12, Z13] at hb19) <;> first | (refine HL_r rfl rfl rfl rfl (R_pure rfl rfl rfl) ?_) | (refine HL_skip rfl rfl rfl ?_))
                all_goals first
                  | (refine HL_r rfl rfl rfl rfl (R_pickT rfl rfl) ?_)
                  | (refine HL_r rfl rfl rfl rfl (R_pickF rfl rfl) ?_)
                all_goals refine HL_r rfl rfl rfl rfl (R_assign rfl) ?_
                all_goals refine HL_nil ?_
                all_goals (
                 refine HQ_then ?_
                 refine hK15 _ _ _ _ ?_; clear hK15 K15
                 refine HC_ret ?_
                 refine HQ_post rfl rfl (.cons (res_tmp rfl) .nil) (fun w1 hs1 => ?_)
                 refine ⟨?_, hs1.keep⟩
                 first
                   | rfl
                   | simp [resVal]
                 skip)
                skip)
               skip)
              skip)
             skip)
          skip)
         skip)
        skip)
     skip)
    skip)
   skip)
end Go.Proofs.YtnkmbkndpoghdaaGreat
