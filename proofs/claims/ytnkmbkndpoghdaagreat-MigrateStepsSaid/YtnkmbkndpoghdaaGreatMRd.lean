import Derived.Test.YtnkmbkndpoghdaaGreatMRc
namespace Go.Proofs.YtnkmbkndpoghdaaGreat
set_option linter.all false
open Go.SL Go.RowKit Go.Shelf
/-! Few: which states are looked at -/
def fewA (a : AcE) : Bool := !((decide (100 < a.addr.length) || (decide (60 < a.code.length) && decide (a.code.length ≤ 512))) || decide (20 < a.slots.length)) && a.slots.all fun x => !(decide (100 < x.1.length) || decide (100 < x.2.length))
def fewG : Nat → Int → List AcE → Bool × Int
  | _, n, [] => (true, n)
  | i, n, a :: l => if 40 < i then (true, n) else if fewA a = false then (false, n) else fewG (i + 1) (n + (a.slots.length : Int)) l
def fewS (s : List AcE) : Bool := (fewG 0 0 s).1 && (decide (s.length ≤ 40) && decide ((fewG 0 0 s).2 ≤ 40))
theorem few_all {a : AcE} {i : Nat} {x : BS × BS} (hx : a.slots[i]? = some x) (h : x.1.length > 100 ∨ x.2.length > 100) : fewA a = false := by
  unfold fewA
  have : (a.slots.all fun x => !(decide (100 < x.1.length) || decide (100 < x.2.length))) = false := by
    rw [List.all_eq_false]
    exact ⟨x, List.mem_of_getElem? hx, by rcases h with h | h <;> simp [h]⟩
  rw [this, Bool.and_false]
theorem few_len {a : AcE} (h : fewA a = true) : a.slots.length ≤ 20 := by
  unfold fewA at h
  simp only [Bool.and_eq_true, Bool.not_eq_true', Bool.or_eq_false_iff, decide_eq_false_iff_not] at h; omega
theorem few_step {i : Nat} {n : Int} {s : List AcE} {a : AcE} (h : s[i]? = some a) (hi : i ≤ 40) (hf : fewA a = true) : fewG i n (s.drop i) = fewG (i + 1) (n + (a.slots.length : Int)) (s.drop (i + 1)) := by
  obtain ⟨hlt, e⟩ := List.getElem?_eq_some_iff.1 h
  rw [List.drop_eq_getElem_cons hlt, e]
  unfold fewG
  rw [if_neg (by omega), if_neg (by rw [hf]; simp)]
  cases s.drop (i + 1) <;> rfl
theorem few_stop {i : Nat} {n : Int} {s : List AcE} (h : 40 < i ∨ s.length ≤ i) : fewG i n (s.drop i) = (true, n) := by
  rcases h with h | h
  · cases s.drop i with
    | nil => rfl
    | cons a l => unfold fewG; rw [if_pos h]
  · rw [List.drop_of_length_le h]; rfl
theorem few_no {i : Nat} {n : Int} {s : List AcE} {a : AcE} (h : s[i]? = some a) (hi : i ≤ 40) (hf : fewA a = false) : (fewG i n (s.drop i)).1 = false := by
  obtain ⟨hlt, e⟩ := List.getElem?_eq_some_iff.1 h
  rw [List.drop_eq_getElem_cons hlt, e]
  unfold fewG
  rw [if_neg (by omega), if_pos hf]
set_option maxRecDepth 10000 in
theorem S_FewAcct {R : List (Nat × Obj)} {a : AcL} (ha : a.In R) : PureR Tryz.prog 43 [a.val].toArray (.bool (fewA a.er)) R := by
  have hl := ha.len
  have hseg := ha.seg
  obtain ⟨res, hres⟩ : ∃ b, b = fewA a.er := ⟨_, rfl⟩
  rw [← hres]
  have h1 : (100 < (a.addr.length : Int) ∨ (60 < (a.code.length : Int) ∧ (a.code.length : Int) ≤ 512) ∨ 20 < (a.slots.length : Int)) → res = false := fun h => by
    rw [hres]; unfold fewA
    have : ((decide (100 < a.addr.length) || (decide (60 < a.code.length) && decide (a.code.length ≤ 512))) || decide (20 < a.slots.length)) = true := by
      simp only [Bool.or_eq_true, Bool.and_eq_true, decide_eq_true_eq]; omega
    show (!((decide (100 < a.addr.length) || (decide (60 < a.code.length) && decide (a.code.length ≤ 512))) || decide (20 < a.slots.length)) && _) = false
    rw [this]; rfl
  have h2 : ¬ (100 < (a.addr.length : Int) ∨ (60 < (a.code.length : Int) ∧ (a.code.length : Int) ≤ 512) ∨ 20 < (a.slots.length : Int)) → (∀ (j : Nat) (x : BS × BS), a.slots[j]? = some x → x.1.length ≤ 100 ∧ x.2.length ≤ 100) → res = true := fun h h' => by
    rw [hres]; unfold fewA
    have e : ((decide (100 < a.addr.length) || (decide (60 < a.code.length) && decide (a.code.length ≤ 512))) || decide (20 < a.slots.length)) = false := by
      simp only [Bool.or_eq_false_iff, Bool.and_eq_false_iff, decide_eq_false_iff_not]; omega
    show (!((decide (100 < a.addr.length) || (decide (60 < a.code.length) && decide (a.code.length ≤ 512))) || decide (20 < a.slots.length)) && _) = true
    rw [e]; simp only [Bool.not_false, Bool.true_and, List.all_eq_true]; intro x hx
    obtain ⟨j, hj⟩ := List.getElem?_of_mem hx
    obtain ⟨g1, g2⟩ := h' j x hj
    simp; omega
  refine pureR_of_HC Tryz.func43 rfl rfl fun w => ?_; refine HC_seq fun K1 hK1 => ?_; refine HC_region ?_; refine HL_box (cs := a.cells.toArray) rfl rfl rfl rfl fun r1 => ?_; refine HL_r rfl rfl rfl rfl (R_assign rfl) ?_; refine HL_nil ?_; refine HQ_then ?_; refine hK1 _ _ _ _ ?_; clear hK1 K1; refine HC_seq fun K2 hK2 => ?_; refine HC_seq fun K3 hK3 => ?_; refine HC_region ?_
  refine HL_r rfl rfl rfl rfl (R_fieldAddr rfl rfl (by first | (simp only [Nat.zero_add, Nat.reduceAdd, Nat.reduceMul, Nat.zero_mul, Nat.mul_one, Nat.add_zero]; exact rfl) | exact rfl)) ?_; refine HL_r rfl rfl rfl rfl (R_load rfl (known_L (k := 0) rfl) rfl rfl) ?_; refine HL_r rfl rfl rfl rfl (R_lenBs rfl rfl) ?_; refine HL_r rfl rfl rfl rfl (R_pure rfl rfl rfl) ?_; refine HL_r rfl rfl rfl rfl (R_move rfl) ?_
  refine HL_case 8 rfl (fun hb4 => ?_) (fun hb4 => ?_) <;> (try simp only [Z1, Z2, Z3, Z4, Z5, Z6, Z7, Z8, Z9, Z10, Z11, Z12, Z13] at hb4) <;> first | (refine HL_r rfl rfl rfl rfl (R_fieldAddr rfl rfl (by first | (simp only [Nat.zero_add, Nat.reduceAdd, Nat.reduceMul, Nat.zero_mul, Nat.mul_one, Nat.add_zero]; exact rfl) | exact rfl)) ?_) | (refine HL_skip rfl rfl rfl ?_)
  all_goals first
    | (refine HL_r rfl rfl rfl rfl (R_load rfl (known_L (k := 0) rfl) rfl rfl) ?_)
    | (refine HL_skip rfl rfl rfl ?_)
  all_goals first
    | (refine HL_r rfl rfl rfl rfl (R_lenBs rfl rfl) ?_)
    | (refine HL_skip rfl rfl rfl ?_)
  all_goals first
    | (refine HL_r rfl rfl rfl rfl (R_pure rfl rfl rfl) ?_)
    | (refine HL_skip rfl rfl rfl ?_)
  all_goals first
    | (refine HL_r rfl rfl rfl rfl (R_move rfl) ?_)
    | (refine HL_skip rfl rfl rfl ?_)
  all_goals first
    | (refine HL_skip rfl rfl rfl ?_)
    | (refine HL_case 13 rfl (fun hb9 => ?_) (fun hb9 => ?_) <;> (try simp only [Z1, Z2, Z3, Z4, Z5, Z6, Z7, Z8, Z9, Z10, Z11, Z12, Z13] at hb9) <;> first | (refine HL_r rfl rfl rfl rfl (R_fieldAddr rfl rfl (by first | (simp only [Nat.zero_add, Nat.reduceAdd, Nat.reduceMul, Nat.zero_mul, Nat.mul_one, Nat.add_zero]; exact rfl) | exact rfl)) ?_) | (refine HL_skip rfl rfl rfl ?_))
  all_goals first
    | (refine HL_r rfl rfl rfl rfl (R_load rfl (known_L (k := 0) rfl) rfl rfl) ?_)
    | (refine HL_skip rfl rfl rfl ?_)
  all_goals first
    | (refine HL_r rfl rfl rfl rfl (R_lenBs rfl rfl) ?_)
    | (refine HL_skip rfl rfl rfl ?_)
  all_goals first
    | (refine HL_r rfl rfl rfl rfl (R_pure rfl rfl rfl) ?_)
    | (refine HL_skip rfl rfl rfl ?_)
  all_goals first
    | (refine HL_r rfl rfl rfl rfl (R_pickT rfl rfl) ?_)
    | (refine HL_r rfl rfl rfl rfl (R_pickF rfl rfl) ?_)
    | (refine HL_skip rfl rfl rfl ?_)
  all_goals first
    | (refine HL_r rfl rfl rfl rfl (R_pickT rfl rfl) ?_)
    | (refine HL_r rfl rfl rfl rfl (R_pickF rfl rfl) ?_)
  all_goals refine HL_r rfl rfl rfl rfl (R_move rfl) ?_
  all_goals first
    | (refine HL_r rfl rfl rfl rfl (R_fieldAddr rfl rfl (by first | (simp only [Nat.zero_add, Nat.reduceAdd, Nat.reduceMul, Nat.zero_mul, Nat.mul_one, Nat.add_zero]; exact rfl) | exact rfl)) ?_)
    | (refine HL_skip rfl rfl rfl ?_)
    | (refine HL_case 20 rfl (fun hb14 => ?_) (fun hb14 => ?_) <;> (try simp only [Z1, Z2, Z3, Z4, Z5, Z6, Z7, Z8, Z9, Z10, Z11, Z12, Z13] at hb14) <;> first | (refine HL_r rfl rfl rfl rfl (R_fieldAddr rfl rfl (by first | (simp only [Nat.zero_add, Nat.reduceAdd, Nat.reduceMul, Nat.zero_mul, Nat.mul_one, Nat.add_zero]; exact rfl) | exact rfl)) ?_) | (refine HL_skip rfl rfl rfl ?_))
  all_goals first
    | (refine HL_r rfl rfl rfl rfl (R_load rfl (known_L (k := 0) rfl) rfl rfl) ?_)
    | (refine HL_skip rfl rfl rfl ?_)
  all_goals first
    | (refine HL_r rfl rfl rfl rfl (R_lenPl rfl hseg rfl) ?_)
    | (refine HL_skip rfl rfl rfl ?_)
  all_goals first
    | (refine HL_r rfl rfl rfl rfl (R_pure rfl rfl rfl) ?_)
    | (refine HL_skip rfl rfl rfl ?_)
  all_goals first
    | (refine HL_r rfl rfl rfl rfl (R_pickT rfl rfl) ?_)
    | (refine HL_r rfl rfl rfl rfl (R_pickF rfl rfl) ?_)
  all_goals refine HL_nil ?_
  all_goals (
   refine HQ_then ?_; refine hK3 _ _ _ _ ?_; clear hK3 K3; refine HC_cond rfl (fun h18 => ?_) (fun h18 => ?_)
   · try exact Bool.noConfusion h18
     try simp only [Z1, Z2, Z3, Z4, Z5, Z6, Z7, Z8, Z9, Z10, Z11, Z12, Z13] at h18
     refine HC_seq fun K19 hK19 => ?_; refine HC_region ?_; refine HL_r rfl rfl rfl rfl (R_assign rfl) ?_; refine HL_nil ?_; refine HQ_then ?_; refine hK19 _ _ _ _ ?_; clear hK19 K19; refine HC_ret ?_; refine HQ_thenR ?_; clear hK2 K2; refine HQ_post rfl rfl (.cons (res_tmp rfl) .nil) (fun w1 hs1 => ?_); rw [h1 (by omega)]; exact ⟨rfl, hs1.keep⟩
   · try exact Bool.noConfusion h18
     all_goals try simp only [Z1, Z2, Z3, Z4, Z5, Z6, Z7, Z8, Z9, Z10, Z11, Z12, Z13] at h18
     all_goals (
      refine HC_skip ?_; refine HQ_then ?_; refine hK2 _ _ _ _ ?_; clear hK2 K2; refine HC_seq fun K20 hK20 => ?_; refine HC_seq fun K21 hK21 => ?_; refine HC_region ?_; refine HL_r rfl rfl rfl rfl (R_assign rfl) ?_; refine HL_nil ?_; refine HQ_then ?_; refine hK21 _ _ _ _ ?_; clear hK21 K21; refine HC_block ?_
      have h0 : ¬ (100 < (a.addr.length : Int) ∨ (60 < (a.code.length : Int) ∧ (a.code.length : Int) ≤ 512) ∨ 20 < (a.slots.length : Int)) := by
        simp_all
        all_goals first | done | omega | trace_state
      refine HC_loop (σ := Nat) (fun i => i ≤ a.slots.length ∧ ∀ (j : Nat) (x : BS × BS), j < i → a.slots[j]? = some x → x.1.length ≤ 100 ∧ x.2.length ≤ 100) (fun i => [(1, .pointer (some ⟨r1, 0, none⟩)), (3, .int .i64 (i : Int))]) (fun _ => [(r1, .cells a.cells.toArray 55 (0, 0))]) (fun _ _ _ => True) (fun i => a.slots.length - i) 0 ⟨Nat.zero_le _, fun _ _ h => absurd h (Nat.not_lt_zero _)⟩ (.cons rfl (.cons rfl .nil)) (List.Sublist.refl _) (fun _ _ h => h) ?_; rintro i ⟨hi1, hinv⟩; refine HC_seq fun K22 hK22 => ?_; refine HC_seq fun K23 hK23 => ?_; refine HC_region ?_; refine HL_r rfl rfl rfl rfl (R_move rfl) ?_
      refine HL_r rfl rfl rfl rfl (R_fieldAddr rfl rfl (by first | (simp only [Nat.zero_add, Nat.reduceAdd, Nat.reduceMul, Nat.zero_mul, Nat.mul_one, Nat.add_zero]; exact rfl) | exact rfl)) ?_; refine HL_r rfl rfl rfl rfl (R_load rfl (known_L (k := 0) rfl) rfl rfl) ?_; refine HL_r rfl rfl rfl rfl (R_lenPl rfl hseg rfl) ?_; refine HL_r rfl rfl rfl rfl (R_pure rfl rfl rfl) ?_; refine HL_nil ?_; refine HQ_then ?_; refine hK23 _ _ _ _ ?_; clear hK23 K23; refine HC_cond rfl (fun h24 => ?_) (fun h24 => ?_)
      · try exact Bool.noConfusion h24
        try simp only [Z1, Z2, Z3, Z4, Z5, Z6, Z7, Z8, Z9, Z10, Z11, Z12, Z13] at h24
        refine HC_skip ?_; refine HQ_then ?_; refine hK22 _ _ _ _ ?_; clear hK22 K22; refine HC_seq fun K25 hK25 => ?_; refine HC_block ?_; refine HC_seq fun K26 hK26 => ?_
        obtain ⟨x, hx, hmx⟩ := getI (show i < a.slots.length by omega)
        have hxl := ha.slots x hmx
        refine HC_region ?_
        refine HL_r rfl rfl rfl rfl (R_fieldAddr rfl rfl (by first | (simp only [Nat.zero_add, Nat.reduceAdd, Nat.reduceMul, Nat.zero_mul, Nat.mul_one, Nat.add_zero]; exact rfl) | exact rfl)) ?_; refine HL_r rfl rfl rfl rfl (R_load rfl (known_L (k := 0) rfl) rfl rfl) ?_; refine HL_r rfl rfl rfl rfl (R_move rfl) ?_
        refine HL_r rfl rfl rfl rfl (R_indexPl (j := i) rfl hseg rfl rfl rfl (by first | rfl | omega) (by omega)) ?_; refine HL_r rfl rfl rfl rfl (R_fieldAddr (off' := plO a.p + (i * 2 + 0)) rfl rfl (by show plO a.p + i * 2 + 0 = _; omega)) ?_; refine HL_r rfl rfl rfl rfl (R_loadEf slC_len (k := 0) (v := strV x.1) (fun q hq => Or.inr hq) rfl hseg hx rfl rfl) ?_; refine HL_r rfl rfl rfl rfl (R_lenBs rfl rfl) ?_; refine HL_r rfl rfl rfl rfl (R_pure rfl rfl rfl) ?_; refine HL_r rfl rfl rfl rfl (R_move rfl) ?_
        refine HL_case 41 rfl (fun hb27 => ?_) (fun hb27 => ?_) <;> (try simp only [Z1, Z2, Z3, Z4, Z5, Z6, Z7, Z8, Z9, Z10, Z11, Z12, Z13] at hb27) <;> first | (refine HL_r rfl rfl rfl rfl (R_fieldAddr rfl rfl (by first | (simp only [Nat.zero_add, Nat.reduceAdd, Nat.reduceMul, Nat.zero_mul, Nat.mul_one, Nat.add_zero]; exact rfl) | exact rfl)) ?_) | (refine HL_skip rfl rfl rfl ?_)
        all_goals first
          | (refine HL_r rfl rfl rfl rfl (R_load rfl (known_L (k := 0) rfl) rfl rfl) ?_)
          | (refine HL_skip rfl rfl rfl ?_)
        all_goals first
          | (refine HL_r rfl rfl rfl rfl (R_move rfl) ?_)
          | (refine HL_skip rfl rfl rfl ?_)
        all_goals first
          | (refine HL_r rfl rfl rfl rfl (R_indexPl (j := i) rfl hseg rfl rfl rfl (by first | rfl | omega) (by omega)) ?_)
          | (refine HL_skip rfl rfl rfl ?_)
        all_goals first
          | (refine HL_r rfl rfl rfl rfl (R_fieldAddr (off' := plO a.p + (i * 2 + 1)) rfl rfl (by show plO a.p + i * 2 + 1 = _; omega)) ?_)
          | (refine HL_skip rfl rfl rfl ?_)
        all_goals first
          | (refine HL_r rfl rfl rfl rfl (R_loadEf slC_len (k := 1) (v := strV x.2) (fun q hq => Or.inr hq) rfl hseg hx rfl rfl) ?_)
          | (refine HL_skip rfl rfl rfl ?_)
        all_goals first
          | (refine HL_r rfl rfl rfl rfl (R_lenBs rfl rfl) ?_)
          | (refine HL_skip rfl rfl rfl ?_)
        all_goals first
          | (refine HL_r rfl rfl rfl rfl (R_pure rfl rfl rfl) ?_)
          | (refine HL_skip rfl rfl rfl ?_)
        all_goals first
          | (refine HL_r rfl rfl rfl rfl (R_pickT rfl rfl) ?_)
          | (refine HL_r rfl rfl rfl rfl (R_pickF rfl rfl) ?_)
        all_goals refine HL_nil ?_
        all_goals (
         refine HQ_then ?_; refine hK26 _ _ _ _ ?_; clear hK26 K26; refine HC_cond rfl (fun h35 => ?_) (fun h35 => ?_)
         · try exact Bool.noConfusion h35
           try simp only [Z1, Z2, Z3, Z4, Z5, Z6, Z7, Z8, Z9, Z10, Z11, Z12, Z13] at h35
           refine HC_seq fun K36 hK36 => ?_; refine HC_region ?_; refine HL_r rfl rfl rfl rfl (R_assign rfl) ?_; refine HL_nil ?_; refine HQ_then ?_; refine hK36 _ _ _ _ ?_; clear hK36 K36; refine HC_ret ?_; refine HQ_blockR ?_; refine HQ_thenR ?_; clear hK25 K25; refine HQ_thenR ?_; refine HQ_blockR ?_; refine HQ_thenR ?_; clear hK20 K20; refine HQ_post rfl rfl (.cons (res_tmp rfl) .nil) (fun w1 hs1 => ?_); rw [hres, few_all hx (by omega)]; exact ⟨rfl, hs1.keep⟩
         · try exact Bool.noConfusion h35
           all_goals try simp only [Z1, Z2, Z3, Z4, Z5, Z6, Z7, Z8, Z9, Z10, Z11, Z12, Z13] at h35
           all_goals (
            refine HC_skip ?_; refine HQ_blockN ?_; refine HQ_then ?_; refine hK25 _ _ _ _ ?_; clear hK25 K25; refine HC_region ?_; refine HL_r rfl rfl rfl rfl (R_move rfl) ?_; refine HL_r rfl rfl rfl rfl (R_pure rfl rfl rfl) ?_; refine HL_wrap_i64 (by omega) (by omega) ?_; refine HL_r rfl rfl rfl rfl (R_assign rfl) ?_; refine HL_nil ?_; refine HQ_then ?_
            exact HQ_again (i + 1) ⟨by omega, fun j y hj hy => by
              rcases Nat.lt_succ_iff_lt_or_eq.1 hj with h | rfl
              · exact hinv j y h hy
              · obtain rfl := Option.some.inj (hx.symm.trans hy); simp_all; all_goals first | done | omega | trace_state⟩ (by omega) (.cons rfl (.cons rfl .nil)) (List.Sublist.refl _) (fun _ _ h => h)
            skip)
         skip)
      · try exact Bool.noConfusion h24
        try simp only [Z1, Z2, Z3, Z4, Z5, Z6, Z7, Z8, Z9, Z10, Z11, Z12, Z13] at h24
        refine HC_exit ?_; refine HQ_thenE ?_; clear hK22 K22; refine HQ_thenE ?_; refine HQ_blockE ?_; refine HQ_then ?_; refine hK20 _ _ _ _ ?_; clear hK20 K20; refine HC_seq fun K37 hK37 => ?_; refine HC_region ?_; refine HL_r rfl rfl rfl rfl (R_assign rfl) ?_; refine HL_nil ?_; refine HQ_then ?_; refine hK37 _ _ _ _ ?_; clear hK37 K37; refine HC_ret ?_; refine HQ_post rfl rfl (.cons (res_tmp rfl) .nil) (fun w1 hs1 => ?_); rw [h2 h0 (fun j y hy => hinv j y (by have := (List.getElem?_eq_some_iff.1 hy).1; omega) hy)]; exact ⟨rfl, hs1.keep⟩
      skip)
   skip)
set_option maxRecDepth 10000 in
theorem S_Few {R : List (Nat × Obj)} {s : StL} (hs : s.In R) : PureR Tryz.prog 14 [s.val].toArray (.bool (fewS s.er)) R := by
  have hl := hs.len
  have hseg := hs.seg
  obtain ⟨⟨rb, rn⟩, hres⟩ : ∃ b, b = fewG 0 0 s.er := ⟨_, rfl⟩
  have hfs : fewS s.er = (rb && (decide (s.accts.length ≤ 40) && decide (rn ≤ 40))) := by unfold fewS; rw [← hres, s.er_len]
  rw [hfs]; refine pureR_of_HC Tryz.func14 rfl rfl fun w => ?_; refine HC_seq fun K1 hK1 => ?_; refine HC_region ?_; refine HL_box (cs := s.cells.toArray) rfl rfl rfl rfl fun r1 => ?_; refine HL_r rfl rfl rfl rfl (R_assign rfl) ?_; refine HL_nil ?_; refine HQ_then ?_; refine hK1 _ _ _ _ ?_; clear hK1 K1; refine HC_seq fun K2 hK2 => ?_; refine HC_region ?_; refine HL_r rfl rfl rfl rfl (R_assign rfl) ?_; refine HL_nil ?_; refine HQ_then ?_; refine hK2 _ _ _ _ ?_; clear hK2 K2; refine HC_seq fun K3 hK3 => ?_; refine HC_seq fun K4 hK4 => ?_; refine HC_region ?_; refine HL_r rfl rfl rfl rfl (R_assign rfl) ?_; refine HL_nil ?_; refine HQ_then ?_; refine hK4 _ _ _ _ ?_; clear hK4 K4; refine HC_block ?_; refine HC_loop (σ := Nat × Int) (fun q => q.1 ≤ s.accts.length ∧ 0 ≤ q.2 ∧ q.2 ≤ 20 * q.1 ∧ q.1 ≤ 41 ∧ fewG q.1 q.2 (s.er.drop q.1) = (rb, rn)) (fun q => [(1, .pointer (some ⟨r1, 0, none⟩)), (3, .int .i64 q.2), (4, .int .i64 (q.1 : Int))]) (fun _ => [(r1, .cells s.cells.toArray 24 (0, 0))]) (fun _ _ _ => True) (fun q => s.accts.length - q.1) (0, 0) ⟨Nat.zero_le _, by omega, by omega, by omega, hres.symm⟩ (.cons rfl (.cons rfl (.cons rfl .nil))) (List.Sublist.refl _) (fun _ _ h => h) ?_; rintro ⟨i, n⟩ ⟨hi1, hn0, hn1, hi41, hinv⟩; simp only at hi1 hn0 hn1 hi41 hinv; change HC _ _ [(1, _), (3, .int .i64 n), (4, .int .i64 (i : Int))] _ _ _ _; refine HC_seq fun K5 hK5 => ?_; refine HC_seq fun K6 hK6 => ?_; refine HC_region ?_; refine HL_r rfl rfl rfl rfl (R_move rfl) ?_
  refine HL_r rfl rfl rfl rfl (R_fieldAddr rfl rfl (by first | (simp only [Nat.zero_add, Nat.reduceAdd, Nat.reduceMul, Nat.zero_mul, Nat.mul_one, Nat.add_zero]; exact rfl) | exact rfl)) ?_; refine HL_r rfl rfl rfl rfl (R_load rfl (known_L (k := 0) rfl) rfl rfl) ?_; refine HL_r rfl rfl rfl rfl (R_lenPl rfl hseg rfl) ?_; refine HL_r rfl rfl rfl rfl (R_pure rfl rfl rfl) ?_; refine HL_r rfl rfl rfl rfl (R_move rfl) ?_
  refine HL_case 11 rfl (fun hb7 => ?_) (fun hb7 => ?_) <;> (try simp only [Z1, Z2, Z3, Z4, Z5, Z6, Z7, Z8, Z9, Z10, Z11, Z12, Z13] at hb7) <;> first | (refine HL_r rfl rfl rfl rfl (R_move rfl) ?_) | (refine HL_skip rfl rfl rfl ?_)
  all_goals first
    | (refine HL_r rfl rfl rfl rfl (R_pure rfl rfl rfl) ?_)
    | (refine HL_skip rfl rfl rfl ?_)
  all_goals first
    | (refine HL_r rfl rfl rfl rfl (R_pickT rfl rfl) ?_)
    | (refine HL_r rfl rfl rfl rfl (R_pickF rfl rfl) ?_)
  all_goals refine HL_nil ?_
  all_goals (
   refine HQ_then ?_; refine hK6 _ _ _ _ ?_; clear hK6 K6; refine HC_cond rfl (fun h9 => ?_) (fun h9 => ?_)
   · try exact Bool.noConfusion h9
     all_goals try simp only [Z1, Z2, Z3, Z4, Z5, Z6, Z7, Z8, Z9, Z10, Z11, Z12, Z13] at h9
     all_goals (
      refine HC_skip ?_; refine HQ_then ?_; refine hK5 _ _ _ _ ?_; clear hK5 K5; refine HC_seq fun K10 hK10 => ?_; refine HC_block ?_; refine HC_seq fun K11 hK11 => ?_
      obtain ⟨a, ha, hma⟩ := getI (show i < s.accts.length by omega)
      have ha2 := hs.accts a hma
      have hi40 : i ≤ 40 := by simp_all <;> omega
      refine HC_region ?_
      refine HL_r rfl rfl rfl rfl (R_fieldAddr rfl rfl (by first | (simp only [Nat.zero_add, Nat.reduceAdd, Nat.reduceMul, Nat.zero_mul, Nat.mul_one, Nat.add_zero]; exact rfl) | exact rfl)) ?_; refine HL_r rfl rfl rfl rfl (R_load rfl (known_L (k := 0) rfl) rfl rfl) ?_; refine HL_r rfl rfl rfl rfl (R_move rfl) ?_
      refine HL_r rfl rfl rfl rfl (R_indexPl (j := i) rfl hseg rfl rfl rfl (by first | rfl | omega) (by omega)) ?_; refine HL_r rfl rfl rfl rfl (R_loadEl AcL.len (fun q hq => Or.inr hq) rfl hseg ha rfl rfl) ?_; refine HL_callR rfl rfl rfl (enters_of Tryz.func43 (by kernel_rfl) rfl) (S_FewAcct ha2) (fun q hq => Or.inr hq) ?_; refine HL_r rfl rfl rfl rfl (R_assign rfl) ?_; refine HL_nil ?_; refine HQ_then ?_; refine hK11 _ _ _ _ ?_; clear hK11 K11; refine HC_seq fun K12 hK12 => ?_; refine HC_seq fun K13 hK13 => ?_; refine HC_region ?_; refine HL_r rfl rfl rfl rfl (R_move rfl) ?_; refine HL_r rfl rfl rfl rfl (R_pure rfl rfl rfl) ?_; refine HL_nil ?_; refine HQ_then ?_; refine hK13 _ _ _ _ ?_; clear hK13 K13; refine HC_cond rfl (fun h14 => ?_) (fun h14 => ?_)
      · try exact Bool.noConfusion h14
        try simp only [Z1, Z2, Z3, Z4, Z5, Z6, Z7, Z8, Z9, Z10, Z11, Z12, Z13] at h14
        refine HC_seq fun K15 hK15 => ?_; refine HC_region ?_; refine HL_r rfl rfl rfl rfl (R_assign rfl) ?_; refine HL_nil ?_; refine HQ_then ?_; refine hK15 _ _ _ _ ?_; clear hK15 K15; refine HC_ret ?_; refine HQ_thenR ?_; clear hK12 K12; refine HQ_blockR ?_; refine HQ_thenR ?_; clear hK10 K10; refine HQ_thenR ?_; refine HQ_blockR ?_; refine HQ_thenR ?_; clear hK3 K3; refine HQ_post rfl rfl (.cons (res_tmp rfl) .nil) (fun w1 hs1 => ?_)
        (have hff : fewA a.er = false := by simp_all
         have h1 := few_no (n := n) (er_get ha) hi40 hff
         rw [hinv] at h1
         rw [show rb = false from h1]; exact ⟨rfl, hs1.keep⟩)
      · try exact Bool.noConfusion h14
        try simp only [Z1, Z2, Z3, Z4, Z5, Z6, Z7, Z8, Z9, Z10, Z11, Z12, Z13] at h14
        refine HC_skip ?_; refine HQ_then ?_; refine hK12 _ _ _ _ ?_; clear hK12 K12
        have hft : fewA a.er = true := by simp_all
        have h20 := few_len hft
        have h20 : a.slots.length ≤ 20 := h20
        rw [few_step (er_get ha) hi40 hft] at hinv; refine HC_region ?_; refine HL_r rfl rfl rfl rfl (R_move rfl) ?_
        refine HL_r rfl rfl rfl rfl (R_fieldAddr rfl rfl (by first | (simp only [Nat.zero_add, Nat.reduceAdd, Nat.reduceMul, Nat.zero_mul, Nat.mul_one, Nat.add_zero]; exact rfl) | exact rfl)) ?_; refine HL_r rfl rfl rfl rfl (R_load rfl (known_L (k := 0) rfl) rfl rfl) ?_; refine HL_r rfl rfl rfl rfl (R_move rfl) ?_
        refine HL_r rfl rfl rfl rfl (R_indexPl (j := i) rfl hseg rfl rfl rfl (by first | rfl | omega) (by omega)) ?_; refine HL_r rfl rfl rfl rfl (R_fieldAddr (off' := plO s.p + (i * 8 + 7)) rfl rfl (by show plO s.p + i * 8 + 7 = _; omega)) ?_; refine HL_r rfl rfl rfl rfl (R_loadEf AcL.len (k := 7) (v := plV a.slots.length a.p) (fun q hq => Or.inr hq) rfl hseg ha rfl rfl) ?_; refine HL_r rfl rfl rfl rfl (R_lenPl rfl ha2.seg rfl) ?_; refine HL_r rfl rfl rfl rfl (R_pure rfl rfl rfl) ?_; refine HL_wrap_i64 (by omega) (by omega) ?_; refine HL_r rfl rfl rfl rfl (R_assign rfl) ?_; refine HL_nil ?_; refine HQ_blockN ?_; refine HQ_then ?_; refine hK10 _ _ _ _ ?_; clear hK10 K10; refine HC_region ?_; refine HL_r rfl rfl rfl rfl (R_move rfl) ?_; refine HL_r rfl rfl rfl rfl (R_pure rfl rfl rfl) ?_; refine HL_wrap_i64 (by omega) (by omega) ?_; refine HL_r rfl rfl rfl rfl (R_assign rfl) ?_; refine HL_nil ?_; refine HQ_then ?_; exact HQ_again (i + 1, n + (a.slots.length : Int)) ⟨by simp only; omega, by simp only; omega, by simp only; omega, by simp only; omega, hinv⟩ (by simp only; omega) (.cons rfl (.cons rfl (.cons rfl .nil))) (List.Sublist.refl _) (fun _ _ h => h)
      skip)
   · try exact Bool.noConfusion h9
     try simp only [Z1, Z2, Z3, Z4, Z5, Z6, Z7, Z8, Z9, Z10, Z11, Z12, Z13] at h9
     refine HC_exit ?_; refine HQ_thenE ?_; clear hK5 K5; refine HQ_thenE ?_; refine HQ_blockE ?_; refine HQ_then ?_; refine hK3 _ _ _ _ ?_; clear hK3 K3; refine HC_seq fun K16 hK16 => ?_; refine HC_region ?_
     refine HL_r rfl rfl rfl rfl (R_fieldAddr rfl rfl (by first | (simp only [Nat.zero_add, Nat.reduceAdd, Nat.reduceMul, Nat.zero_mul, Nat.mul_one, Nat.add_zero]; exact rfl) | exact rfl)) ?_; refine HL_r rfl rfl rfl rfl (R_load rfl (known_L (k := 0) rfl) rfl rfl) ?_; refine HL_r rfl rfl rfl rfl (R_lenPl rfl hseg rfl) ?_; refine HL_r rfl rfl rfl rfl (R_pure rfl rfl rfl) ?_; refine HL_r rfl rfl rfl rfl (R_move rfl) ?_
     refine HL_case 38 rfl (fun hb17 => ?_) (fun hb17 => ?_) <;> (try simp only [Z1, Z2, Z3, Z4, Z5, Z6, Z7, Z8, Z9, Z10, Z11, Z12, Z13] at hb17) <;> first | (refine HL_r rfl rfl rfl rfl (R_move rfl) ?_) | (refine HL_skip rfl rfl rfl ?_)
     all_goals first
       | (refine HL_r rfl rfl rfl rfl (R_pure rfl rfl rfl) ?_)
       | (refine HL_skip rfl rfl rfl ?_)
     all_goals first
       | (refine HL_r rfl rfl rfl rfl (R_pickT rfl rfl) ?_)
       | (refine HL_r rfl rfl rfl rfl (R_pickF rfl rfl) ?_)
     all_goals refine HL_r rfl rfl rfl rfl (R_assign rfl) ?_
     all_goals refine HL_nil ?_
     all_goals (
      refine HQ_then ?_; refine hK16 _ _ _ _ ?_; clear hK16 K16; refine HC_ret ?_; refine HQ_post rfl rfl (.cons (res_tmp rfl) .nil) (fun w1 hs1 => ?_)
      first
        | (have hff : fewA a.er = false := by simp_all
           have h1 := few_no (n := n) (er_get ha) hi40 hff
           rw [hinv] at h1
           rw [show rb = false from h1]; exact ⟨rfl, hs1.keep⟩)
        | (rw [few_stop (by rw [s.er_len]; omega)] at hinv
           obtain ⟨rfl, rfl⟩ := Prod.mk.inj hinv
           refine ⟨?_, hs1.keep⟩
           simp [resVal]
           all_goals first | done | omega | trace_state)
        | trace_state
      skip)
   skip)
end Go.Proofs.YtnkmbkndpoghdaaGreat
namespace Go.Proofs.YtnkmbkndpoghdaaGreat
set_option linter.all false
open Go.SL Go.RowKit Go.Shelf
theorem u64_lt {n : Nat} (h : n < 1000) : U64 n := by unfold U64; omega
theorem pair0 {p : List AcE × Int} (h : p.2 = 0) : p = (p.1, 0) := by
  obtain ⟨a, b⟩ := p
  cases h; rfl
theorem as_read {f : Int} {s : List AcE} {r : Rec} {e : Int} (h : readS f s = (r, e)) : Value.tuple #[(readS f s).1.val, .int .i64 (readS f s).2] = .tuple #[r.val, .int .i64 e] := by rw [h]
theorem as_int {a b : Int} (h : a = b) : Value.int .i64 a = .int .i64 b := congrArg _ h
theorem as_bool {a b : Bool} (h : a = b) : Value.bool a = .bool b := congrArg _ h
end Go.Proofs.YtnkmbkndpoghdaaGreat
namespace Go.Proofs.YtnkmbkndpoghdaaGreat
set_option linter.all false
open Go.SL Go.RowKit Go.Shelf
end Go.Proofs.YtnkmbkndpoghdaaGreat
namespace Go.Proofs.YtnkmbkndpoghdaaGreat
set_option linter.all false
open Go.SL Go.RowKit Go.Shelf
/-! ### migrate: changes, turn, Turn, Turns -/
set_option maxRecDepth 10000 in
theorem P_way (f g : Int) : Pure Tryz.prog 76 [.int .i64 f, .int .i64 g].toArray (.bool (decide (SL.Way f g))) := by
  have e : decide (SL.Way f g) = (decide (f ≥ 0) && (decide (f ≤ g) && decide (g ≤ 5))) := by
    rw [Bool.eq_iff_iff]; simp only [Bool.and_eq_true, decide_eq_true_eq, ge_iff_le]; exact Iff.rfl
  rw [e]; refine pure_of_HC Tryz.func76 rfl rfl fun w => ?_; refine HC_seq fun K1 hK1 => ?_; refine HC_region ?_; refine HL_r rfl rfl rfl rfl (R_assign rfl) ?_; refine HL_nil ?_; refine HQ_then ?_; refine hK1 _ _ _ _ ?_; clear hK1 K1; refine HC_seq fun K2 hK2 => ?_; refine HC_region ?_; refine HL_r rfl rfl rfl rfl (R_move rfl) ?_; refine HL_r rfl rfl rfl rfl (R_pure rfl rfl rfl) ?_; refine HL_r rfl rfl rfl rfl (R_move rfl) ?_
  refine HL_case 7 rfl (fun hb3 => ?_) (fun hb3 => ?_) <;> (try simp only [Z1, Z2, Z3, Z4, Z5, Z6, Z7, Z8, Z9, Z10, Z11, Z12, Z13] at hb3) <;> first | (refine HL_r rfl rfl rfl rfl (R_move rfl) ?_) | (refine HL_skip rfl rfl rfl ?_)
  all_goals first
    | (refine HL_r rfl rfl rfl rfl (R_move rfl) ?_)
    | (refine HL_skip rfl rfl rfl ?_)
  all_goals first
    | (refine HL_r rfl rfl rfl rfl (R_pure rfl rfl rfl) ?_)
    | (refine HL_skip rfl rfl rfl ?_)
  all_goals first
    | (refine HL_r rfl rfl rfl rfl (R_pickT rfl rfl) ?_)
    | (refine HL_r rfl rfl rfl rfl (R_pickF rfl rfl) ?_)
  all_goals refine HL_r rfl rfl rfl rfl (R_move rfl) ?_
  all_goals first
    | (refine HL_skip rfl rfl rfl ?_)
    | (refine HL_case 12 rfl (fun hb6 => ?_) (fun hb6 => ?_) <;> (try simp only [Z1, Z2, Z3, Z4, Z5, Z6, Z7, Z8, Z9, Z10, Z11, Z12, Z13] at hb6) <;> first | (refine HL_r rfl rfl rfl rfl (R_move rfl) ?_) | (refine HL_skip rfl rfl rfl ?_))
  all_goals first
    | (refine HL_r rfl rfl rfl rfl (R_pure rfl rfl rfl) ?_)
    | (refine HL_skip rfl rfl rfl ?_)
  all_goals first
    | (refine HL_r rfl rfl rfl rfl (R_pickT rfl rfl) ?_)
    | (refine HL_r rfl rfl rfl rfl (R_pickF rfl rfl) ?_)
  all_goals refine HL_r rfl rfl rfl rfl (R_assign rfl) ?_
  all_goals refine HL_nil ?_
  all_goals (
   refine HQ_then ?_; refine hK2 _ _ _ _ ?_; clear hK2 K2; refine HC_ret ?_; refine HQ_post rfl rfl (.cons (res_tmp rfl) .nil) (fun w1 hs1 => ?_); refine ⟨?_, hs1.keep⟩
   simp_all [resVal]
   all_goals first | done | omega | trace_state
   skip)
def chM : Array MapEntry := #[⟨.int .i64 3, .func (.func 128) #[] #[], 0⟩, ⟨.int .i64 5, .func (.func 129) #[] #[], 1⟩]
theorem chM_dom : ∀ e ∈ chM.toList, isI e.key := by
  intro e he
  have he : e ∈ [(⟨.int .i64 3, .func (.func 128) #[] #[], 0⟩ : MapEntry), ⟨.int .i64 5, .func (.func 129) #[] #[], 1⟩] := he
  rcases List.mem_cons.1 he with rfl | he
  · exact ⟨3, rfl⟩
  · rw [List.mem_singleton.1 he]; exact ⟨5, rfl⟩
set_option maxRecDepth 10000 in
theorem E_changes : PureE (α := Nat) Tryz.prog 104 [].toArray (fun m => .map (some m)) (fun m => [(m, .map chM 2)]) := by
  refine pureE_of_HC Tryz.func104 rfl rfl fun w => ?_; refine HC_seq fun K1 hK1 => ?_; refine HC_region ?_; refine HL_r rfl rfl rfl rfl (R_assign rfl) ?_; refine HL_nil ?_; refine HQ_then ?_; refine hK1 _ _ _ _ ?_; clear hK1 K1; refine HC_seq fun K2 hK2 => ?_; refine HC_region ?_; refine HL_makeMap rfl rfl fun rm => ?_; refine HL_insert (q := 0) (key := .int .i64 3) (val := .func (.func 128) #[] #[]) (keyI (t := 3) (by kernel_rfl)) rfl rfl rfl rfl rfl rfl ⟨_, rfl⟩ (by intro e he; simp at he) rfl rfl ?_; refine HL_insert (q := 0) (key := .int .i64 5) (val := .func (.func 129) #[] #[]) (keyI (t := 3) (by kernel_rfl)) rfl rfl rfl rfl rfl rfl ⟨_, rfl⟩ (by intro e he; simp at he; rw [he]; exact ⟨_, rfl⟩) rfl rfl ?_; refine HL_r rfl rfl rfl rfl (R_move rfl) ?_; refine HL_r rfl rfl rfl rfl (R_assign rfl) ?_; refine HL_nil ?_; refine HQ_then ?_; refine hK2 _ _ _ _ ?_; clear hK2 K2; refine HC_ret ?_; refine HQ_post rfl rfl (.cons (res_tmp rfl) .nil) (fun w1 hs1 => ?_); exact ⟨rm, rfl, hs1⟩
set_option maxRecDepth 10000 in
theorem T_ch1 (ρ : Nat) (r : Rec) : PureT (α := Unit) Tryz.prog 128 [ptV ρ 0].toArray (fun _ => .tuple #[]) [(ρ, .cells r.cells.toArray 29 (0, 0))] (fun _ => [(ρ, .cells (Rec.cells { r with overhead := w40, extra := 0, blob := wN1 1 }).toArray 29 (0, 0))]) [] := by
  refine pureT_of_HC Tryz.func128 rfl rfl fun w => ?_; refine HC_region ?_; refine HL_r rfl rfl rfl rfl (R_move rfl) ?_; refine HL_r rfl rfl rfl rfl (R_move rfl) ?_; refine HL_r rfl rfl rfl rfl (R_move rfl) ?_; refine HL_r rfl rfl rfl rfl (R_build (r := [_, _, _, _]) rfl rfl) ?_; refine HL_callP rfl rfl rfl (enters_of Tryz.func103 (by kernel_rfl) rfl) (P_word_Of 1) ?_; refine HL_r rfl rfl rfl rfl (R_pure rfl rfl rfl) ?_
  refine HL_r rfl rfl rfl rfl (R_fieldAddr rfl rfl (by first | (simp only [Nat.zero_add, Nat.reduceAdd, Nat.reduceMul, Nat.zero_mul, Nat.mul_one, Nat.add_zero]; exact rfl) | exact rfl)) ?_; refine HL_storeA (k := 0) (n := 4) (vs := (w40.l.map uV).toArray) (cs' := (Rec.cells { r with overhead := w40 }).toArray) rfl rfl rfl rfl rfl rfl rfl (by exact Nat.le_of_ble_eq_true rfl) rfl rfl ?_; refine HL_r rfl rfl rfl rfl (R_pure rfl rfl rfl) ?_
  refine HL_r rfl rfl rfl rfl (R_fieldAddr rfl rfl (by first | (simp only [Nat.zero_add, Nat.reduceAdd, Nat.reduceMul, Nat.zero_mul, Nat.mul_one, Nat.add_zero]; exact rfl) | exact rfl)) ?_; refine HL_store (k := 0) (cs' := (Rec.cells { r with overhead := w40, extra := 0 }).toArray) rfl rfl rfl rfl rfl rfl rfl rfl rfl rfl ?_; refine HL_r rfl rfl rfl rfl (R_pure rfl rfl rfl) ?_
  refine HL_r rfl rfl rfl rfl (R_fieldAddr rfl rfl (by first | (simp only [Nat.zero_add, Nat.reduceAdd, Nat.reduceMul, Nat.zero_mul, Nat.mul_one, Nat.add_zero]; exact rfl) | exact rfl)) ?_; refine HL_storeA (k := 0) (n := 4) (vs := ((wN1 1).l.map uV).toArray) (cs' := (Rec.cells { r with overhead := w40, extra := 0, blob := wN1 1 }).toArray) rfl rfl rfl rfl rfl rfl rfl (by exact Nat.le_of_ble_eq_true rfl) rfl rfl ?_; refine HL_nil ?_; refine HQ_postN rfl rfl .nil (fun w1 hs1 => ?_); exact ⟨(), rfl, hs1⟩
set_option maxRecDepth 10000 in
theorem T_ch2 (ρ : Nat) (r : Rec) : PureT (α := Unit) Tryz.prog 129 [ptV ρ 0].toArray (fun _ => .tuple #[]) [(ρ, .cells r.cells.toArray 29 (0, 0))] (fun _ => [(ρ, .cells (Rec.cells { r with operator := 1 }).toArray 29 (0, 0))]) [] := by
  refine pureT_of_HC Tryz.func129 rfl rfl fun w => ?_; refine HC_region ?_; refine HL_r rfl rfl rfl rfl (R_move rfl) ?_; refine HL_r rfl rfl rfl rfl (R_pure rfl rfl rfl) ?_
  refine HL_r rfl rfl rfl rfl (R_fieldAddr rfl rfl (by first | (simp only [Nat.zero_add, Nat.reduceAdd, Nat.reduceMul, Nat.zero_mul, Nat.mul_one, Nat.add_zero]; exact rfl) | exact rfl)) ?_; refine HL_store (k := 0) (cs' := (Rec.cells { r with operator := 1 }).toArray) rfl rfl rfl rfl rfl rfl rfl rfl rfl rfl ?_; refine HL_nil ?_; refine HQ_postN rfl rfl .nil (fun w1 hs1 => ?_); exact ⟨(), rfl, hs1⟩
set_option maxRecDepth 10000 in
theorem P_turn2 (r : Rec) : Pure Tryz.prog 77 [.int .i64 2, r.val].toArray (turnE 2 r).val := by
  refine pure_of_HC Tryz.func77 rfl rfl fun w => ?_; refine HC_seq fun K1 hK1 => ?_; refine HC_region ?_; refine HL_box (cs := r.cells.toArray) rfl rfl rfl rfl fun rb => ?_; refine HL_alloc (cs := #[_, _, _, _, _, _, _, _, _, _, _, _, _, _, _, _, _]) rfl rfl rfl rfl fun r1 => ?_; refine HL_nil ?_; refine HQ_then ?_; refine hK1 _ _ _ _ ?_; clear hK1 K1; refine HC_seq fun K2 hK2 => ?_; refine HC_seq fun K3 hK3 => ?_; refine HC_region ?_; refine HL_callPE rfl rfl rfl (enters_of Tryz.func104 (by kernel_rfl) rfl) E_changes fun m => ?_; change HL _ _ _ ((m, .map chM 2) :: _) _ _ _ _; refine HL_r rfl rfl rfl rfl (R_move rfl) ?_; refine HL_r rfl rfl rfl rfl (R_pure rfl rfl rfl) ?_; refine HL_wrap_i64 (by omega) (by omega) ?_; refine HL_r rfl rfl rfl rfl (R_lookup (v := .func (.func 128) #[] #[]) (keyI (t := 3) (by kernel_rfl)) rfl rfl (known_L (k := 0) rfl) rfl rfl ⟨_, rfl⟩ chM_dom (by rfl)) ?_; refine HL_r rfl rfl rfl rfl (R_assign rfl) ?_; refine HL_nil ?_; refine HQ_then ?_; refine hK3 _ _ _ _ ?_; clear hK3 K3; refine HC_seq fun K4 hK4 => ?_; refine HC_region ?_; refine HL_r rfl rfl rfl rfl (R_move rfl) ?_; refine HL_r rfl rfl rfl rfl (R_pure rfl rfl rfl) ?_; refine HL_nil ?_; refine HQ_then ?_; refine hK4 _ _ _ _ ?_; clear hK4 K4; refine HC_cond rfl (fun h5 => ?_) (fun h5 => ?_)
  · try exact Bool.noConfusion h5
    try simp only [Z1, Z2, Z3, Z4, Z5, Z6, Z7, Z8, Z9, Z10, Z11, Z12, Z13] at h5
    refine HC_region ?_; refine HL_r rfl rfl rfl rfl (R_move rfl) ?_; refine HL_callT (T := [(rb, .cells r.cells.toArray 29 (0, 0))]) (L0 := [(m, _), (r1, _)]) (Rl := []) (List.perm_append_comm (l₁ := [_, _])) rfl rfl rfl (enters_of Tryz.func128 (by kernel_rfl) rfl) (T_ch1 rb r) (fun q hq => nomatch hq) fun u => ?_; refine HL_perm (L' := [(m, _), (r1, _), (rb, _)]) (List.perm_append_comm (l₁ := [_])) ?_; refine HL_nil ?_; refine HQ_then ?_; refine hK2 _ _ _ _ ?_; clear hK2 K2; refine HC_seq fun K6 hK6 => ?_; refine HC_region ?_; refine HL_r rfl rfl rfl rfl (R_loadArr (xs := (turnE 2 r).cells) (n := 17) rfl (known_L (k := 2) rfl) rfl rfl rfl) ?_; refine HL_storeArr (k := 1) (n := 17) (ys := (turnE 2 r).cells) rfl rfl rfl rfl rfl rfl rfl rfl rfl ?_; refine HL_nil ?_; refine HQ_then ?_; refine hK6 _ _ _ _ ?_; clear hK6 K6; refine HC_ret ?_; refine HQ_post rfl rfl (.cons (res_cellA (vs := [_, _, _, _, _, _, _, _, _, _, _, _, _, _, _, _, _]) rfl (known_L (k := 1) rfl) rfl rfl) .nil) (fun w1 hs1 => ?_); exact ⟨rfl, hs1.keep⟩
  · try exact Bool.noConfusion h5
set_option maxRecDepth 10000 in
theorem P_turn4 (r : Rec) : Pure Tryz.prog 77 [.int .i64 4, r.val].toArray (turnE 4 r).val := by
  refine pure_of_HC Tryz.func77 rfl rfl fun w => ?_; refine HC_seq fun K1 hK1 => ?_; refine HC_region ?_; refine HL_box (cs := r.cells.toArray) rfl rfl rfl rfl fun rb => ?_; refine HL_alloc (cs := #[_, _, _, _, _, _, _, _, _, _, _, _, _, _, _, _, _]) rfl rfl rfl rfl fun r1 => ?_; refine HL_nil ?_; refine HQ_then ?_; refine hK1 _ _ _ _ ?_; clear hK1 K1; refine HC_seq fun K2 hK2 => ?_; refine HC_seq fun K3 hK3 => ?_; refine HC_region ?_; refine HL_callPE rfl rfl rfl (enters_of Tryz.func104 (by kernel_rfl) rfl) E_changes fun m => ?_; change HL _ _ _ ((m, .map chM 2) :: _) _ _ _ _; refine HL_r rfl rfl rfl rfl (R_move rfl) ?_; refine HL_r rfl rfl rfl rfl (R_pure rfl rfl rfl) ?_; refine HL_wrap_i64 (by omega) (by omega) ?_; refine HL_r rfl rfl rfl rfl (R_lookup (v := .func (.func 129) #[] #[]) (keyI (t := 3) (by kernel_rfl)) rfl rfl (known_L (k := 0) rfl) rfl rfl ⟨_, rfl⟩ chM_dom (by rfl)) ?_; refine HL_r rfl rfl rfl rfl (R_assign rfl) ?_; refine HL_nil ?_; refine HQ_then ?_; refine hK3 _ _ _ _ ?_; clear hK3 K3; refine HC_seq fun K4 hK4 => ?_; refine HC_region ?_; refine HL_r rfl rfl rfl rfl (R_move rfl) ?_; refine HL_r rfl rfl rfl rfl (R_pure rfl rfl rfl) ?_; refine HL_nil ?_; refine HQ_then ?_; refine hK4 _ _ _ _ ?_; clear hK4 K4; refine HC_cond rfl (fun h5 => ?_) (fun h5 => ?_)
  · try exact Bool.noConfusion h5
    try simp only [Z1, Z2, Z3, Z4, Z5, Z6, Z7, Z8, Z9, Z10, Z11, Z12, Z13] at h5
    refine HC_region ?_; refine HL_r rfl rfl rfl rfl (R_move rfl) ?_; refine HL_callT (T := [(rb, .cells r.cells.toArray 29 (0, 0))]) (L0 := [(m, _), (r1, _)]) (Rl := []) (List.perm_append_comm (l₁ := [_, _])) rfl rfl rfl (enters_of Tryz.func129 (by kernel_rfl) rfl) (T_ch2 rb r) (fun q hq => nomatch hq) fun u => ?_; refine HL_perm (L' := [(m, _), (r1, _), (rb, _)]) (List.perm_append_comm (l₁ := [_])) ?_; refine HL_nil ?_; refine HQ_then ?_; refine hK2 _ _ _ _ ?_; clear hK2 K2; refine HC_seq fun K6 hK6 => ?_; refine HC_region ?_; refine HL_r rfl rfl rfl rfl (R_loadArr (xs := (turnE 4 r).cells) (n := 17) rfl (known_L (k := 2) rfl) rfl rfl rfl) ?_; refine HL_storeArr (k := 1) (n := 17) (ys := (turnE 4 r).cells) rfl rfl rfl rfl rfl rfl rfl rfl rfl ?_; refine HL_nil ?_; refine HQ_then ?_; refine hK6 _ _ _ _ ?_; clear hK6 K6; refine HC_ret ?_; refine HQ_post rfl rfl (.cons (res_cellA (vs := [_, _, _, _, _, _, _, _, _, _, _, _, _, _, _, _, _]) rfl (known_L (k := 1) rfl) rfl rfl) .nil) (fun w1 hs1 => ?_); exact ⟨rfl, hs1.keep⟩
  · try exact Bool.noConfusion h5
set_option maxRecDepth 10000 in
theorem P_turnN {f : Int} (hf : 0 ≤ f ∧ f ≤ 4) (h2 : f ≠ 2) (h4 : f ≠ 4) (r : Rec) : Pure Tryz.prog 77 [.int .i64 f, r.val].toArray (turnE f r).val := by
  have e : turnE f r = r := by unfold turnE; rw [if_neg h2, if_neg h4]
  rw [e]
  have hl : (mapGet intEq (.int .i64 (f + 1)) (chM.toList.map kvOf)).getD .nilFunc = .nilFunc := by
    rcases (show f = 0 ∨ f = 1 ∨ f = 3 by omega) with rfl | rfl | rfl <;> rfl
  refine pure_of_HC Tryz.func77 rfl rfl fun w => ?_; refine HC_seq fun K1 hK1 => ?_; refine HC_region ?_; refine HL_box (cs := r.cells.toArray) rfl rfl rfl rfl fun rb => ?_; refine HL_alloc (cs := #[_, _, _, _, _, _, _, _, _, _, _, _, _, _, _, _, _]) rfl rfl rfl rfl fun r1 => ?_; refine HL_nil ?_; refine HQ_then ?_; refine hK1 _ _ _ _ ?_; clear hK1 K1; refine HC_seq fun K2 hK2 => ?_; refine HC_seq fun K3 hK3 => ?_; refine HC_region ?_; refine HL_callPE rfl rfl rfl (enters_of Tryz.func104 (by kernel_rfl) rfl) E_changes fun m => ?_; change HL _ _ _ ((m, .map chM 2) :: _) _ _ _ _; refine HL_r rfl rfl rfl rfl (R_move rfl) ?_; refine HL_r rfl rfl rfl rfl (R_pure rfl rfl rfl) ?_; refine HL_wrap_i64 (by omega) (by omega) ?_; refine HL_r rfl rfl rfl rfl (R_lookup (v := .nilFunc) (keyI (t := 3) (by kernel_rfl)) rfl rfl (known_L (k := 0) rfl) rfl rfl ⟨_, rfl⟩ chM_dom (hl)) ?_; refine HL_r rfl rfl rfl rfl (R_assign rfl) ?_; refine HL_nil ?_; refine HQ_then ?_; refine hK3 _ _ _ _ ?_; clear hK3 K3; refine HC_seq fun K4 hK4 => ?_; refine HC_region ?_; refine HL_r rfl rfl rfl rfl (R_move rfl) ?_; refine HL_r rfl rfl rfl rfl (R_pure rfl rfl rfl) ?_; refine HL_nil ?_; refine HQ_then ?_; refine hK4 _ _ _ _ ?_; clear hK4 K4; refine HC_cond rfl (fun h5 => ?_) (fun h5 => ?_)
  · try exact Bool.noConfusion h5
  · try exact Bool.noConfusion h5
    try simp only [Z1, Z2, Z3, Z4, Z5, Z6, Z7, Z8, Z9, Z10, Z11, Z12, Z13] at h5
    refine HC_skip ?_; refine HQ_then ?_; refine hK2 _ _ _ _ ?_; clear hK2 K2; refine HC_seq fun K7 hK7 => ?_; refine HC_region ?_; refine HL_r rfl rfl rfl rfl (R_loadArr (xs := r.cells) (n := 17) rfl (known_L (k := 2) rfl) rfl rfl rfl) ?_; refine HL_storeArr (k := 1) (n := 17) (ys := (r).cells) rfl rfl rfl rfl rfl rfl rfl rfl rfl ?_; refine HL_nil ?_; refine HQ_then ?_; refine hK7 _ _ _ _ ?_; clear hK7 K7; refine HC_ret ?_; refine HQ_post rfl rfl (.cons (res_cellA (vs := [_, _, _, _, _, _, _, _, _, _, _, _, _, _, _, _, _]) rfl (known_L (k := 1) rfl) rfl rfl) .nil) (fun w1 hs1 => ?_); exact ⟨rfl, hs1.keep⟩
theorem P_turn {f : Int} (hf : 0 ≤ f ∧ f ≤ 4) (r : Rec) : Pure Tryz.prog 77 [.int .i64 f, r.val].toArray (turnE f r).val := by
  by_cases h2 : f = 2
  · subst h2; exact P_turn2 r
  · by_cases h4 : f = 4
    · subst h4; exact P_turn4 r
    · exact P_turnN hf h2 h4 r
set_option maxRecDepth 10000 in
theorem P_Turn (f : Int) (r : Rec) : Pure Tryz.prog 32 [.int .i64 f, r.val].toArray (.tuple #[(turnR f r).1.val, .int .i64 (turnR f r).2]) := by
  by_cases hf : f < 0 ∨ f > 4
  · have e : turnR f r = (rec0, 10) := by unfold turnR; rw [if_pos hf]
    rw [e]
    have hw : decide (SL.Way 0 f) = decide (f = 5) := by unfold SL.Way; rw [Bool.eq_iff_iff]; simp; omega
    refine pure_of_HC Tryz.func32 rfl rfl fun w => ?_; refine HC_seq fun K1 hK1 => ?_; refine HC_region ?_; refine HL_box (cs := r.cells.toArray) rfl rfl rfl rfl fun rb => ?_; refine HL_alloc (cs := #[_, _, _, _, _, _, _, _, _, _, _, _, _, _, _, _, _]) rfl rfl rfl rfl fun r1 => ?_; refine HL_r rfl rfl rfl rfl (R_assign rfl) ?_; refine HL_nil ?_; refine HQ_then ?_; refine hK1 _ _ _ _ ?_; clear hK1 K1; refine HC_seq fun K2 hK2 => ?_; refine HC_seq fun K3 hK3 => ?_; refine HC_region ?_; refine HL_r rfl rfl rfl rfl (R_move rfl) ?_; refine HL_callP rfl rfl rfl (enters_of Tryz.func76 (by kernel_rfl) rfl) (P_way 0 f) ?_; refine HL_as (as_bool hw) ?_; refine HL_r rfl rfl rfl rfl (R_pure rfl rfl rfl) ?_; refine HL_r rfl rfl rfl rfl (R_move rfl) ?_
    refine HL_case 10 rfl (fun hb4 => ?_) (fun hb4 => ?_) <;> (try simp only [Z1, Z2, Z3, Z4, Z5, Z6, Z7, Z8, Z9, Z10, Z11, Z12, Z13] at hb4) <;> first | (refine HL_r rfl rfl rfl rfl (R_move rfl) ?_) | (refine HL_skip rfl rfl rfl ?_)
    all_goals first
      | (refine HL_r rfl rfl rfl rfl (R_pure rfl rfl rfl) ?_)
      | (refine HL_skip rfl rfl rfl ?_)
    all_goals first
      | (refine HL_r rfl rfl rfl rfl (R_pickT rfl rfl) ?_)
      | (refine HL_r rfl rfl rfl rfl (R_pickF rfl rfl) ?_)
    all_goals refine HL_nil ?_
    all_goals (
     refine HQ_then ?_; refine hK3 _ _ _ _ ?_; clear hK3 K3; refine HC_cond rfl (fun h6 => ?_) (fun h6 => ?_)
     · try exact Bool.noConfusion h6
       try simp only [Z1, Z2, Z3, Z4, Z5, Z6, Z7, Z8, Z9, Z10, Z11, Z12, Z13] at h6
       refine HC_seq fun K7 hK7 => ?_; refine HC_region ?_; refine HL_r rfl rfl rfl rfl (R_build (r := [_, _, _, _, _, _, _, _, _, _, _, _, _, _, _, _, _]) rfl rfl) ?_; refine HL_storeArr (k := 0) (n := 17) (ys := (rec0).cells) rfl rfl rfl rfl rfl rfl rfl rfl rfl ?_; refine HL_r rfl rfl rfl rfl (R_assign rfl) ?_; refine HL_nil ?_; refine HQ_then ?_; refine hK7 _ _ _ _ ?_; clear hK7 K7; refine HC_ret ?_; refine HQ_thenR ?_; clear hK2 K2; refine HQ_post rfl rfl (.cons (res_cellA (vs := [_, _, _, _, _, _, _, _, _, _, _, _, _, _, _, _, _]) rfl (known_L (k := 0) rfl) rfl rfl) (.cons (res_tmp rfl) .nil)) (fun w1 hs1 => ?_); exact ⟨rfl, hs1.keep⟩
     · try exact Bool.noConfusion h6
       all_goals try simp only [Z1, Z2, Z3, Z4, Z5, Z6, Z7, Z8, Z9, Z10, Z11, Z12, Z13] at h6
       all_goals (
        refine HC_skip ?_; refine HQ_then ?_; refine hK2 _ _ _ _ ?_; clear hK2 K2; refine HC_seq fun K8 hK8 => ?_; refine HC_seq fun K9 hK9 => ?_; refine HC_region ?_; refine HL_r rfl rfl rfl rfl (R_move rfl) ?_; refine HL_r rfl rfl rfl rfl (R_loadA (vs := [_, _, _, _, _, _, _, _, _, _, _, _, _, _, _, _, _]) rfl (known_L (k := 1) rfl) rfl rfl rfl rfl) ?_
        exfalso; simp_all
        skip)
     skip)
  · have hf2 : 0 ≤ f ∧ f ≤ 4 := by omega
    have hw : decide (SL.Way 0 f) = true := decide_eq_true (show 0 ≤ 0 ∧ 0 ≤ f ∧ f ≤ 5 by omega)
    have e : turnR f r = if fitsE f r ≠ 0 then (rec0, fitsE f r) else (turnE f r, 0) := by unfold turnR; rw [if_neg hf]
    rw [e]; refine pure_of_HC Tryz.func32 rfl rfl fun w => ?_; refine HC_seq fun K1 hK1 => ?_; refine HC_region ?_; refine HL_box (cs := r.cells.toArray) rfl rfl rfl rfl fun rb => ?_; refine HL_alloc (cs := #[_, _, _, _, _, _, _, _, _, _, _, _, _, _, _, _, _]) rfl rfl rfl rfl fun r1 => ?_; refine HL_r rfl rfl rfl rfl (R_assign rfl) ?_; refine HL_nil ?_; refine HQ_then ?_; refine hK1 _ _ _ _ ?_; clear hK1 K1; refine HC_seq fun K2 hK2 => ?_; refine HC_seq fun K3 hK3 => ?_; refine HC_region ?_; refine HL_r rfl rfl rfl rfl (R_move rfl) ?_; refine HL_callP rfl rfl rfl (enters_of Tryz.func76 (by kernel_rfl) rfl) (P_way 0 f) ?_; refine HL_as (as_bool hw) ?_; refine HL_r rfl rfl rfl rfl (R_pure rfl rfl rfl) ?_; refine HL_r rfl rfl rfl rfl (R_move rfl) ?_; refine HL_r rfl rfl rfl rfl (R_move rfl) ?_; refine HL_r rfl rfl rfl rfl (R_pure rfl rfl rfl) ?_; refine HL_r rfl rfl rfl rfl (R_pickF rfl rfl) ?_; refine HL_nil ?_; refine HQ_then ?_; refine hK3 _ _ _ _ ?_; clear hK3 K3; refine HC_cond rfl (fun h6 => ?_) (fun h6 => ?_)
    · try exact Bool.noConfusion h6
      try simp only [Z1, Z2, Z3, Z4, Z5, Z6, Z7, Z8, Z9, Z10, Z11, Z12, Z13] at h6
      refine HC_seq fun K7 hK7 => ?_; refine HC_region ?_; refine HL_r rfl rfl rfl rfl (R_build (r := [_, _, _, _, _, _, _, _, _, _, _, _, _, _, _, _, _]) rfl rfl) ?_
      exfalso; omega
    · try exact Bool.noConfusion h6
      try simp only [Z1, Z2, Z3, Z4, Z5, Z6, Z7, Z8, Z9, Z10, Z11, Z12, Z13] at h6
      refine HC_skip ?_; refine HQ_then ?_; refine hK2 _ _ _ _ ?_; clear hK2 K2; refine HC_seq fun K8 hK8 => ?_; refine HC_seq fun K9 hK9 => ?_; refine HC_region ?_; refine HL_r rfl rfl rfl rfl (R_move rfl) ?_; refine HL_r rfl rfl rfl rfl (R_loadArr (xs := r.cells) (n := 17) rfl (known_L (k := 1) rfl) rfl rfl rfl) ?_; refine HL_callP rfl rfl rfl (enters_of Tryz.func22 (by kernel_rfl) rfl) (P_Fits f r) ?_; refine HL_r rfl rfl rfl rfl (R_assign rfl) ?_; refine HL_nil ?_; refine HQ_then ?_; refine hK9 _ _ _ _ ?_; clear hK9 K9; refine HC_seq fun K10 hK10 => ?_; refine HC_region ?_; refine HL_r rfl rfl rfl rfl (R_move rfl) ?_; refine HL_r rfl rfl rfl rfl (R_pure rfl rfl rfl) ?_; refine HL_nil ?_; refine HQ_then ?_; refine hK10 _ _ _ _ ?_; clear hK10 K10; refine HC_cond rfl (fun h11 => ?_) (fun h11 => ?_)
      · try exact Bool.noConfusion h11
        try simp only [Z1, Z2, Z3, Z4, Z5, Z6, Z7, Z8, Z9, Z10, Z11, Z12, Z13] at h11
        refine HC_seq fun K12 hK12 => ?_; refine HC_region ?_; refine HL_r rfl rfl rfl rfl (R_build (r := [_, _, _, _, _, _, _, _, _, _, _, _, _, _, _, _, _]) rfl rfl) ?_; refine HL_r rfl rfl rfl rfl (R_move rfl) ?_; refine HL_storeArr (k := 0) (n := 17) (ys := (rec0).cells) rfl rfl rfl rfl rfl rfl rfl rfl rfl ?_; refine HL_r rfl rfl rfl rfl (R_assign rfl) ?_; refine HL_nil ?_; refine HQ_then ?_; refine hK12 _ _ _ _ ?_; clear hK12 K12; refine HC_ret ?_; refine HQ_thenR ?_; clear hK8 K8; refine HQ_post rfl rfl (.cons (res_cellA (vs := [_, _, _, _, _, _, _, _, _, _, _, _, _, _, _, _, _]) rfl (known_L (k := 0) rfl) rfl rfl) (.cons (res_tmp rfl) .nil)) (fun w1 hs1 => ?_); rw [if_pos (by omega)]; exact ⟨rfl, hs1.keep⟩
      · try exact Bool.noConfusion h11
        try simp only [Z1, Z2, Z3, Z4, Z5, Z6, Z7, Z8, Z9, Z10, Z11, Z12, Z13] at h11
        refine HC_skip ?_; refine HQ_then ?_; refine hK8 _ _ _ _ ?_; clear hK8 K8; refine HC_seq fun K13 hK13 => ?_; refine HC_region ?_; refine HL_r rfl rfl rfl rfl (R_move rfl) ?_; refine HL_r rfl rfl rfl rfl (R_loadArr (xs := r.cells) (n := 17) rfl (known_L (k := 1) rfl) rfl rfl rfl) ?_; refine HL_callP rfl rfl rfl (enters_of Tryz.func77 (by kernel_rfl) rfl) (P_turn hf2 r) ?_; refine HL_storeArr (k := 0) (n := 17) (ys := (turnE f r).cells) rfl rfl rfl rfl rfl rfl rfl rfl rfl ?_; refine HL_r rfl rfl rfl rfl (R_assign rfl) ?_; refine HL_nil ?_; refine HQ_then ?_; refine hK13 _ _ _ _ ?_; clear hK13 K13; refine HC_ret ?_; refine HQ_post rfl rfl (.cons (res_cellA (vs := [_, _, _, _, _, _, _, _, _, _, _, _, _, _, _, _, _]) rfl (known_L (k := 0) rfl) rfl rfl) (.cons (res_tmp rfl) .nil)) (fun w1 hs1 => ?_); rw [if_neg (by omega)]; exact ⟨rfl, hs1.keep⟩
set_option maxRecDepth 10000 in
theorem P_Turns1 {f : Int} (hf : 0 ≤ f ∧ f ≤ 4) (r : Rec) : Pure Tryz.prog 80 [.int .i64 f, r.val].toArray (.tuple #[(turnE f r).val, .int .i64 0]) := by
  refine pure_of_HC Tryz.func80 rfl rfl fun w => ?_; refine HC_seq fun K1 hK1 => ?_; refine HC_region ?_; refine HL_box (cs := r.cells.toArray) rfl rfl rfl rfl fun rb => ?_; refine HL_alloc (cs := #[_, _, _, _, _, _, _, _, _, _, _, _, _, _, _, _, _]) rfl rfl rfl rfl fun r1 => ?_; refine HL_r rfl rfl rfl rfl (R_assign rfl) ?_; refine HL_nil ?_; refine HQ_then ?_; refine hK1 _ _ _ _ ?_; clear hK1 K1; refine HC_seq fun K2 hK2 => ?_; refine HC_region ?_; refine HL_r rfl rfl rfl rfl (R_move rfl) ?_; refine HL_r rfl rfl rfl rfl (R_loadArr (xs := r.cells) (n := 17) rfl (known_L (k := 1) rfl) rfl rfl rfl) ?_; refine HL_callP rfl rfl rfl (enters_of Tryz.func77 (by kernel_rfl) rfl) (P_turn hf r) ?_; refine HL_storeArr (k := 0) (n := 17) (ys := (turnE f r).cells) rfl rfl rfl rfl rfl rfl rfl rfl rfl ?_; refine HL_r rfl rfl rfl rfl (R_assign rfl) ?_; refine HL_nil ?_; refine HQ_then ?_; refine hK2 _ _ _ _ ?_; clear hK2 K2; refine HC_ret ?_; refine HQ_post rfl rfl (.cons (res_cellA (vs := [_, _, _, _, _, _, _, _, _, _, _, _, _, _, _, _, _]) rfl (known_L (k := 0) rfl) rfl rfl) (.cons (res_tmp rfl) .nil)) (fun w1 hs1 => ?_); exact ⟨rfl, hs1.keep⟩
set_option maxRecDepth 10000 in
theorem E_forks (f g : Int) : PureE (α := Nat × Nat) Tryz.prog 105 [.int .i64 f, .int .i64 g].toArray (fun p => .func (.func 130) #[] #[ptV p.1 0, ptV p.2 0]) (fun p => [(p.2, .cells #[.int .i64 g] 3 (0, 0)), (p.1, .cells #[.int .i64 f] 3 (0, 0))]) := by
  refine pureE_of_HC Tryz.func105 rfl rfl fun w => ?_; refine HC_seq fun K1 hK1 => ?_; refine HC_region ?_; refine HL_box (cs := #[_]) rfl rfl rfl rfl fun r1 => ?_; refine HL_box (cs := #[_]) rfl rfl rfl rfl fun r2 => ?_; refine HL_r rfl rfl rfl rfl (R_assign rfl) ?_; refine HL_nil ?_; refine HQ_then ?_; refine hK1 _ _ _ _ ?_; clear hK1 K1; refine HC_seq fun K2 hK2 => ?_; refine HC_region ?_; refine HL_r rfl rfl rfl rfl (R_makeFunc rfl rfl) ?_; refine HL_r rfl rfl rfl rfl (R_assign rfl) ?_; refine HL_nil ?_; refine HQ_then ?_; refine hK2 _ _ _ _ ?_; clear hK2 K2; refine HC_ret ?_; refine HQ_post rfl rfl (.cons (res_tmp rfl) .nil) (fun w1 hs1 => ?_); exact ⟨(r1, r2), rfl, hs1⟩
def nxF (g : Int) : Int → List Value → List (Nat × Obj) → Int → Prop := fun i v B i' => i < g ∧ i' = i + 1 ∧ v = [.int .i64 i] ∧ B = []
theorem nxF_len {g : Int} : ∀ i v B i', nxF g i v B i' → v.length = 1 := by rintro _ _ _ _ ⟨_, _, rfl, _⟩; rfl
set_option maxRecDepth 10000 in
theorem I_forks {f g : Int} (hw : SL.Way f g) (b1 b2 : Nat) : IterB Tryz.prog 130 [ptV b1 0, ptV b2 0] [(b2, .cells #[.int .i64 g] 3 (0, 0)), (b1, .cells #[.int .i64 f] 3 (0, 0))] f (nxF g) (fun i => ¬ i < g ∧ f ≤ i) := by
  unfold SL.Way at hw
  refine iterB_of_HC Tryz.func130 rfl rfl fun q xids w2 XI XF hY => ?_; refine HC_seq fun K1 hK1 => ?_; refine HC_region ?_; refine HL_r rfl rfl rfl rfl (R_load rfl (known_R (k := 1) rfl) rfl rfl) ?_; refine HL_r rfl rfl rfl rfl (R_assign rfl) ?_; refine HL_nil ?_; refine HQ_then ?_; refine hK1 _ _ _ _ ?_; clear hK1 K1; refine HC_block ?_; refine HC_loop (σ := Int) (fun i => f ≤ i ∧ i ≤ g) (fun i => [(0, .func (.yield q) #[] #[]), (1, ptV b1 0), (2, ptV b2 0), (4, .int .i64 i)]) (fun _ => []) (fun i => XI i) (fun i => (g - i).toNat) f ⟨by omega, by omega⟩ (.cons rfl (.cons rfl (.cons rfl (.cons rfl .nil)))) (List.Sublist.refl _) (fun _ _ h => h) ?_; intro i hi1; refine HC_seq fun K2 hK2 => ?_; refine HC_seq fun K3 hK3 => ?_; refine HC_region ?_; refine HL_r rfl rfl rfl rfl (R_move rfl) ?_; refine HL_r rfl rfl rfl rfl (R_load rfl (known_R (k := 0) rfl) rfl rfl) ?_; refine HL_r rfl rfl rfl rfl (R_pure rfl rfl rfl) ?_; refine HL_nil ?_; refine HQ_then ?_; refine hK3 _ _ _ _ ?_; clear hK3 K3; refine HC_cond rfl (fun h4 => ?_) (fun h4 => ?_)
  · try exact Bool.noConfusion h4
    try simp only [Z1, Z2, Z3, Z4, Z5, Z6, Z7, Z8, Z9, Z10, Z11, Z12, Z13] at h4
    refine HC_skip ?_; refine HQ_then ?_; refine hK2 _ _ _ _ ?_; clear hK2 K2; refine HC_seq fun K5 hK5 => ?_; refine HC_block ?_; refine HC_seq fun K6 hK6 => ?_; refine HC_region ?_; refine HL_r rfl rfl rfl rfl (R_move rfl) ?_; refine HL_r rfl rfl rfl rfl (R_move rfl) ?_; refine HL_yieldB (B := []) (XT := XI (i + 1)) (XF := XF) rfl rfl rfl rfl (hY i [.int .i64 i] [] (i + 1) ⟨by omega, rfl, rfl, rfl⟩) (fun q hq => nomatch hq) ?_ ?_
    all_goals refine HL_r rfl rfl rfl rfl (R_pure rfl rfl rfl) ?_
    all_goals refine HL_nil ?_
    all_goals (
     refine HQ_then ?_; refine hK6 _ _ _ _ ?_; clear hK6 K6; refine HC_cond rfl (fun h7 => ?_) (fun h7 => ?_)
     · try exact Bool.noConfusion h7
       all_goals try simp only [Z1, Z2, Z3, Z4, Z5, Z6, Z7, Z8, Z9, Z10, Z11, Z12, Z13] at h7
       all_goals (
        refine HC_ret ?_; refine HQ_blockR ?_; refine HQ_thenR ?_; clear hK5 K5; refine HQ_thenR ?_; refine HQ_blockR ?_; refine HQ_post rfl rfl .nil (fun w1 hs1 => ?_)
        obtain ⟨xs1, hx1⟩ := hs1.now
        exact ⟨⟨_, rfl⟩, hs1.keep, .inr ⟨_, hx1⟩⟩
        skip)
     · try exact Bool.noConfusion h7
       all_goals try simp only [Z1, Z2, Z3, Z4, Z5, Z6, Z7, Z8, Z9, Z10, Z11, Z12, Z13] at h7
       all_goals (
        refine HC_skip ?_; refine HQ_blockN ?_; refine HQ_then ?_; refine hK5 _ _ _ _ ?_; clear hK5 K5; refine HC_region ?_; refine HL_r rfl rfl rfl rfl (R_move rfl) ?_; refine HL_r rfl rfl rfl rfl (R_pure rfl rfl rfl) ?_; refine HL_wrap_i64 (by omega) (by omega) ?_; refine HL_r rfl rfl rfl rfl (R_assign rfl) ?_; refine HL_nil ?_; refine HQ_then ?_; exact HQ_again (i + 1) (by omega) (by omega) (.cons rfl (.cons rfl (.cons rfl (.cons rfl .nil)))) (List.Sublist.refl _) (fun _ _ h => h)
        skip)
     skip)
  · try exact Bool.noConfusion h4
    try simp only [Z1, Z2, Z3, Z4, Z5, Z6, Z7, Z8, Z9, Z10, Z11, Z12, Z13] at h4
    refine HC_exit ?_; refine HQ_thenE ?_; clear hK2 K2; refine HQ_thenE ?_; refine HQ_blockE ?_; refine HQ_postN rfl rfl .nil (fun w1 hs1 => ?_)
    obtain ⟨xs1, hx1⟩ := hs1.now
    exact ⟨⟨_, rfl⟩, hs1.keep, .inl ⟨i, _, ⟨by omega, by omega⟩, hx1⟩⟩
end Go.Proofs.YtnkmbkndpoghdaaGreat
namespace Go.Proofs.YtnkmbkndpoghdaaGreat
set_option linter.all false
open Go.SL Go.RowKit Go.Shelf
/-! ### migrate: along, Turns, Step, Migrate -/
theorem _root_.Go.SL.PureT.ne {α : Type} {P : Program} {f : FuncId} {args : Array Value} {V : α → Value} {LL : α → List (Nat × Obj)} {Rl : List (Nat × Obj)} (h : PureT P f args V [] LL Rl) {w : World} (hR : Has Rl w) : Nonempty α := by
  obtain ⟨e, w', fr, ⟨x, _⟩, _⟩ := h.run w (fun p hp => by cases hp) hR List.Pairwise.nil (fun p _ q hq => by cases hq) []
  exact ⟨x⟩
theorem pureT_of_HCH {α : Type} {P : Program} {f : FuncId} {fn : Func} {code : Code} {vs : List Value} {V : α → Value} {T Rl : List (Nat × Obj)} {LL : α → List (Nat × Obj)} (hf : P.funcs[f]? = some fn) (hb : fn.body = some code) (hlen : Nat.ble vs.length fn.ntmps = true)
    (h : ∀ w, Has Rl w → HC (cxT P w T Rl fn.ntmps) [] (frame0 0 vs) T (fun _ _ => True) code (bodyPostM (FW none) 0 P fn (fun e w' => ∃ x, e = .returned (V x) ∧ St (cxT P w T Rl fn.ntmps) (LL x) (fun _ _ => True) w'))) : PureT P f vs.toArray V T LL Rl := ⟨fun w hT hR hd hne =>
  (calls_of_HC (cxT P w T Rl fn.ntmps) hf hb rfl rfl rfl hlen (St.startT hT hR hd hne) (h w hR)).mono fun _ _ ⟨x, he, hs⟩ => ⟨x, he, by have := hs.keep; simpa [cxT] using this, fun p hp => ⟨(hs.own p hp).1, (hs.own p hp).2.2⟩, hs.distinct⟩⟩
set_option maxRecDepth 10000 in
theorem S_alongR {f g : Int} (hw : SL.Way f g) (r : Rec) : Pure Tryz.prog 79 [.int .i64 f, .int .i64 g, r.val, .func (.func 80) #[] #[]].toArray (.tuple #[(turnsL (g - f).toNat f r).val, .int .i64 0]) := by
  have hb : 0 ≤ f ∧ f ≤ g ∧ g ≤ 5 := hw
  obtain ⟨res, hres⟩ : ∃ res, res = turnsL (g - f).toNat f r := ⟨_, rfl⟩
  rw [← hres]; refine pure_of_HC Tryz.func79 rfl rfl fun w => ?_; refine HC_seq fun K1 hK1 => ?_; refine HC_region ?_; refine HL_box (cs := r.cells.toArray) rfl rfl rfl rfl fun rx => ?_; refine HL_box (cs := #[_]) rfl rfl rfl rfl fun r1 => ?_; refine HL_alloc (cs := #[_, _, _, _, _, _, _, _, _, _, _, _, _, _, _, _, _]) rfl rfl rfl rfl fun r2 => ?_; refine HL_alloc (cs := #[_]) rfl rfl rfl rfl fun r3 => ?_; refine HL_nil ?_; refine HQ_then ?_; refine hK1 _ _ _ _ ?_; clear hK1 K1; refine HC_seq fun K2 hK2 => ?_; refine HC_region ?_; refine HL_r rfl rfl rfl rfl (R_loadArr (xs := r.cells) (n := 17) rfl (known_L (k := 3) rfl) rfl rfl rfl) ?_; refine HL_alloc (cs := #[_, _, _, _, _, _, _, _, _, _, _, _, _, _, _, _, _]) rfl rfl rfl rfl fun r4 => ?_; refine HL_storeArr (k := 0) (n := 17) (ys := (r).cells) rfl rfl rfl rfl rfl rfl rfl rfl rfl ?_; refine HL_nil ?_; refine HQ_then ?_; refine hK2 _ _ _ _ ?_; clear hK2 K2; refine HC_seq fun K3 hK3 => ?_; refine HC_seq fun K4 hK4 => ?_; refine HC_region ?_; refine HL_r rfl rfl rfl rfl (R_move rfl) ?_; refine HL_r rfl rfl rfl rfl (R_move rfl) ?_; refine HL_callPE rfl rfl rfl (enters_of Tryz.func105 (by kernel_rfl) rfl) (E_forks f g) fun p => ?_
  obtain ⟨p1, p2⟩ := p
  change HL _ _ _ ((p2, _) :: (p1, _) :: _) _ _ _ _; refine HL_nil ?_; refine HQ_then ?_; refine hK4 _ _ _ _ ?_; clear hK4 K4; refine HC_block ?_; refine HC_sel [2, 0, 1, 3, 4, 5, 6] (L' := [_, _, _, _, _, _, _]) (by decide) rfl ?_
  refine HC_rangeB (τ := Unit) (fun i (s : Rec) => f ≤ i ∧ res = turnsL (g - i).toNat i s) (fun s => [(r4, .cells s.cells.toArray 29 (0, 0))]) (fun _ _ => False) (fun _ => []) [(p2, .cells #[.int .i64 g] 3 (0, 0)), (p1, .cells #[.int .i64 f] 3 (0, 0)), _, _, _, _] r rfl rfl (enters_of Tryz.func130 (by kernel_rfl) rfl) (I_forks hw p1 p2) nxF_len rfl (fun q hq => .inl (by
    rcases List.mem_cons.1 hq with rfl | hq
    · exact List.mem_cons_self
    · rw [List.mem_singleton.1 hq]; exact List.mem_cons_of_mem _ List.mem_cons_self)) rfl ⟨Int.le_refl _, hres⟩ ?_ ?_ ?_
  · rintro q Xr Xb w3 i _ _ _ s ⟨hi, rfl, rfl, rfl⟩ ⟨hfi, hinv⟩ Kr hKr
    rw [show (g - i).toNat = (g - (i + 1)).toNat + 1 by omega] at hinv; refine HC_region ?_; refine HL_r rfl rfl rfl rfl (R_assign rfl) ?_; refine HL_nil ?_; refine HQ_then ?_; refine hKr _ _ ?_; clear hKr; refine HC_block ?_; refine HC_seq fun K5 hK5 => ?_; refine HC_region ?_; refine HL_r rfl rfl rfl rfl (R_load rfl (known_R (k := 4) rfl) rfl rfl) ?_; refine HL_r rfl rfl rfl rfl (R_move rfl) ?_; refine HL_r rfl rfl rfl rfl (R_loadArr (xs := s.cells) (n := 17) rfl (known_L (k := 0) rfl) rfl rfl rfl) ?_; refine HL_callP rfl rfl rfl (enters_of Tryz.func80 (by kernel_rfl) rfl) (P_Turns1 (f := i) ⟨by omega, by omega⟩ s) ?_; refine HL_r rfl rfl rfl rfl (R_move rfl) ?_; refine HL_r rfl rfl rfl rfl (R_extract rfl rfl) ?_; refine HL_r rfl rfl rfl rfl (R_extract rfl rfl) ?_; refine HL_alloc (cs := #[_, _, _, _, _, _, _, _, _, _, _, _, _, _, _, _, _]) rfl rfl rfl rfl fun r5 => ?_; refine HL_storeArr (k := 0) (n := 17) (ys := (turnE i s).cells) rfl rfl rfl rfl rfl rfl rfl rfl rfl ?_; refine HL_r rfl rfl rfl rfl (R_assign rfl) ?_; refine HL_nil ?_; refine HQ_then ?_; refine hK5 _ _ _ _ ?_; clear hK5 K5; refine HC_seq fun K6 hK6 => ?_; refine HC_seq fun K7 hK7 => ?_; refine HC_region ?_; refine HL_r rfl rfl rfl rfl (R_move rfl) ?_; refine HL_r rfl rfl rfl rfl (R_pure rfl rfl rfl) ?_; refine HL_nil ?_; refine HQ_then ?_; refine hK7 _ _ _ _ ?_; clear hK7 K7; refine HC_cond rfl (fun h8 => ?_) (fun h8 => ?_)
    · try exact Bool.noConfusion h8
    · try exact Bool.noConfusion h8
      try simp only [Z1, Z2, Z3, Z4, Z5, Z6, Z7, Z8, Z9, Z10, Z11, Z12, Z13] at h8
      refine HC_skip ?_; refine HQ_then ?_; refine hK6 _ _ _ _ ?_; clear hK6 K6; refine HC_region ?_; refine HL_r rfl rfl rfl rfl (R_loadArr (xs := (turnE i s).cells) (n := 17) rfl (known_L (k := 0) rfl) rfl rfl rfl) ?_; refine HL_storeArr (k := 1) (n := 17) (ys := (turnE i s).cells) rfl rfl rfl rfl rfl rfl rfl rfl rfl ?_; refine HL_nil ?_; refine HQ_blockN ?_; refine HQ_weak (L' := [(r4, .cells (turnE i s).cells.toArray 29 (0, 0))]) (fun _ _ h => h) (.cons _ (List.Sublist.refl _)) ?_; exact HQ_round (turnE i s) ⟨by omega, hinv⟩ rfl
  · rintro D i s ⟨hng, hfi⟩ ⟨-, hinv⟩
    rw [show (g - i).toNat = 0 by omega] at hinv
    have hinv : res = s := hinv
    refine HQ_blockN ?_; refine HQ_then ?_; refine hK3 _ _ _ _ ?_; clear hK3 K3; refine HC_seq fun K10 hK10 => ?_; refine HC_region ?_; refine HL_r rfl rfl rfl rfl (R_loadArr (xs := s.cells) (n := 17) rfl (known_L (k := 1) rfl) rfl rfl rfl) ?_; refine HL_storeArr (k := 5) (n := 17) (ys := (s).cells) rfl rfl rfl rfl rfl rfl rfl rfl rfl ?_
    refine HL_store (k := 4) rfl rfl rfl rfl rfl rfl rfl rfl (by first | (simp only [List.setIfInBounds_toArray, List.set_cons_zero, List.set_cons_succ]; exact rfl) | exact rfl) (by first | (simp only [List.set_cons_zero, List.set_cons_succ]; exact rfl) | exact rfl) ?_; refine HL_nil ?_; refine HQ_then ?_; refine hK10 _ _ _ _ ?_; clear hK10 K10; refine HC_ret ?_; refine HQ_mark (k := 0) rfl rfl ?_; refine HQ_post rfl rfl (.cons (res_cellA (vs := s.cells) rfl (known_L (k := 5) rfl) rfl rfl) (.cons (res_cell rfl (known_L (k := 4) rfl) rfl rfl) .nil)) (fun w1 hs1 => ?_); exact ⟨by rw [hinv]; rfl, hs1.keep⟩
  · rintro D j s hst
    exact hst.elim
set_option maxRecDepth 10000 in
theorem P_Turns (f g : Int) (r : Rec) : Pure Tryz.prog 34 [.int .i64 f, .int .i64 g, r.val].toArray (.tuple #[(turnsR f g r).1.val, .int .i64 (turnsR f g r).2]) := by
  by_cases hf : SL.Way f g
  · have hw : decide (SL.Way f g) = true := decide_eq_true hf
    have e : turnsR f g r = if fitsE f r ≠ 0 then (rec0, fitsE f r) else (turnsL (g - f).toNat f r, 0) := by unfold turnsR; rw [if_neg (by simpa using hf)]
    rw [e]; refine pure_of_HC Tryz.func34 rfl rfl fun w => ?_; refine HC_seq fun K1 hK1 => ?_; refine HC_region ?_; refine HL_box (cs := r.cells.toArray) rfl rfl rfl rfl fun rb => ?_; refine HL_alloc (cs := #[_, _, _, _, _, _, _, _, _, _, _, _, _, _, _, _, _]) rfl rfl rfl rfl fun r1 => ?_; refine HL_r rfl rfl rfl rfl (R_assign rfl) ?_; refine HL_nil ?_; refine HQ_then ?_; refine hK1 _ _ _ _ ?_; clear hK1 K1; refine HC_seq fun K2 hK2 => ?_; refine HC_seq fun K3 hK3 => ?_; refine HC_region ?_; refine HL_r rfl rfl rfl rfl (R_move rfl) ?_; refine HL_r rfl rfl rfl rfl (R_move rfl) ?_; refine HL_callP rfl rfl rfl (enters_of Tryz.func76 (by kernel_rfl) rfl) (P_way f g) ?_; refine HL_as (as_bool hw) ?_; refine HL_r rfl rfl rfl rfl (R_pure rfl rfl rfl) ?_; refine HL_nil ?_; refine HQ_then ?_; refine hK3 _ _ _ _ ?_; clear hK3 K3; refine HC_cond rfl (fun h4 => ?_) (fun h4 => ?_)
    · try exact Bool.noConfusion h4
    · try exact Bool.noConfusion h4
      try simp only [Z1, Z2, Z3, Z4, Z5, Z6, Z7, Z8, Z9, Z10, Z11, Z12, Z13] at h4
      refine HC_skip ?_; refine HQ_then ?_; refine hK2 _ _ _ _ ?_; clear hK2 K2; refine HC_seq fun K6 hK6 => ?_; refine HC_seq fun K7 hK7 => ?_; refine HC_region ?_; refine HL_r rfl rfl rfl rfl (R_move rfl) ?_; refine HL_r rfl rfl rfl rfl (R_loadArr (xs := r.cells) (n := 17) rfl (known_L (k := 1) rfl) rfl rfl rfl) ?_; refine HL_callP rfl rfl rfl (enters_of Tryz.func22 (by kernel_rfl) rfl) (P_Fits f r) ?_; refine HL_r rfl rfl rfl rfl (R_assign rfl) ?_; refine HL_nil ?_; refine HQ_then ?_; refine hK7 _ _ _ _ ?_; clear hK7 K7; refine HC_seq fun K8 hK8 => ?_; refine HC_region ?_; refine HL_r rfl rfl rfl rfl (R_move rfl) ?_; refine HL_r rfl rfl rfl rfl (R_pure rfl rfl rfl) ?_; refine HL_nil ?_; refine HQ_then ?_; refine hK8 _ _ _ _ ?_; clear hK8 K8; refine HC_cond rfl (fun h9 => ?_) (fun h9 => ?_)
      · try exact Bool.noConfusion h9
        try simp only [Z1, Z2, Z3, Z4, Z5, Z6, Z7, Z8, Z9, Z10, Z11, Z12, Z13] at h9
        refine HC_seq fun K10 hK10 => ?_; refine HC_region ?_; refine HL_r rfl rfl rfl rfl (R_build (r := [_, _, _, _, _, _, _, _, _, _, _, _, _, _, _, _, _]) rfl rfl) ?_; refine HL_r rfl rfl rfl rfl (R_move rfl) ?_; refine HL_storeArr (k := 0) (n := 17) (ys := (rec0).cells) rfl rfl rfl rfl rfl rfl rfl rfl rfl ?_; refine HL_r rfl rfl rfl rfl (R_assign rfl) ?_; refine HL_nil ?_; refine HQ_then ?_; refine hK10 _ _ _ _ ?_; clear hK10 K10; refine HC_ret ?_; refine HQ_thenR ?_; clear hK6 K6; refine HQ_post rfl rfl (.cons (res_cellA (vs := [_, _, _, _, _, _, _, _, _, _, _, _, _, _, _, _, _]) rfl (known_L (k := 0) rfl) rfl rfl) (.cons (res_tmp rfl) .nil)) (fun w1 hs1 => ?_); rw [if_pos (by omega)]; exact ⟨rfl, hs1.keep⟩
      · try exact Bool.noConfusion h9
        try simp only [Z1, Z2, Z3, Z4, Z5, Z6, Z7, Z8, Z9, Z10, Z11, Z12, Z13] at h9
        refine HC_skip ?_; refine HQ_then ?_; refine hK6 _ _ _ _ ?_; clear hK6 K6; refine HC_seq fun K11 hK11 => ?_; refine HC_region ?_; refine HL_r rfl rfl rfl rfl (R_move rfl) ?_; refine HL_r rfl rfl rfl rfl (R_move rfl) ?_; refine HL_r rfl rfl rfl rfl (R_loadArr (xs := r.cells) (n := 17) rfl (known_L (k := 1) rfl) rfl rfl rfl) ?_; refine HL_callP rfl rfl rfl (enters_of Tryz.func79 (by kernel_rfl) rfl) (S_alongR hf r) ?_; refine HL_r rfl rfl rfl rfl (R_extract rfl rfl) ?_; refine HL_r rfl rfl rfl rfl (R_extract rfl rfl) ?_; refine HL_storeArr (k := 0) (n := 17) (ys := (turnsL (g - f).toNat f r).cells) rfl rfl rfl rfl rfl rfl rfl rfl rfl ?_; refine HL_r rfl rfl rfl rfl (R_assign rfl) ?_; refine HL_nil ?_; refine HQ_then ?_; refine hK11 _ _ _ _ ?_; clear hK11 K11; refine HC_ret ?_; refine HQ_post rfl rfl (.cons (res_cellA (vs := [_, _, _, _, _, _, _, _, _, _, _, _, _, _, _, _, _]) rfl (known_L (k := 0) rfl) rfl rfl) (.cons (res_tmp rfl) .nil)) (fun w1 hs1 => ?_); rw [if_neg (by omega)]; exact ⟨rfl, hs1.keep⟩
  · have e : turnsR f g r = (rec0, 10) := by unfold turnsR; rw [if_pos hf]
    have hw : decide (SL.Way f g) = false := decide_eq_false hf
    rw [e]; refine pure_of_HC Tryz.func34 rfl rfl fun w => ?_; refine HC_seq fun K1 hK1 => ?_; refine HC_region ?_; refine HL_box (cs := r.cells.toArray) rfl rfl rfl rfl fun rb => ?_; refine HL_alloc (cs := #[_, _, _, _, _, _, _, _, _, _, _, _, _, _, _, _, _]) rfl rfl rfl rfl fun r1 => ?_; refine HL_r rfl rfl rfl rfl (R_assign rfl) ?_; refine HL_nil ?_; refine HQ_then ?_; refine hK1 _ _ _ _ ?_; clear hK1 K1; refine HC_seq fun K2 hK2 => ?_; refine HC_seq fun K3 hK3 => ?_; refine HC_region ?_; refine HL_r rfl rfl rfl rfl (R_move rfl) ?_; refine HL_r rfl rfl rfl rfl (R_move rfl) ?_; refine HL_callP rfl rfl rfl (enters_of Tryz.func76 (by kernel_rfl) rfl) (P_way f g) ?_; refine HL_as (as_bool hw) ?_; refine HL_r rfl rfl rfl rfl (R_pure rfl rfl rfl) ?_; refine HL_nil ?_; refine HQ_then ?_; refine hK3 _ _ _ _ ?_; clear hK3 K3; refine HC_cond rfl (fun h4 => ?_) (fun h4 => ?_)
    · try exact Bool.noConfusion h4
      try simp only [Z1, Z2, Z3, Z4, Z5, Z6, Z7, Z8, Z9, Z10, Z11, Z12, Z13] at h4
      refine HC_seq fun K5 hK5 => ?_; refine HC_region ?_; refine HL_r rfl rfl rfl rfl (R_build (r := [_, _, _, _, _, _, _, _, _, _, _, _, _, _, _, _, _]) rfl rfl) ?_; refine HL_storeArr (k := 0) (n := 17) (ys := (rec0).cells) rfl rfl rfl rfl rfl rfl rfl rfl rfl ?_; refine HL_r rfl rfl rfl rfl (R_assign rfl) ?_; refine HL_nil ?_; refine HQ_then ?_; refine hK5 _ _ _ _ ?_; clear hK5 K5; refine HC_ret ?_; refine HQ_thenR ?_; clear hK2 K2; refine HQ_post rfl rfl (.cons (res_cellA (vs := [_, _, _, _, _, _, _, _, _, _, _, _, _, _, _, _, _]) rfl (known_L (k := 0) rfl) rfl rfl) (.cons (res_tmp rfl) .nil)) (fun w1 hs1 => ?_); exact ⟨rfl, hs1.keep⟩
    · try exact Bool.noConfusion h4
theorem rd_ok (f : Int) (s : List AcE) : (readS f s).1.ok := by
  by_cases h : checkE f s = 0
  · obtain ⟨a, ha⟩ := check_ok.1 h
    rw [ha.read]; exact read_ok f a
  · rw [read_bad h]; exact rec0_ok
set_option maxRecDepth 10000 in
theorem S_Step {R : List (Nat × Obj)} (f : Int) {s : StL} (hs : s.In R) : PureT (α := StRes R (stepS f s.er)) Tryz.prog 36 [.int .i64 f, s.val].toArray (fun x => x.val) [] (fun x => x.L) R := by
  by_cases hf : f < 0 ∨ f > 4
  · have e : stepS f s.er = (s.er, 10) := by unfold stepS; rw [if_pos hf]
    rw [e]
    have hw : decide (SL.Way 0 f) = decide (f = 5) := by unfold SL.Way; rw [Bool.eq_iff_iff]; simp; omega
    refine pureT_of_HC Tryz.func36 rfl rfl fun w => ?_; refine HC_seq fun K1 hK1 => ?_; refine HC_region ?_; refine HL_box (cs := s.cells.toArray) rfl rfl rfl rfl fun rb => ?_; refine HL_alloc (cs := #[_]) rfl rfl rfl rfl fun r1 => ?_; refine HL_r rfl rfl rfl rfl (R_assign rfl) ?_; refine HL_nil ?_; refine HQ_then ?_; refine hK1 _ _ _ _ ?_; clear hK1 K1; refine HC_seq fun K2 hK2 => ?_; refine HC_seq fun K3 hK3 => ?_; refine HC_region ?_; refine HL_r rfl rfl rfl rfl (R_move rfl) ?_; refine HL_callP rfl rfl rfl (enters_of Tryz.func76 (by kernel_rfl) rfl) (P_way 0 f) ?_; refine HL_as (as_bool hw) ?_; refine HL_r rfl rfl rfl rfl (R_pure rfl rfl rfl) ?_; refine HL_r rfl rfl rfl rfl (R_move rfl) ?_
    refine HL_case 11 rfl (fun hb4 => ?_) (fun hb4 => ?_) <;> (try simp only [Z1, Z2, Z3, Z4, Z5, Z6, Z7, Z8, Z9, Z10, Z11, Z12, Z13] at hb4) <;> first | (refine HL_r rfl rfl rfl rfl (R_move rfl) ?_) | (refine HL_skip rfl rfl rfl ?_)
    all_goals first
      | (refine HL_r rfl rfl rfl rfl (R_pure rfl rfl rfl) ?_)
      | (refine HL_skip rfl rfl rfl ?_)
    all_goals first
      | (refine HL_r rfl rfl rfl rfl (R_pickT rfl rfl) ?_)
      | (refine HL_r rfl rfl rfl rfl (R_pickF rfl rfl) ?_)
    all_goals refine HL_nil ?_
    all_goals (
     refine HQ_then ?_; refine hK3 _ _ _ _ ?_; clear hK3 K3; refine HC_cond rfl (fun h6 => ?_) (fun h6 => ?_)
     · try exact Bool.noConfusion h6
       try simp only [Z1, Z2, Z3, Z4, Z5, Z6, Z7, Z8, Z9, Z10, Z11, Z12, Z13] at h6
       refine HC_seq fun K7 hK7 => ?_; refine HC_region ?_; refine HL_r rfl rfl rfl rfl (R_loadArr (xs := s.cells) (n := 1) rfl (known_L (k := 1) rfl) rfl rfl rfl) ?_; refine HL_storeArr (k := 0) (n := 1) (ys := s.cells) rfl rfl rfl rfl rfl rfl rfl rfl rfl ?_; refine HL_r rfl rfl rfl rfl (R_assign rfl) ?_; refine HL_nil ?_; refine HQ_then ?_; refine hK7 _ _ _ _ ?_; clear hK7 K7; refine HC_ret ?_; refine HQ_thenR ?_; clear hK2 K2; refine HQ_post rfl rfl (.cons (res_cellA (vs := [_]) rfl (known_L (k := 0) rfl) rfl rfl) (.cons (res_tmp rfl) .nil)) (fun w1 hs1 => ?_); exact ⟨⟨s, 10, [], hs, rfl⟩, rfl, hs1.weakL (List.nil_sublist _)⟩
     · try exact Bool.noConfusion h6
       all_goals try simp only [Z1, Z2, Z3, Z4, Z5, Z6, Z7, Z8, Z9, Z10, Z11, Z12, Z13] at h6
       all_goals (
        refine HC_skip ?_; refine HQ_then ?_; refine hK2 _ _ _ _ ?_; clear hK2 K2; refine HC_seq fun K8 hK8 => ?_; refine HC_region ?_; refine HL_r rfl rfl rfl rfl (R_move rfl) ?_; refine HL_r rfl rfl rfl rfl (R_loadA (vs := [_]) rfl (known_L (k := 1) rfl) rfl rfl rfl rfl) ?_
        exfalso; simp_all
        skip)
     skip)
  · have hf2 : 0 ≤ f ∧ f ≤ 4 := by omega
    have hw : decide (SL.Way 0 f) = true := decide_eq_true (show 0 ≤ 0 ∧ 0 ≤ f ∧ f ≤ 5 by omega)
    have e : stepS f s.er = if (readS f s.er).2 ≠ 0 then (s.er, (readS f s.er).2) else writeE (f + 1) s.er (turnE f (readS f s.er).1) := by unfold stepS; rw [if_neg hf]
    rw [e]
    have hrd := S_lRead f hs
    have hrok := rd_ok f s.er
    generalize readS f s.er = rd at hrd hrok
    obtain ⟨rd, re⟩ := rd
    simp only at hrd hrok
    have hwr := S_Write (f + 1) hs (turn_ok (f := f) hrok)
    refine pureT_of_HCH Tryz.func36 rfl rfl fun w hR => ?_
    obtain ⟨x0⟩ := hwr.ne hR
    refine HC_seq fun K1 hK1 => ?_; refine HC_region ?_; refine HL_box (cs := s.cells.toArray) rfl rfl rfl rfl fun rb => ?_; refine HL_alloc (cs := #[_]) rfl rfl rfl rfl fun r1 => ?_; refine HL_r rfl rfl rfl rfl (R_assign rfl) ?_; refine HL_nil ?_; refine HQ_then ?_; refine hK1 _ _ _ _ ?_; clear hK1 K1; refine HC_seq fun K2 hK2 => ?_; refine HC_seq fun K3 hK3 => ?_; refine HC_region ?_; refine HL_r rfl rfl rfl rfl (R_move rfl) ?_; refine HL_callP rfl rfl rfl (enters_of Tryz.func76 (by kernel_rfl) rfl) (P_way 0 f) ?_; refine HL_as (as_bool hw) ?_; refine HL_r rfl rfl rfl rfl (R_pure rfl rfl rfl) ?_; refine HL_r rfl rfl rfl rfl (R_move rfl) ?_; refine HL_r rfl rfl rfl rfl (R_move rfl) ?_; refine HL_r rfl rfl rfl rfl (R_pure rfl rfl rfl) ?_; refine HL_r rfl rfl rfl rfl (R_pickF rfl rfl) ?_; refine HL_nil ?_; refine HQ_then ?_; refine hK3 _ _ _ _ ?_; clear hK3 K3; refine HC_cond rfl (fun h6 => ?_) (fun h6 => ?_)
    · try exact Bool.noConfusion h6
      try simp only [Z1, Z2, Z3, Z4, Z5, Z6, Z7, Z8, Z9, Z10, Z11, Z12, Z13] at h6
      refine HC_seq fun K7 hK7 => ?_; refine HC_region ?_
      exfalso; omega
    · try exact Bool.noConfusion h6
      try simp only [Z1, Z2, Z3, Z4, Z5, Z6, Z7, Z8, Z9, Z10, Z11, Z12, Z13] at h6
      refine HC_skip ?_; refine HQ_then ?_; refine hK2 _ _ _ _ ?_; clear hK2 K2; refine HC_seq fun K8 hK8 => ?_; refine HC_region ?_; refine HL_r rfl rfl rfl rfl (R_move rfl) ?_; refine HL_r rfl rfl rfl rfl (R_loadArr (xs := s.cells) (n := 1) rfl (known_L (k := 1) rfl) rfl rfl rfl) ?_; refine HL_callR rfl rfl rfl (enters_of Tryz.func25 (by kernel_rfl) rfl) hrd (fun q hq => Or.inr hq) ?_; refine HL_r rfl rfl rfl rfl (R_move rfl) ?_; refine HL_r rfl rfl rfl rfl (R_extract rfl rfl) ?_; refine HL_r rfl rfl rfl rfl (R_extract rfl rfl) ?_; refine HL_alloc (cs := #[_, _, _, _, _, _, _, _, _, _, _, _, _, _, _, _, _]) rfl rfl rfl rfl fun r2 => ?_; refine HL_storeArr (k := 0) (n := 17) (ys := (rd).cells) rfl rfl rfl rfl rfl rfl rfl rfl rfl ?_; refine HL_r rfl rfl rfl rfl (R_assign rfl) ?_; refine HL_nil ?_; refine HQ_then ?_; refine hK8 _ _ _ _ ?_; clear hK8 K8; refine HC_seq fun K9 hK9 => ?_; refine HC_seq fun K10 hK10 => ?_; refine HC_region ?_; refine HL_r rfl rfl rfl rfl (R_move rfl) ?_; refine HL_r rfl rfl rfl rfl (R_pure rfl rfl rfl) ?_; refine HL_nil ?_; refine HQ_then ?_; refine hK10 _ _ _ _ ?_; clear hK10 K10; refine HC_cond rfl (fun h11 => ?_) (fun h11 => ?_)
      · try exact Bool.noConfusion h11
        try simp only [Z1, Z2, Z3, Z4, Z5, Z6, Z7, Z8, Z9, Z10, Z11, Z12, Z13] at h11
        refine HC_seq fun K12 hK12 => ?_; refine HC_region ?_; refine HL_r rfl rfl rfl rfl (R_loadArr (xs := s.cells) (n := 1) rfl (known_L (k := 2) rfl) rfl rfl rfl) ?_; refine HL_r rfl rfl rfl rfl (R_move rfl) ?_; refine HL_storeArr (k := 1) (n := 1) (ys := s.cells) rfl rfl rfl rfl rfl rfl rfl rfl rfl ?_; refine HL_r rfl rfl rfl rfl (R_assign rfl) ?_; refine HL_nil ?_; refine HQ_then ?_; refine hK12 _ _ _ _ ?_; clear hK12 K12; refine HC_ret ?_; refine HQ_thenR ?_; clear hK9 K9; refine HQ_post rfl rfl (.cons (res_cellA (vs := [_]) rfl (known_L (k := 1) rfl) rfl rfl) (.cons (res_tmp rfl) .nil)) (fun w1 hs1 => ?_); rw [if_pos (by omega)]; exact ⟨⟨s, re, [], hs, rfl⟩, rfl, hs1.weakL (List.nil_sublist _)⟩
      · try exact Bool.noConfusion h11
        try simp only [Z1, Z2, Z3, Z4, Z5, Z6, Z7, Z8, Z9, Z10, Z11, Z12, Z13] at h11
        refine HC_skip ?_; refine HQ_then ?_; refine hK9 _ _ _ _ ?_; clear hK9 K9; refine HC_seq fun K13 hK13 => ?_
        refine HC_drawB [] [(0, .pure), (1, .pure), (3, .pure), (5, .pure), (6, .grow (geCall x0 StRes.val StRes.L)), (7, .pure), (8, .pure)] 9 [0, 1, 2, 3, 4, 5, 6, 7, 8] (by kernel_rfl) (by kernel_rfl) (by first | exact (fun _ h => nomatch h) | simp [SubS] | (intro p hp; simp [hp])) ?_; refine HB_p (k := 0) rfl rfl rfl rfl rfl (fun _ hS => (R_move rfl)) ?_; refine HB_p (k := 1) rfl rfl rfl rfl rfl (fun _ hS => (R_pure rfl rfl rfl)) ?_; refine HB_wrap_i64 (by omega) (by omega) ?_; refine HB_r (k := 2) rfl rfl rfl rfl rfl (R_loadArr (xs := s.cells) (n := 1) rfl (known_L (k := 2) rfl) rfl rfl rfl) ?_; refine HB_p (k := 3) rfl rfl rfl rfl rfl (fun _ hS => (R_move rfl)) ?_; refine HB_r (k := 4) rfl rfl rfl rfl rfl (R_loadArr (xs := rd.cells) (n := 17) rfl (known_L (k := 0) rfl) rfl rfl rfl) ?_; refine HB_callP (k := 5) rfl rfl rfl rfl rfl (enters_of Tryz.func77 (by kernel_rfl) rfl) (P_turn hf2 rd) ?_; refine HB_callRE (k := 6) rfl rfl rfl rfl rfl (enters_of Tryz.func15 (by kernel_rfl) rfl) hwr (fun q hq => Or.inr hq) fun x => ?_; refine HB_p (k := 7) rfl rfl rfl rfl rfl (fun _ hS => (R_extract rfl rfl)) ?_; refine HB_p (k := 8) rfl rfl rfl rfl rfl (fun _ hS => (R_extract rfl rfl)) ?_; refine HB_end ?_; refine HL_perm List.perm_append_comm ?_; change HL _ _ _ ((r2, _) :: (r1, _) :: (rb, _) :: x.L) _ _ _ _; refine HL_storeArr (k := 1) (n := 1) (ys := x.s.cells) rfl rfl rfl rfl rfl rfl rfl rfl rfl ?_; refine HL_r rfl rfl rfl rfl (R_assign rfl) ?_; refine HL_nil ?_; refine HQ_then ?_; refine hK13 _ _ _ _ ?_; clear hK13 K13; refine HC_ret ?_; refine HQ_post rfl rfl (.cons (res_cellA (vs := [_]) rfl (known_L (k := 1) rfl) rfl rfl) (.cons (res_tmp rfl) .nil)) (fun w1 hs1 => ?_); rw [if_neg (by omega)]; exact ⟨x, rfl, hs1.weakL (.cons _ (.cons _ (.cons _ (List.Sublist.refl _))))⟩
theorem mig_cons (s0 : List AcE) (n : Nat) (f : Int) (t : List AcE) : migL s0 (n + 1) f t = if (stepS f t).2 ≠ 0 then (s0, (stepS f t).2) else migL s0 n (f + 1) (stepS f t).1 := rfl
set_option maxRecDepth 10000 in
theorem S_alongS {R : List (Nat × Obj)} {f g : Int} (hw : SL.Way f g) {s : StL} (hs : s.In R) : PureT (α := StRes R (migL s.er (g - f).toNat f s.er)) Tryz.prog 82 [.int .i64 f, .int .i64 g, s.val, .func (.func 36) #[] #[]].toArray (fun x => x.val) [] (fun x => x.L) R := by
  have hb : 0 ≤ f ∧ f ≤ g ∧ g ≤ 5 := hw
  obtain ⟨res, hres⟩ : ∃ res, res = migL s.er (g - f).toNat f s.er := ⟨_, rfl⟩
  rw [← hres]; refine pureT_of_HC Tryz.func82 rfl rfl fun w => ?_; refine HC_seq fun K1 hK1 => ?_; refine HC_region ?_; refine HL_box (cs := s.cells.toArray) rfl rfl rfl rfl fun rx => ?_; refine HL_box (cs := #[_]) rfl rfl rfl rfl fun r1 => ?_; refine HL_alloc (cs := #[_]) rfl rfl rfl rfl fun r2 => ?_; refine HL_alloc (cs := #[_]) rfl rfl rfl rfl fun r3 => ?_; refine HL_nil ?_; refine HQ_then ?_; refine hK1 _ _ _ _ ?_; clear hK1 K1; refine HC_seq fun K2 hK2 => ?_; refine HC_region ?_; refine HL_r rfl rfl rfl rfl (R_loadArr (xs := s.cells) (n := 1) rfl (known_L (k := 3) rfl) rfl rfl rfl) ?_; refine HL_alloc (cs := #[_]) rfl rfl rfl rfl fun r4 => ?_; refine HL_storeArr (k := 0) (n := 1) (ys := s.cells) rfl rfl rfl rfl rfl rfl rfl rfl rfl ?_; refine HL_nil ?_; refine HQ_then ?_; refine hK2 _ _ _ _ ?_; clear hK2 K2; refine HC_seq fun K3 hK3 => ?_; refine HC_seq fun K4 hK4 => ?_; refine HC_region ?_; refine HL_r rfl rfl rfl rfl (R_move rfl) ?_; refine HL_r rfl rfl rfl rfl (R_move rfl) ?_; refine HL_callPE rfl rfl rfl (enters_of Tryz.func105 (by kernel_rfl) rfl) (E_forks f g) fun p => ?_
  obtain ⟨p1, p2⟩ := p
  change HL _ _ _ ((p2, _) :: (p1, _) :: _) _ _ _ _; refine HL_nil ?_; refine HQ_then ?_; refine hK4 _ _ _ _ ?_; clear hK4 K4; refine HC_block ?_; refine HC_sel [2, 3, 4, 0, 1, 5, 6] (L' := [_, _, _, _, _, _, _]) (by decide) rfl ?_
  refine HC_rangeB (τ := Int) (fun i (t : StSt R) => f ≤ i ∧ res = migL s.er (g - i).toNat i t.s.er) (fun t => (r4, .cells t.s.cells.toArray 24 (0, 0)) :: (r3, .cells #[.int .i64 0] 32 (0, 0)) :: (r2, .cells st0L.cells.toArray 24 (0, 0)) :: t.L) (fun j e => j = .ret ∧ res = (s.er, e)) (fun e => [(r3, .cells #[.int .i64 e] 32 (0, 0)), (r2, .cells s.cells.toArray 24 (0, 0))]) [(p2, .cells #[.int .i64 g] 3 (0, 0)), (p1, .cells #[.int .i64 f] 3 (0, 0)), _, _] ⟨s, [], hs⟩ rfl rfl (enters_of Tryz.func130 (by kernel_rfl) rfl) (I_forks hw p1 p2) nxF_len rfl (fun q hq => .inl (by
    rcases List.mem_cons.1 hq with rfl | hq
    · exact List.mem_cons_self
    · rw [List.mem_singleton.1 hq]; exact List.mem_cons_of_mem _ List.mem_cons_self)) rfl ⟨Int.le_refl _, hres⟩ ?_ ?_ ?_
  · rintro q Xr Xb w3 i _ _ _ t ⟨hi, rfl, rfl, rfl⟩ ⟨hfi, hinv⟩ Kr hKr
    rw [show (g - i).toNat = (g - (i + 1)).toNat + 1 by omega, mig_cons] at hinv; refine HC_region ?_; refine HL_r rfl rfl rfl rfl (R_assign rfl) ?_; refine HL_nil ?_; refine HQ_then ?_; refine hKr _ _ ?_; clear hKr; refine HC_block ?_; refine HC_seq fun K5 hK5 => ?_; refine HC_region ?_; refine HL_r rfl rfl rfl rfl (R_load rfl (known_R (k := 2) rfl) rfl rfl) ?_; refine HL_r rfl rfl rfl rfl (R_move rfl) ?_; refine HL_r rfl rfl rfl rfl (R_loadArr (xs := t.s.cells) (n := 1) rfl (known_L (k := 0) rfl) rfl rfl rfl) ?_; refine HL_callRE rfl rfl rfl (enters_of Tryz.func36 (by kernel_rfl) rfl) (S_Step (R := t.L ++ R) i t.ok) (fun q hq => (List.mem_append.1 hq).elim (fun h => Or.inl (List.mem_cons_of_mem _ (List.mem_cons_of_mem _ (List.mem_cons_of_mem _ h)))) (fun h => Or.inr (List.mem_append_right _ h))) fun x => ?_; refine HL_perm (perm_mid x.L [_, _, _] t.L) ?_; change HL _ _ ((23, .tuple #[x.s.val, .int .i64 x.err]) :: _) ((r4, _) :: (r3, _) :: (r2, _) :: (x.L ++ t.L)) _ _ _ _
    have hxe : (stepS i t.s.er).2 = x.err := (congrArg Prod.snd x.eq).symm
    have hxs : (stepS i t.s.er).1 = x.s.er := (congrArg Prod.fst x.eq).symm
    rw [hxe, hxs] at hinv; refine HL_r rfl rfl rfl rfl (R_move rfl) ?_; refine HL_r rfl rfl rfl rfl (R_extract rfl rfl) ?_; refine HL_r rfl rfl rfl rfl (R_extract rfl rfl) ?_; refine HL_alloc (cs := #[_]) rfl rfl rfl rfl fun r5 => ?_; refine HL_storeArr (k := 0) (n := 1) (ys := x.s.cells) rfl rfl rfl rfl rfl rfl rfl rfl rfl ?_; refine HL_r rfl rfl rfl rfl (R_assign rfl) ?_; refine HL_nil ?_; refine HQ_then ?_; refine hK5 _ _ _ _ ?_; clear hK5 K5; refine HC_seq fun K6 hK6 => ?_; refine HC_seq fun K7 hK7 => ?_; refine HC_region ?_; refine HL_r rfl rfl rfl rfl (R_move rfl) ?_; refine HL_r rfl rfl rfl rfl (R_pure rfl rfl rfl) ?_; refine HL_nil ?_; refine HQ_then ?_; refine hK7 _ _ _ _ ?_; clear hK7 K7; refine HC_cond rfl (fun h8 => ?_) (fun h8 => ?_)
    · try exact Bool.noConfusion h8
      try simp only [Z1, Z2, Z3, Z4, Z5, Z6, Z7, Z8, Z9, Z10, Z11, Z12, Z13] at h8
      refine HC_seq fun K9 hK9 => ?_; refine HC_region ?_; refine HL_r rfl rfl rfl rfl (R_loadArr (xs := s.cells) (n := 1) rfl (known_R (k := 3) rfl) rfl rfl rfl) ?_; refine HL_r rfl rfl rfl rfl (R_move rfl) ?_; refine HL_storeArr (k := 3) (n := 1) (ys := s.cells) rfl rfl rfl rfl rfl rfl rfl rfl rfl ?_
      refine HL_store (k := 2) rfl rfl rfl rfl rfl rfl rfl rfl (by first | (simp only [List.setIfInBounds_toArray, List.set_cons_zero, List.set_cons_succ]; exact rfl) | exact rfl) (by first | (simp only [List.set_cons_zero, List.set_cons_succ]; exact rfl) | exact rfl) ?_; refine HL_nil ?_; refine HQ_then ?_; refine hK9 _ _ _ _ ?_; clear hK9 K9; refine HC_ret ?_; refine HQ_thenR ?_; clear hK6 K6; refine HQ_blockR ?_; refine HQ_weak (L' := [(r3, .cells #[.int .i64 x.err] 32 (0, 0)), (r2, .cells s.cells.toArray 24 (0, 0))]) (fun _ _ h => h) (.cons _ (.cons _ (.cons_cons _ (.cons_cons _ (List.nil_sublist _))))) ?_; rw [if_pos (by assumption)] at hinv; exact HQ_roundR x.err ⟨rfl, hinv⟩ rfl
    · try exact Bool.noConfusion h8
      try simp only [Z1, Z2, Z3, Z4, Z5, Z6, Z7, Z8, Z9, Z10, Z11, Z12, Z13] at h8
      refine HC_skip ?_; refine HQ_then ?_; refine hK6 _ _ _ _ ?_; clear hK6 K6; refine HC_region ?_; refine HL_r rfl rfl rfl rfl (R_loadArr (xs := x.s.cells) (n := 1) rfl (known_L (k := 0) rfl) rfl rfl rfl) ?_; refine HL_storeArr (k := 1) (n := 1) (ys := x.s.cells) rfl rfl rfl rfl rfl rfl rfl rfl rfl ?_; refine HL_nil ?_; refine HQ_blockN ?_; refine HQ_weak (L' := (r4, .cells x.s.cells.toArray 24 (0, 0)) :: (r3, .cells #[.int .i64 0] 32 (0, 0)) :: (r2, .cells st0L.cells.toArray 24 (0, 0)) :: (x.L ++ t.L)) (fun _ _ h => h) (.cons _ (List.Sublist.refl _)) ?_; rw [if_neg (by simpa using ‹x.err = 0›)] at hinv; exact HQ_round (StSt.next (L' := []) t x) ⟨by omega, hinv⟩ rfl
  · rintro D i t ⟨hng, hfi⟩ ⟨-, hinv⟩
    rw [show (g - i).toNat = 0 by omega] at hinv
    have hinv : res = (t.s.er, 0) := hinv
    refine HQ_blockN ?_; refine HQ_then ?_; refine hK3 _ _ _ _ ?_; clear hK3 K3; refine HC_seq fun K10 hK10 => ?_; refine HC_region ?_; refine HL_r rfl rfl rfl rfl (R_loadArr (xs := t.s.cells) (n := 1) rfl (known_L (k := 1) rfl) rfl rfl rfl) ?_; refine HL_storeArr (k := 3) (n := 1) (ys := t.s.cells) rfl rfl rfl rfl rfl rfl rfl rfl rfl ?_
    refine HL_store (k := 2) rfl rfl rfl rfl rfl rfl rfl rfl (by first | (simp only [List.setIfInBounds_toArray, List.set_cons_zero, List.set_cons_succ]; exact rfl) | exact rfl) (by first | (simp only [List.set_cons_zero, List.set_cons_succ]; exact rfl) | exact rfl) ?_; refine HL_nil ?_; refine HQ_then ?_; refine hK10 _ _ _ _ ?_; clear hK10 K10; refine HC_ret ?_; refine HQ_mark (k := 0) rfl rfl ?_
    (refine HQ_post rfl rfl (.cons (res_cellA (vs := t.s.cells) rfl (known_L (k := 3) rfl) rfl rfl) (.cons (res_cell rfl (known_L (k := 2) rfl) rfl rfl) .nil)) (fun w1 hs1 => ?_)
     exact ⟨⟨t.s, 0, t.L, t.ok, hinv.symm⟩, rfl, hs1.weakL (.cons _ (.cons _ (.cons _ (.cons _ (List.sublist_append_left _ _)))))⟩)
  · rintro D j e ⟨rfl, hst⟩
    refine HC_ret ?_; refine HQ_blockR ?_; refine HQ_thenR ?_; clear hK3 K3; refine HQ_mark (k := 0) rfl rfl ?_
    (refine HQ_post rfl rfl (.cons (res_cellA (vs := s.cells) rfl (known_L (k := 2) rfl) rfl rfl) (.cons (res_cell rfl (known_L (k := 1) rfl) rfl rfl) .nil)) (fun w1 hs1 => ?_)
     exact ⟨⟨s, e, [], hs, hst.symm⟩, rfl, hs1.weakL (List.nil_sublist _)⟩)
set_option maxRecDepth 10000 in
theorem S_Migrate {R : List (Nat × Obj)} (f g : Int) {s : StL} (hs : s.In R) : PureT (α := StRes R (migE f g s.er)) Tryz.prog 38 [.int .i64 f, .int .i64 g, s.val].toArray (fun x => x.val) [] (fun x => x.L) R := by
  by_cases hf : SL.Way f g
  · have hw : decide (SL.Way f g) = true := decide_eq_true hf
    have hal := S_alongS hf hs
    have hck := S_lCheck f hs
    have e : migE f g s.er = if checkE f s.er ≠ 0 then (s.er, checkE f s.er) else migL s.er (g - f).toNat f s.er := by unfold migE; rw [if_neg (by simpa using hf)]
    rw [e]
    generalize migL s.er (g - f).toNat f s.er = ml at hal
    refine pureT_of_HC Tryz.func38 rfl rfl fun w => ?_; refine HC_seq fun K1 hK1 => ?_; refine HC_region ?_; refine HL_box (cs := s.cells.toArray) rfl rfl rfl rfl fun rb => ?_; refine HL_alloc (cs := #[_]) rfl rfl rfl rfl fun r1 => ?_; refine HL_r rfl rfl rfl rfl (R_assign rfl) ?_; refine HL_nil ?_; refine HQ_then ?_; refine hK1 _ _ _ _ ?_; clear hK1 K1; refine HC_seq fun K2 hK2 => ?_; refine HC_seq fun K3 hK3 => ?_; refine HC_region ?_; refine HL_r rfl rfl rfl rfl (R_move rfl) ?_; refine HL_r rfl rfl rfl rfl (R_move rfl) ?_; refine HL_callP rfl rfl rfl (enters_of Tryz.func76 (by kernel_rfl) rfl) (P_way f g) ?_; refine HL_as (as_bool hw) ?_; refine HL_r rfl rfl rfl rfl (R_pure rfl rfl rfl) ?_; refine HL_nil ?_; refine HQ_then ?_; refine hK3 _ _ _ _ ?_; clear hK3 K3; refine HC_cond rfl (fun h4 => ?_) (fun h4 => ?_)
    · try exact Bool.noConfusion h4
    · try exact Bool.noConfusion h4
      try simp only [Z1, Z2, Z3, Z4, Z5, Z6, Z7, Z8, Z9, Z10, Z11, Z12, Z13] at h4
      refine HC_skip ?_; refine HQ_then ?_; refine hK2 _ _ _ _ ?_; clear hK2 K2; refine HC_seq fun K6 hK6 => ?_; refine HC_seq fun K7 hK7 => ?_; refine HC_region ?_; refine HL_r rfl rfl rfl rfl (R_move rfl) ?_; refine HL_r rfl rfl rfl rfl (R_loadArr (xs := s.cells) (n := 1) rfl (known_L (k := 1) rfl) rfl rfl rfl) ?_; refine HL_callR rfl rfl rfl (enters_of Tryz.func29 (by kernel_rfl) rfl) hck (fun q hq => Or.inr hq) ?_; refine HL_r rfl rfl rfl rfl (R_assign rfl) ?_; refine HL_nil ?_; refine HQ_then ?_; refine hK7 _ _ _ _ ?_; clear hK7 K7; refine HC_seq fun K8 hK8 => ?_; refine HC_region ?_; refine HL_r rfl rfl rfl rfl (R_move rfl) ?_; refine HL_r rfl rfl rfl rfl (R_pure rfl rfl rfl) ?_; refine HL_nil ?_; refine HQ_then ?_; refine hK8 _ _ _ _ ?_; clear hK8 K8; refine HC_cond rfl (fun h9 => ?_) (fun h9 => ?_)
      · try exact Bool.noConfusion h9
        try simp only [Z1, Z2, Z3, Z4, Z5, Z6, Z7, Z8, Z9, Z10, Z11, Z12, Z13] at h9
        refine HC_seq fun K10 hK10 => ?_; refine HC_region ?_; refine HL_r rfl rfl rfl rfl (R_loadArr (xs := s.cells) (n := 1) rfl (known_L (k := 1) rfl) rfl rfl rfl) ?_; refine HL_r rfl rfl rfl rfl (R_move rfl) ?_; refine HL_storeArr (k := 0) (n := 1) (ys := s.cells) rfl rfl rfl rfl rfl rfl rfl rfl rfl ?_; refine HL_r rfl rfl rfl rfl (R_assign rfl) ?_; refine HL_nil ?_; refine HQ_then ?_; refine hK10 _ _ _ _ ?_; clear hK10 K10; refine HC_ret ?_; refine HQ_thenR ?_; clear hK6 K6; refine HQ_post rfl rfl (.cons (res_cellA (vs := [_]) rfl (known_L (k := 0) rfl) rfl rfl) (.cons (res_tmp rfl) .nil)) (fun w1 hs1 => ?_); rw [if_pos (by omega)]; exact ⟨⟨s, checkE f s.er, [], hs, rfl⟩, rfl, hs1.weakL (List.nil_sublist _)⟩
      · try exact Bool.noConfusion h9
        try simp only [Z1, Z2, Z3, Z4, Z5, Z6, Z7, Z8, Z9, Z10, Z11, Z12, Z13] at h9
        refine HC_skip ?_; refine HQ_then ?_; refine hK6 _ _ _ _ ?_; clear hK6 K6; refine HC_seq fun K11 hK11 => ?_; refine HC_region ?_; refine HL_r rfl rfl rfl rfl (R_move rfl) ?_; refine HL_r rfl rfl rfl rfl (R_move rfl) ?_; refine HL_r rfl rfl rfl rfl (R_loadArr (xs := s.cells) (n := 1) rfl (known_L (k := 1) rfl) rfl rfl rfl) ?_; refine HL_callRE rfl rfl rfl (enters_of Tryz.func82 (by kernel_rfl) rfl) hal (fun q hq => Or.inr hq) fun x => ?_; refine HL_perm List.perm_append_comm ?_; change HL _ _ ((24, .tuple #[x.s.val, .int .i64 x.err]) :: _) ((r1, _) :: (rb, _) :: x.L) _ _ _ _; refine HL_r rfl rfl rfl rfl (R_extract rfl rfl) ?_; refine HL_r rfl rfl rfl rfl (R_extract rfl rfl) ?_; refine HL_storeArr (k := 0) (n := 1) (ys := x.s.cells) rfl rfl rfl rfl rfl rfl rfl rfl rfl ?_; refine HL_r rfl rfl rfl rfl (R_assign rfl) ?_; refine HL_nil ?_; refine HQ_then ?_; refine hK11 _ _ _ _ ?_; clear hK11 K11; refine HC_ret ?_; refine HQ_post rfl rfl (.cons (res_cellA (vs := [_]) rfl (known_L (k := 0) rfl) rfl rfl) (.cons (res_tmp rfl) .nil)) (fun w1 hs1 => ?_); rw [if_neg (by omega)]; exact ⟨x, rfl, hs1.weakL (.cons _ (.cons _ (List.Sublist.refl _)))⟩
  · have e : migE f g s.er = (s.er, 10) := by unfold migE; rw [if_pos hf]
    have hw : decide (SL.Way f g) = false := decide_eq_false hf
    rw [e]; refine pureT_of_HC Tryz.func38 rfl rfl fun w => ?_; refine HC_seq fun K1 hK1 => ?_; refine HC_region ?_; refine HL_box (cs := s.cells.toArray) rfl rfl rfl rfl fun rb => ?_; refine HL_alloc (cs := #[_]) rfl rfl rfl rfl fun r1 => ?_; refine HL_r rfl rfl rfl rfl (R_assign rfl) ?_; refine HL_nil ?_; refine HQ_then ?_; refine hK1 _ _ _ _ ?_; clear hK1 K1; refine HC_seq fun K2 hK2 => ?_; refine HC_seq fun K3 hK3 => ?_; refine HC_region ?_; refine HL_r rfl rfl rfl rfl (R_move rfl) ?_; refine HL_r rfl rfl rfl rfl (R_move rfl) ?_; refine HL_callP rfl rfl rfl (enters_of Tryz.func76 (by kernel_rfl) rfl) (P_way f g) ?_; refine HL_as (as_bool hw) ?_; refine HL_r rfl rfl rfl rfl (R_pure rfl rfl rfl) ?_; refine HL_nil ?_; refine HQ_then ?_; refine hK3 _ _ _ _ ?_; clear hK3 K3; refine HC_cond rfl (fun h4 => ?_) (fun h4 => ?_)
    · try exact Bool.noConfusion h4
      try simp only [Z1, Z2, Z3, Z4, Z5, Z6, Z7, Z8, Z9, Z10, Z11, Z12, Z13] at h4
      refine HC_seq fun K5 hK5 => ?_; refine HC_region ?_; refine HL_r rfl rfl rfl rfl (R_loadArr (xs := s.cells) (n := 1) rfl (known_L (k := 1) rfl) rfl rfl rfl) ?_; refine HL_storeArr (k := 0) (n := 1) (ys := s.cells) rfl rfl rfl rfl rfl rfl rfl rfl rfl ?_; refine HL_r rfl rfl rfl rfl (R_assign rfl) ?_; refine HL_nil ?_; refine HQ_then ?_; refine hK5 _ _ _ _ ?_; clear hK5 K5; refine HC_ret ?_; refine HQ_thenR ?_; clear hK2 K2; refine HQ_post rfl rfl (.cons (res_cellA (vs := [_]) rfl (known_L (k := 0) rfl) rfl rfl) (.cons (res_tmp rfl) .nil)) (fun w1 hs1 => ?_); exact ⟨⟨s, 10, [], hs, rfl⟩, rfl, hs1.weakL (List.nil_sublist _)⟩
    · try exact Bool.noConfusion h4
end Go.Proofs.YtnkmbkndpoghdaaGreat
namespace Go.Proofs.YtnkmbkndpoghdaaGreat
set_option linter.all false
open Go.SL Go.RowKit Go.Shelf
/-! ### rescriptref22.SameAcct; the law of what stays -/
theorem acct_eq' (a b : AcL) : a.er = b.er ↔ a.addr = b.addr ∧ a.nonce = b.nonce ∧ a.bal = b.bal ∧ a.code = b.code ∧ a.slots = b.slots := by
  unfold AcL.er
  simp
theorem same_no {a b : AcL} (h : ¬ a.addr = b.addr ∨ ¬ a.nonce = b.nonce ∨ ¬ a.bal = b.bal ∨ ¬ a.code = b.code ∨ ¬ a.slots.length = b.slots.length) : ¬ a.er = b.er := fun e => by
  obtain ⟨h1, h2, h3, h4, h5⟩ := (acct_eq' a b).1 e
  rcases h with h | h | h | h | h
  · exact h h1
  · exact h h2
  · exact h h3
  · exact h h4
  · exact h (by rw [h5])
set_option maxRecDepth 10000 in
theorem S_SameAcct {R : List (Nat × Obj)} {a b : AcL} (ha : a.In R) (hb : b.In R) : PureR Tryz.prog 41 [a.val, b.val].toArray (.bool (decide (a.er = b.er))) R := by
  have hl : a.slots.length ≤ 9223372036854775807 := ha.len
  have hl2 : b.slots.length ≤ 9223372036854775807 := hb.len
  have h1 := ha.seg
  have h2 := hb.seg
  refine pureR_of_HC Tryz.func41 rfl rfl fun w => ?_; refine HC_seq fun K1 hK1 => ?_; refine HC_region ?_; refine HL_box (cs := a.cells.toArray) rfl rfl rfl rfl fun ra => ?_; refine HL_box (cs := b.cells.toArray) rfl rfl rfl rfl fun rb => ?_; refine HL_r rfl rfl rfl rfl (R_assign rfl) ?_; refine HL_nil ?_; refine HQ_then ?_; refine hK1 _ _ _ _ ?_; clear hK1 K1; refine HC_seq fun K2 hK2 => ?_; refine HC_seq fun K3 hK3 => ?_; refine HC_region ?_
  refine HL_r rfl rfl rfl rfl (R_fieldAddr rfl rfl (by first | (simp only [Nat.zero_add, Nat.reduceAdd, Nat.reduceMul, Nat.zero_mul, Nat.mul_one, Nat.add_zero]; exact rfl) | exact rfl)) ?_; refine HL_r rfl rfl rfl rfl (R_load rfl (known_L (k := 1) rfl) rfl rfl) ?_
  refine HL_r rfl rfl rfl rfl (R_fieldAddr rfl rfl (by first | (simp only [Nat.zero_add, Nat.reduceAdd, Nat.reduceMul, Nat.zero_mul, Nat.mul_one, Nat.add_zero]; exact rfl) | exact rfl)) ?_; refine HL_r rfl rfl rfl rfl (R_load rfl (known_L (k := 0) rfl) rfl rfl) ?_; refine HL_r rfl rfl rfl rfl (R_strNe rfl rfl) ?_; refine HL_r rfl rfl rfl rfl (R_move rfl) ?_
  refine HL_case 11 rfl (fun hb4 => ?_) (fun hb4 => ?_) <;> (try simp only [Z1, Z2, Z3, Z4, Z5, Z6, Z7, Z8, Z9, Z10, Z11, Z12, Z13] at hb4) <;> first | (refine HL_r rfl rfl rfl rfl (R_fieldAddr rfl rfl (by first | (simp only [Nat.zero_add, Nat.reduceAdd, Nat.reduceMul, Nat.zero_mul, Nat.mul_one, Nat.add_zero]; exact rfl) | exact rfl)) ?_) | (refine HL_skip rfl rfl rfl ?_)
  all_goals first
    | (refine HL_r rfl rfl rfl rfl (R_load rfl (known_L (k := 1) rfl) rfl rfl) ?_)
    | (refine HL_skip rfl rfl rfl ?_)
  all_goals first
    | (refine HL_r rfl rfl rfl rfl (R_fieldAddr rfl rfl (by first | (simp only [Nat.zero_add, Nat.reduceAdd, Nat.reduceMul, Nat.zero_mul, Nat.mul_one, Nat.add_zero]; exact rfl) | exact rfl)) ?_)
    | (refine HL_skip rfl rfl rfl ?_)
  all_goals first
    | (refine HL_r rfl rfl rfl rfl (R_load rfl (known_L (k := 0) rfl) rfl rfl) ?_)
    | (refine HL_skip rfl rfl rfl ?_)
  all_goals first
    | (refine HL_r rfl rfl rfl rfl (R_pure rfl rfl rfl) ?_)
    | (refine HL_skip rfl rfl rfl ?_)
  all_goals first | (refine HL_as (congrArg (fun b => Value.bool (!b)) (eqU a.nonce b.nonce)) ?_) | skip
  all_goals first
    | (refine HL_r rfl rfl rfl rfl (R_pickT rfl rfl) ?_)
    | (refine HL_r rfl rfl rfl rfl (R_pickF rfl rfl) ?_)
  all_goals refine HL_r rfl rfl rfl rfl (R_move rfl) ?_
  all_goals first
    | (refine HL_skip rfl rfl rfl ?_)
    | (refine HL_case 18 rfl (fun hb9 => ?_) (fun hb9 => ?_) <;> (try simp only [Z1, Z2, Z3, Z4, Z5, Z6, Z7, Z8, Z9, Z10, Z11, Z12, Z13] at hb9) <;> first | (refine HL_r rfl rfl rfl rfl (R_fieldAddr rfl rfl (by first | (simp only [Nat.zero_add, Nat.reduceAdd, Nat.reduceMul, Nat.zero_mul, Nat.mul_one, Nat.add_zero]; exact rfl) | exact rfl)) ?_) | (refine HL_skip rfl rfl rfl ?_))
  all_goals first
    | (refine HL_r rfl rfl rfl rfl (R_loadA (vs := [_, _, _, _]) rfl (known_L (k := 1) rfl) rfl rfl rfl rfl) ?_)
    | (refine HL_skip rfl rfl rfl ?_)
  all_goals first
    | (refine HL_r rfl rfl rfl rfl (R_fieldAddr rfl rfl (by first | (simp only [Nat.zero_add, Nat.reduceAdd, Nat.reduceMul, Nat.zero_mul, Nat.mul_one, Nat.add_zero]; exact rfl) | exact rfl)) ?_)
    | (refine HL_skip rfl rfl rfl ?_)
  all_goals first
    | (refine HL_r rfl rfl rfl rfl (R_loadA (vs := [_, _, _, _]) rfl (known_L (k := 0) rfl) rfl rfl rfl rfl) ?_)
    | (refine HL_skip rfl rfl rfl ?_)
  all_goals first
    | (refine HL_r rfl rfl rfl rfl (R_neArr rfl rfl rfl rfl rfl (by kernel_rfl) rfl rfl rfl rfl) ?_)
    | (refine HL_skip rfl rfl rfl ?_)
  all_goals first | (refine HL_as (congrArg (fun b => Value.bool (!b)) (eqW a.bal b.bal)) ?_) | skip
  all_goals first
    | (refine HL_r rfl rfl rfl rfl (R_pickT rfl rfl) ?_)
    | (refine HL_r rfl rfl rfl rfl (R_pickF rfl rfl) ?_)
  all_goals refine HL_r rfl rfl rfl rfl (R_move rfl) ?_
  all_goals first
    | (refine HL_skip rfl rfl rfl ?_)
    | (refine HL_case 25 rfl (fun hb14 => ?_) (fun hb14 => ?_) <;> (try simp only [Z1, Z2, Z3, Z4, Z5, Z6, Z7, Z8, Z9, Z10, Z11, Z12, Z13] at hb14) <;> first | (refine HL_r rfl rfl rfl rfl (R_fieldAddr rfl rfl (by first | (simp only [Nat.zero_add, Nat.reduceAdd, Nat.reduceMul, Nat.zero_mul, Nat.mul_one, Nat.add_zero]; exact rfl) | exact rfl)) ?_) | (refine HL_skip rfl rfl rfl ?_))
  all_goals first
    | (refine HL_r rfl rfl rfl rfl (R_load rfl (known_L (k := 1) rfl) rfl rfl) ?_)
    | (refine HL_skip rfl rfl rfl ?_)
  all_goals first
    | (refine HL_r rfl rfl rfl rfl (R_fieldAddr rfl rfl (by first | (simp only [Nat.zero_add, Nat.reduceAdd, Nat.reduceMul, Nat.zero_mul, Nat.mul_one, Nat.add_zero]; exact rfl) | exact rfl)) ?_)
    | (refine HL_skip rfl rfl rfl ?_)
  all_goals first
    | (refine HL_r rfl rfl rfl rfl (R_load rfl (known_L (k := 0) rfl) rfl rfl) ?_)
    | (refine HL_skip rfl rfl rfl ?_)
  all_goals first
    | (refine HL_r rfl rfl rfl rfl (R_strNe rfl rfl) ?_)
    | (refine HL_skip rfl rfl rfl ?_)
  all_goals first
    | (refine HL_r rfl rfl rfl rfl (R_pickT rfl rfl) ?_)
    | (refine HL_r rfl rfl rfl rfl (R_pickF rfl rfl) ?_)
  all_goals refine HL_r rfl rfl rfl rfl (R_move rfl) ?_
  all_goals first
    | (refine HL_skip rfl rfl rfl ?_)
    | (refine HL_case 32 rfl (fun hb19 => ?_) (fun hb19 => ?_) <;> (try simp only [Z1, Z2, Z3, Z4, Z5, Z6, Z7, Z8, Z9, Z10, Z11, Z12, Z13] at hb19) <;> first | (refine HL_r rfl rfl rfl rfl (R_fieldAddr rfl rfl (by first | (simp only [Nat.zero_add, Nat.reduceAdd, Nat.reduceMul, Nat.zero_mul, Nat.mul_one, Nat.add_zero]; exact rfl) | exact rfl)) ?_) | (refine HL_skip rfl rfl rfl ?_))
  all_goals first
    | (refine HL_r rfl rfl rfl rfl (R_load rfl (known_L (k := 1) rfl) rfl rfl) ?_)
    | (refine HL_skip rfl rfl rfl ?_)
  all_goals first
    | (refine HL_r rfl rfl rfl rfl (R_lenPl rfl h1 rfl) ?_)
    | (refine HL_skip rfl rfl rfl ?_)
  all_goals first
    | (refine HL_r rfl rfl rfl rfl (R_fieldAddr rfl rfl (by first | (simp only [Nat.zero_add, Nat.reduceAdd, Nat.reduceMul, Nat.zero_mul, Nat.mul_one, Nat.add_zero]; exact rfl) | exact rfl)) ?_)
    | (refine HL_skip rfl rfl rfl ?_)
  all_goals first
    | (refine HL_r rfl rfl rfl rfl (R_load rfl (known_L (k := 0) rfl) rfl rfl) ?_)
    | (refine HL_skip rfl rfl rfl ?_)
  all_goals first
    | (refine HL_r rfl rfl rfl rfl (R_lenPl rfl h2 rfl) ?_)
    | (refine HL_skip rfl rfl rfl ?_)
  all_goals first
    | (refine HL_r rfl rfl rfl rfl (R_pure rfl rfl rfl) ?_)
    | (refine HL_skip rfl rfl rfl ?_)
  all_goals first
    | (refine HL_r rfl rfl rfl rfl (R_pickT rfl rfl) ?_)
    | (refine HL_r rfl rfl rfl rfl (R_pickF rfl rfl) ?_)
  all_goals refine HL_nil ?_
  all_goals (
   refine HQ_then ?_; refine hK3 _ _ _ _ ?_; clear hK3 K3; refine HC_cond rfl (fun h26 => ?_) (fun h26 => ?_)
   · try exact Bool.noConfusion h26
     try simp only [Z1, Z2, Z3, Z4, Z5, Z6, Z7, Z8, Z9, Z10, Z11, Z12, Z13] at h26
     refine HC_seq fun K27 hK27 => ?_; refine HC_region ?_; refine HL_r rfl rfl rfl rfl (R_assign rfl) ?_; refine HL_nil ?_; refine HQ_then ?_; refine hK27 _ _ _ _ ?_; clear hK27 K27; refine HC_ret ?_; refine HQ_thenR ?_; clear hK2 K2; refine HQ_post rfl rfl (.cons (res_tmp rfl) .nil) (fun w1 hs1 => ?_); refine ⟨?_, hs1.keep⟩
     first
       | (rw [decide_eq_false (same_no (.inl (by assumption)))]; rfl)
       | (rw [decide_eq_false (same_no (.inr (.inl (by assumption))))]; rfl)
       | (rw [decide_eq_false (same_no (.inr (.inr (.inl (by assumption)))))]; rfl)
       | (rw [decide_eq_false (same_no (.inr (.inr (.inr (.inl (by assumption))))))]; rfl)
       | (rw [decide_eq_false (same_no (.inr (.inr (.inr (.inr (by omega))))))]; rfl)
   · try exact Bool.noConfusion h26
     all_goals try simp only [Z1, Z2, Z3, Z4, Z5, Z6, Z7, Z8, Z9, Z10, Z11, Z12, Z13] at h26
     all_goals (
      refine HC_skip ?_; refine HQ_then ?_; refine hK2 _ _ _ _ ?_; clear hK2 K2; refine HC_seq fun K28 hK28 => ?_; refine HC_seq fun K29 hK29 => ?_; refine HC_region ?_; refine HL_r rfl rfl rfl rfl (R_assign rfl) ?_; refine HL_nil ?_; refine HQ_then ?_; refine hK29 _ _ _ _ ?_; clear hK29 K29; refine HC_block ?_
      have hll : a.slots.length = b.slots.length := by omega
      have hflat : a.addr = b.addr ∧ a.nonce = b.nonce ∧ a.bal = b.bal ∧ a.code = b.code := by simp_all
      refine HC_loop (σ := Nat) (fun i => i ≤ a.slots.length ∧ ∀ j, j < i → a.slots[j]? = b.slots[j]?) (fun i => [(2, ptV ra 0), (3, ptV rb 0), (5, .int .i64 (i : Int))]) (fun _ => [(rb, .cells b.cells.toArray 55 (0, 0)), (ra, .cells a.cells.toArray 55 (0, 0))]) (fun _ _ _ => True) (fun i => a.slots.length - i) 0 ⟨by omega, fun j hj => absurd hj (by omega)⟩ (.cons rfl (.cons rfl (.cons rfl .nil))) (List.Sublist.refl _) (fun _ _ h => h) ?_; rintro i ⟨hi1, hinv⟩; refine HC_seq fun K30 hK30 => ?_; refine HC_seq fun K31 hK31 => ?_; refine HC_region ?_; refine HL_r rfl rfl rfl rfl (R_move rfl) ?_
      refine HL_r rfl rfl rfl rfl (R_fieldAddr rfl rfl (by first | (simp only [Nat.zero_add, Nat.reduceAdd, Nat.reduceMul, Nat.zero_mul, Nat.mul_one, Nat.add_zero]; exact rfl) | exact rfl)) ?_; refine HL_r rfl rfl rfl rfl (R_load rfl (known_L (k := 1) rfl) rfl rfl) ?_; refine HL_r rfl rfl rfl rfl (R_lenPl rfl h1 rfl) ?_; refine HL_r rfl rfl rfl rfl (R_pure rfl rfl rfl) ?_; refine HL_nil ?_; refine HQ_then ?_; refine hK31 _ _ _ _ ?_; clear hK31 K31; refine HC_cond rfl (fun h32 => ?_) (fun h32 => ?_)
      · try exact Bool.noConfusion h32
        try simp only [Z1, Z2, Z3, Z4, Z5, Z6, Z7, Z8, Z9, Z10, Z11, Z12, Z13] at h32
        refine HC_skip ?_; refine HQ_then ?_; refine hK30 _ _ _ _ ?_; clear hK30 K30; refine HC_seq fun K33 hK33 => ?_; refine HC_block ?_; refine HC_seq fun K34 hK34 => ?_
        obtain ⟨x, hx, hmx⟩ := getI (show i < a.slots.length by omega)
        obtain ⟨y, hy, hmy⟩ := getI (show i < b.slots.length by omega)
        refine HC_draw 11 (by kernel_rfl) (by kernel_rfl) ?_
        refine HD_r rfl rfl rfl (R_fieldAddr rfl rfl (by first | (simp only [Nat.zero_add, Nat.reduceAdd, Nat.reduceMul, Nat.zero_mul, Nat.mul_one, Nat.add_zero]; exact rfl) | exact rfl)) ?_; refine HD_r rfl rfl rfl (R_load rfl (known_L (k := 1) rfl) rfl rfl) ?_; refine HD_r rfl rfl rfl (R_move rfl) ?_
        refine HD_r rfl rfl rfl (R_indexPl (j := i) rfl h1 rfl rfl rfl (by first | rfl | omega) (by omega)) ?_; refine HD_r rfl rfl rfl (R_loadEl slC_len (fun q hq => Or.inr hq) rfl h1 hx rfl rfl) ?_
        refine HD_r rfl rfl rfl (R_fieldAddr rfl rfl (by first | (simp only [Nat.zero_add, Nat.reduceAdd, Nat.reduceMul, Nat.zero_mul, Nat.mul_one, Nat.add_zero]; exact rfl) | exact rfl)) ?_; refine HD_r rfl rfl rfl (R_load rfl (known_L (k := 0) rfl) rfl rfl) ?_; refine HD_r rfl rfl rfl (R_move rfl) ?_
        refine HD_r rfl rfl rfl (R_indexPl (j := i) rfl h2 rfl rfl rfl (by first | rfl | omega) (by omega)) ?_; refine HD_r rfl rfl rfl (R_loadEl slC_len (fun q hq => Or.inr hq) rfl h2 hy rfl rfl) ?_; refine HD_r rfl rfl rfl (R_neStr rfl rfl rfl (by kernel_rfl) (by kernel_rfl) (.scal (by decide) rfl rfl rfl rfl rfl (.scal (by decide) rfl rfl rfl rfl rfl .nil))) ?_; refine HD_as (congrArg (fun b => Value.bool (!b)) (slot_eq x y)) ?_; refine HD_end ?_; refine HL_nil ?_; refine HQ_then ?_; refine hK34 _ _ _ _ ?_; clear hK34 K34; refine HC_cond rfl (fun h35 => ?_) (fun h35 => ?_)
        · try exact Bool.noConfusion h35
          try simp only [Z1, Z2, Z3, Z4, Z5, Z6, Z7, Z8, Z9, Z10, Z11, Z12, Z13] at h35
          refine HC_seq fun K36 hK36 => ?_; refine HC_region ?_; refine HL_r rfl rfl rfl rfl (R_assign rfl) ?_; refine HL_nil ?_; refine HQ_then ?_; refine hK36 _ _ _ _ ?_; clear hK36 K36; refine HC_ret ?_; refine HQ_blockR ?_; refine HQ_thenR ?_; clear hK33 K33; refine HQ_thenR ?_; refine HQ_blockR ?_; refine HQ_thenR ?_; clear hK28 K28; refine HQ_post rfl rfl (.cons (res_tmp rfl) .nil) (fun w1 hs1 => ?_); refine ⟨?_, hs1.keep⟩; rw [decide_eq_false (show ¬ a.er = b.er from fun e => lst_ne hx hy (by simp_all) ((acct_eq' a b).1 e).2.2.2.2)]; rfl
        · try exact Bool.noConfusion h35
          try simp only [Z1, Z2, Z3, Z4, Z5, Z6, Z7, Z8, Z9, Z10, Z11, Z12, Z13] at h35
          refine HC_skip ?_; refine HQ_blockN ?_; refine HQ_then ?_; refine hK33 _ _ _ _ ?_; clear hK33 K33; refine HC_region ?_; refine HL_r rfl rfl rfl rfl (R_move rfl) ?_; refine HL_r rfl rfl rfl rfl (R_pure rfl rfl rfl) ?_; refine HL_wrap_i64 (by omega) (by omega) ?_; refine HL_r rfl rfl rfl rfl (R_assign rfl) ?_; refine HL_nil ?_; refine HQ_then ?_
          exact HQ_again (i + 1) ⟨by omega, fun j hj => by
            rcases Nat.lt_succ_iff_lt_or_eq.1 hj with hj | rfl
            · exact hinv j hj
            · rw [hx, hy]; simp_all⟩ (by omega) (.cons rfl (.cons rfl (.cons rfl .nil))) (List.Sublist.refl _) (fun _ _ h => h)
      · try exact Bool.noConfusion h32
        try simp only [Z1, Z2, Z3, Z4, Z5, Z6, Z7, Z8, Z9, Z10, Z11, Z12, Z13] at h32
        refine HC_exit ?_; refine HQ_thenE ?_; clear hK30 K30; refine HQ_thenE ?_; refine HQ_blockE ?_; refine HQ_then ?_; refine hK28 _ _ _ _ ?_; clear hK28 K28; refine HC_seq fun K37 hK37 => ?_; refine HC_region ?_; refine HL_r rfl rfl rfl rfl (R_assign rfl) ?_; refine HL_nil ?_; refine HQ_then ?_; refine hK37 _ _ _ _ ?_; clear hK37 K37; refine HC_ret ?_; refine HQ_post rfl rfl (.cons (res_tmp rfl) .nil) (fun w1 hs1 => ?_); refine ⟨?_, hs1.keep⟩; rw [decide_eq_true ((acct_eq' a b).2 ⟨hflat.1, hflat.2.1, hflat.2.2.1, hflat.2.2.2, lst_eq hll (by omega) hinv⟩)]; rfl
      skip)
   skip)
/-- What stays, as the accounts that are found. -/
structure Stay (s t : StL) (a key : BS) : Prop where
  there : foundB s a = true → foundB t a = true
  oth : a ≠ A0 → a ≠ A1 → foundB s a = foundB t a ∧ (findL s a).er = (findL t a).er
  nonce : (findL s a).nonce = (findL t a).nonce
  bal : (findL s a).bal = (findL t a).bal
  slot : (a = A0 → ¬ Tabled key) → slotE (findL s a).er key = slotE (findL t a).er key
end Go.Proofs.YtnkmbkndpoghdaaGreat
namespace Go.Proofs.YtnkmbkndpoghdaaGreat
set_option linter.all false
open Go.SL Go.RowKit Go.Shelf
/-! the fixed facts of the law of migrations -/
def m1 : Rec := ⟨7, 0, w40, w40, ⟨5, 0, 0, 0⟩, 3, 0, 0⟩
def m2 : Rec := ⟨7, 0, w40, ⟨1, 0, 0, 0⟩, w40, 3, 0, 0⟩
def m3 : Rec := ⟨7, 0, w40, ⟨1, 0, 0, 0⟩, w40, 3, 0, 1⟩
theorem m1_ok : m1.ok := ⟨u64_lt (by decide), u64_0, w40_ok, w40_ok, ⟨u64_lt (by decide), u64_0, u64_0, u64_0⟩, u64_lt (by decide), u64_0, u64_0⟩
def ms1 : List AcE := (writeE 0 [] m1).1
def ms2 : List AcE := (migE 0 5 ms1).1
def ms3 : List AcE := (stepS 0 ms1).1
theorem mk1 : turnR 2 m1 = (m2, 0) := by decide +kernel
theorem mk2 : turnsR 0 5 m1 = (m3, 0) := by decide +kernel
theorem mk3 : turnR 5 m1 = (rec0, 10) := by decide +kernel
theorem mk4 : turnsR 3 2 m1 = (rec0, 10) := by decide +kernel
theorem mk5 : writeE 0 [] m1 = (ms1, 0) := pair0 (p := writeE 0 [] m1) (by decide +kernel)
theorem mk6 : migE 0 5 ms1 = (ms2, 0) := pair0 (p := migE 0 5 ms1) (by decide +kernel)
theorem mk7 : readS 5 ms2 = (m3, 0) := by decide +kernel
theorem mk8 : stepS 0 ms1 = (ms3, 0) := pair0 (p := stepS 0 ms1) (by decide +kernel)
theorem mk9 : (stepS 1 ms1).2 = 2 := by decide +kernel
theorem mk10 : checkE 1 ms3 = 0 := by decide +kernel
theorem mk11 : ms2.length = 2 := by decide +kernel
theorem as_turn {f : Int} {s r : Rec} {e : Int} (h : turnR f s = (r, e)) : Value.tuple #[(turnR f s).1.val, .int .i64 (turnR f s).2] = .tuple #[r.val, .int .i64 e] := by rw [h]
theorem as_turns {f g : Int} {s r : Rec} {e : Int} (h : turnsR f g s = (r, e)) : Value.tuple #[(turnsR f g s).1.val, .int .i64 (turnsR f g s).2] = .tuple #[r.val, .int .i64 e] := by rw [h]
theorem x_err {R : List (Nat × Obj)} {p : List AcE × Int} (x : StRes R p) {t : List AcE} {e : Int} (h : p = (t, e)) : x.err = e := (congrArg Prod.snd x.eq).trans (congrArg Prod.snd h)
theorem x_er {R : List (Nat × Obj)} {p : List AcE × Int} (x : StRes R p) {t : List AcE} {e : Int} (h : p = (t, e)) : x.s.er = t := (congrArg Prod.fst x.eq).trans (congrArg Prod.fst h)
set_option maxRecDepth 10000 in
theorem S_works24 {R : List (Nat × Obj)} : PureR Tryz.prog 31 #[] (.bool true) R := by
  refine pureR_of_HC Tryz.func31 rfl rfl fun w => ?_; refine HC_seq fun K1 hK1 => ?_; refine HC_region ?_; refine HL_r rfl rfl rfl rfl (R_assign rfl) ?_; refine HL_nil ?_; refine HQ_then ?_; refine hK1 _ _ _ _ ?_; clear hK1 K1; refine HC_seq fun K2 hK2 => ?_; refine HC_region ?_; refine HL_r rfl rfl rfl rfl (R_build (r := [_, _, _, _]) rfl rfl) ?_; refine HL_r rfl rfl rfl rfl (R_build (r := [_, _, _, _, _, _, _, _, _, _, _, _, _, _, _, _, _]) rfl rfl) ?_; refine HL_alloc (cs := #[_, _, _, _, _, _, _, _, _, _, _, _, _, _, _, _, _]) rfl rfl rfl rfl fun r1 => ?_; refine HL_storeArr (k := 0) (n := 17) (ys := (m1).cells) rfl rfl rfl rfl rfl rfl rfl rfl rfl ?_; refine HL_nil ?_; refine HQ_then ?_; refine hK2 _ _ _ _ ?_; clear hK2 K2; refine HC_seq fun K3 hK3 => ?_; refine HC_region ?_; refine HL_r rfl rfl rfl rfl (R_loadArr (xs := m1.cells) (n := 17) rfl (known_L (k := 0) rfl) rfl rfl rfl) ?_; refine HL_callP rfl rfl rfl (enters_of Tryz.func32 (by kernel_rfl) rfl) (P_Turn 2 m1) ?_; refine HL_as (as_turn mk1) ?_; refine HL_r rfl rfl rfl rfl (R_move rfl) ?_; refine HL_r rfl rfl rfl rfl (R_extract rfl rfl) ?_; refine HL_r rfl rfl rfl rfl (R_extract rfl rfl) ?_; refine HL_alloc (cs := #[_, _, _, _, _, _, _, _, _, _, _, _, _, _, _, _, _]) rfl rfl rfl rfl fun r2 => ?_; refine HL_storeArr (k := 0) (n := 17) (ys := (m2).cells) rfl rfl rfl rfl rfl rfl rfl rfl rfl ?_; refine HL_r rfl rfl rfl rfl (R_assign rfl) ?_; refine HL_nil ?_; refine HQ_then ?_; refine hK3 _ _ _ _ ?_; clear hK3 K3; refine HC_seq fun K4 hK4 => ?_; refine HC_region ?_; refine HL_r rfl rfl rfl rfl (R_loadArr (xs := m1.cells) (n := 17) rfl (known_L (k := 1) rfl) rfl rfl rfl) ?_; refine HL_callP rfl rfl rfl (enters_of Tryz.func34 (by kernel_rfl) rfl) (P_Turns 0 5 m1) ?_; refine HL_as (as_turns mk2) ?_; refine HL_r rfl rfl rfl rfl (R_move rfl) ?_; refine HL_r rfl rfl rfl rfl (R_extract rfl rfl) ?_; refine HL_r rfl rfl rfl rfl (R_extract rfl rfl) ?_; refine HL_alloc (cs := #[_, _, _, _, _, _, _, _, _, _, _, _, _, _, _, _, _]) rfl rfl rfl rfl fun r3 => ?_; refine HL_storeArr (k := 0) (n := 17) (ys := (m3).cells) rfl rfl rfl rfl rfl rfl rfl rfl rfl ?_; refine HL_r rfl rfl rfl rfl (R_assign rfl) ?_; refine HL_nil ?_; refine HQ_then ?_; refine hK4 _ _ _ _ ?_; clear hK4 K4; refine HC_seq fun K5 hK5 => ?_; refine HC_region ?_; refine HL_r rfl rfl rfl rfl (R_loadArr (xs := m1.cells) (n := 17) rfl (known_L (k := 2) rfl) rfl rfl rfl) ?_; refine HL_callP rfl rfl rfl (enters_of Tryz.func32 (by kernel_rfl) rfl) (P_Turn 5 m1) ?_; refine HL_as (as_turn mk3) ?_; refine HL_r rfl rfl rfl rfl (R_move rfl) ?_; refine HL_r rfl rfl rfl rfl (R_extract rfl rfl) ?_; refine HL_r rfl rfl rfl rfl (R_extract rfl rfl) ?_; refine HL_alloc (cs := #[_, _, _, _, _, _, _, _, _, _, _, _, _, _, _, _, _]) rfl rfl rfl rfl fun r4 => ?_; refine HL_storeArr (k := 0) (n := 17) (ys := (rec0).cells) rfl rfl rfl rfl rfl rfl rfl rfl rfl ?_; refine HL_r rfl rfl rfl rfl (R_assign rfl) ?_; refine HL_nil ?_; refine HQ_then ?_; refine hK5 _ _ _ _ ?_; clear hK5 K5; refine HC_seq fun K6 hK6 => ?_; refine HC_region ?_; refine HL_r rfl rfl rfl rfl (R_loadArr (xs := m1.cells) (n := 17) rfl (known_L (k := 3) rfl) rfl rfl rfl) ?_; refine HL_callP rfl rfl rfl (enters_of Tryz.func34 (by kernel_rfl) rfl) (P_Turns 3 2 m1) ?_; refine HL_as (as_turns mk4) ?_; refine HL_r rfl rfl rfl rfl (R_move rfl) ?_; refine HL_r rfl rfl rfl rfl (R_extract rfl rfl) ?_; refine HL_r rfl rfl rfl rfl (R_extract rfl rfl) ?_; refine HL_alloc (cs := #[_, _, _, _, _, _, _, _, _, _, _, _, _, _, _, _, _]) rfl rfl rfl rfl fun r5 => ?_; refine HL_storeArr (k := 0) (n := 17) (ys := (rec0).cells) rfl rfl rfl rfl rfl rfl rfl rfl rfl ?_; refine HL_r rfl rfl rfl rfl (R_assign rfl) ?_; refine HL_nil ?_; refine HQ_then ?_; refine hK6 _ _ _ _ ?_; clear hK6 K6; refine HC_seq fun K7 hK7 => ?_; refine HC_region ?_; refine HL_r rfl rfl rfl rfl (R_build (r := [_]) rfl rfl) ?_; refine HL_r rfl rfl rfl rfl (R_loadArr (xs := m1.cells) (n := 17) rfl (known_L (k := 4) rfl) rfl rfl rfl) ?_; refine HL_callRE rfl rfl rfl (enters_of Tryz.func15 (by kernel_rfl) rfl) (S_Write (R := []) 0 (s := st0L) st0_in (r := m1) m1_ok) (fun q hq => nomatch hq) fun x => ?_; refine HL_perm List.perm_append_comm ?_; change HL _ _ ((45, .tuple #[x.s.val, .int .i64 x.err]) :: _) ((r5, _) :: (r4, _) :: (r3, _) :: (r2, _) :: (r1, _) :: x.L) _ _ _ _
  have hxs : x.s.er = ms1 := x_er x mk5
  rw [x_err x mk5]; refine HL_r rfl rfl rfl rfl (R_move rfl) ?_; refine HL_r rfl rfl rfl rfl (R_extract rfl rfl) ?_; refine HL_r rfl rfl rfl rfl (R_extract rfl rfl) ?_; refine HL_alloc (cs := #[_]) rfl rfl rfl rfl fun r6 => ?_; refine HL_storeArr (k := 0) (n := 1) (ys := x.s.cells) rfl rfl rfl rfl rfl rfl rfl rfl rfl ?_; refine HL_r rfl rfl rfl rfl (R_assign rfl) ?_; refine HL_nil ?_; refine HQ_then ?_; refine hK7 _ _ _ _ ?_; clear hK7 K7; refine HC_seq fun K8 hK8 => ?_; refine HC_region ?_; refine HL_r rfl rfl rfl rfl (R_loadArr (xs := x.s.cells) (n := 1) rfl (known_L (k := 0) rfl) rfl rfl rfl) ?_; refine HL_callRE rfl rfl rfl (enters_of Tryz.func38 (by kernel_rfl) rfl) (S_Migrate (R := x.L ++ []) 0 5 x.ok) (fun q hq => Or.inl (List.mem_cons_of_mem _ (List.mem_cons_of_mem _ (List.mem_cons_of_mem _ (List.mem_cons_of_mem _ (List.mem_cons_of_mem _ (List.mem_cons_of_mem _ (List.append_nil x.L ▸ hq)))))))) fun y => ?_; refine HL_perm (perm_mid y.L [_, _, _, _, _, _] (x.L)) ?_; change HL _ _ ((50, .tuple #[y.s.val, .int .i64 y.err]) :: _) ((r6, _) :: (r5, _) :: (r4, _) :: (r3, _) :: (r2, _) :: (r1, _) :: (y.L ++ (x.L))) _ _ _ _
  have hym := mk6
  rw [← hxs] at hym
  have hys : y.s.er = ms2 := x_er y hym
  rw [x_err y hym]; refine HL_r rfl rfl rfl rfl (R_move rfl) ?_; refine HL_r rfl rfl rfl rfl (R_extract rfl rfl) ?_; refine HL_r rfl rfl rfl rfl (R_extract rfl rfl) ?_; refine HL_alloc (cs := #[_]) rfl rfl rfl rfl fun r7 => ?_; refine HL_storeArr (k := 0) (n := 1) (ys := y.s.cells) rfl rfl rfl rfl rfl rfl rfl rfl rfl ?_; refine HL_r rfl rfl rfl rfl (R_assign rfl) ?_; refine HL_nil ?_; refine HQ_then ?_; refine hK8 _ _ _ _ ?_; clear hK8 K8; refine HC_seq fun K9 hK9 => ?_; refine HC_region ?_; refine HL_r rfl rfl rfl rfl (R_loadArr (xs := y.s.cells) (n := 1) rfl (known_L (k := 0) rfl) rfl rfl rfl) ?_; refine HL_callR rfl rfl rfl (enters_of Tryz.func25 (by kernel_rfl) rfl) (S_lRead (R := y.L ++ (x.L ++ [])) 5 y.ok) (fun q hq => Or.inl (List.mem_cons_of_mem _ (List.mem_cons_of_mem _ (List.mem_cons_of_mem _ (List.mem_cons_of_mem _ (List.mem_cons_of_mem _ (List.mem_cons_of_mem _ (List.mem_cons_of_mem _ ((List.mem_append.1 hq).elim (fun h => List.mem_append_left _ h) fun h => List.mem_append_right _ (List.append_nil x.L ▸ h)))))))))) ?_; refine HL_as (as_read (hys ▸ mk7)) ?_; refine HL_r rfl rfl rfl rfl (R_move rfl) ?_; refine HL_r rfl rfl rfl rfl (R_extract rfl rfl) ?_; refine HL_r rfl rfl rfl rfl (R_extract rfl rfl) ?_; refine HL_alloc (cs := #[_, _, _, _, _, _, _, _, _, _, _, _, _, _, _, _, _]) rfl rfl rfl rfl fun r8 => ?_; refine HL_storeArr (k := 0) (n := 17) (ys := (m3).cells) rfl rfl rfl rfl rfl rfl rfl rfl rfl ?_; refine HL_r rfl rfl rfl rfl (R_assign rfl) ?_; refine HL_nil ?_; refine HQ_then ?_; refine hK9 _ _ _ _ ?_; clear hK9 K9; refine HC_seq fun K10 hK10 => ?_; refine HC_region ?_; refine HL_r rfl rfl rfl rfl (R_loadArr (xs := x.s.cells) (n := 1) rfl (known_L (k := 2) rfl) rfl rfl rfl) ?_; refine HL_callRE rfl rfl rfl (enters_of Tryz.func36 (by kernel_rfl) rfl) (S_Step (R := y.L ++ (x.L ++ [])) 0 (x.ok.mono fun q hq => List.mem_append_right _ hq)) (fun q hq => Or.inl (List.mem_cons_of_mem _ (List.mem_cons_of_mem _ (List.mem_cons_of_mem _ (List.mem_cons_of_mem _ (List.mem_cons_of_mem _ (List.mem_cons_of_mem _ (List.mem_cons_of_mem _ (List.mem_cons_of_mem _ ((List.mem_append.1 hq).elim (fun h => List.mem_append_left _ h) fun h => List.mem_append_right _ (List.append_nil x.L ▸ h))))))))))) fun z => ?_; refine HL_perm (perm_mid z.L [_, _, _, _, _, _, _, _] (y.L ++ x.L)) ?_; change HL _ _ ((60, .tuple #[z.s.val, .int .i64 z.err]) :: _) ((r8, _) :: (r7, _) :: (r6, _) :: (r5, _) :: (r4, _) :: (r3, _) :: (r2, _) :: (r1, _) :: (z.L ++ (y.L ++ x.L))) _ _ _ _
  have hzm := mk8
  rw [← hxs] at hzm
  have hzs : z.s.er = ms3 := x_er z hzm
  rw [x_err z hzm]; refine HL_r rfl rfl rfl rfl (R_move rfl) ?_; refine HL_r rfl rfl rfl rfl (R_extract rfl rfl) ?_; refine HL_r rfl rfl rfl rfl (R_extract rfl rfl) ?_; refine HL_alloc (cs := #[_]) rfl rfl rfl rfl fun r9 => ?_; refine HL_storeArr (k := 0) (n := 1) (ys := z.s.cells) rfl rfl rfl rfl rfl rfl rfl rfl rfl ?_; refine HL_r rfl rfl rfl rfl (R_assign rfl) ?_; refine HL_nil ?_; refine HQ_then ?_; refine hK10 _ _ _ _ ?_; clear hK10 K10; refine HC_seq fun K11 hK11 => ?_; refine HC_region ?_; refine HL_r rfl rfl rfl rfl (R_loadArr (xs := x.s.cells) (n := 1) rfl (known_L (k := 3) rfl) rfl rfl rfl) ?_; refine HL_callRE rfl rfl rfl (enters_of Tryz.func36 (by kernel_rfl) rfl) (S_Step (R := z.L ++ (y.L ++ (x.L ++ []))) 1 (x.ok.mono fun q hq => List.mem_append_right _ (List.mem_append_right _ hq))) (fun q hq => Or.inl (List.mem_cons_of_mem _ (List.mem_cons_of_mem _ (List.mem_cons_of_mem _ (List.mem_cons_of_mem _ (List.mem_cons_of_mem _ (List.mem_cons_of_mem _ (List.mem_cons_of_mem _ (List.mem_cons_of_mem _ (List.mem_cons_of_mem _ ((List.mem_append.1 hq).elim (fun h => List.mem_append_left _ h) fun hq => List.mem_append_right _ ((List.mem_append.1 hq).elim (fun h => List.mem_append_left _ h) fun h => List.mem_append_right _ (List.append_nil x.L ▸ h))))))))))))) fun u => ?_; refine HL_perm (perm_mid u.L [_, _, _, _, _, _, _, _, _] (z.L ++ (y.L ++ x.L))) ?_; change HL _ _ ((65, .tuple #[u.s.val, .int .i64 u.err]) :: _) ((r9, _) :: (r8, _) :: (r7, _) :: (r6, _) :: (r5, _) :: (r4, _) :: (r3, _) :: (r2, _) :: (r1, _) :: (u.L ++ (z.L ++ (y.L ++ x.L)))) _ _ _ _
  have hum := mk9
  rw [← hxs] at hum
  have hue : u.err = 2 := (congrArg Prod.snd u.eq).trans hum
  rw [hue]; refine HL_r rfl rfl rfl rfl (R_move rfl) ?_; refine HL_r rfl rfl rfl rfl (R_extract rfl rfl) ?_; refine HL_r rfl rfl rfl rfl (R_extract rfl rfl) ?_; refine HL_alloc (cs := #[_]) rfl rfl rfl rfl fun r10 => ?_; refine HL_storeArr (k := 0) (n := 1) (ys := u.s.cells) rfl rfl rfl rfl rfl rfl rfl rfl rfl ?_; refine HL_r rfl rfl rfl rfl (R_assign rfl) ?_; refine HL_nil ?_; refine HQ_then ?_; refine hK11 _ _ _ _ ?_; clear hK11 K11; refine HC_seq fun K12 hK12 => ?_; refine HC_region ?_; refine HL_r rfl rfl rfl rfl (R_loadArr (xs := m2.cells) (n := 17) rfl (known_L (k := 8) rfl) rfl rfl rfl) ?_; refine HL_r rfl rfl rfl rfl (R_build (r := [_, _, _, _]) rfl rfl) ?_; refine HL_r rfl rfl rfl rfl (R_build (r := [_, _, _, _, _, _, _, _, _, _, _, _, _, _, _, _, _]) rfl rfl) ?_; refine HL_r rfl rfl rfl rfl (R_eqStr (xs := (m2).cells) (ys := (m2).cells) rfl rfl rfl (by kernel_rfl) (by kernel_rfl) (.scal (by decide) rfl rfl rfl rfl rfl (.scal (by decide) rfl rfl rfl rfl rfl (.arr (by decide) rfl rfl rfl rfl rfl rfl rfl rfl rfl rfl (.arr (by decide) rfl rfl rfl rfl rfl rfl rfl rfl rfl rfl (.arr (by decide) rfl rfl rfl rfl rfl rfl rfl rfl rfl rfl (.scal (by decide) rfl rfl rfl rfl rfl (.scal (by decide) rfl rfl rfl rfl rfl (.scal (by decide) rfl rfl rfl rfl rfl .nil))))))))) ?_; refine HL_as (congrArg Value.bool (rec_eq (m2) (m2))) ?_; refine HL_as (as_bool (show decide (m2 = m2) = true from decide_eq_true rfl)) ?_; refine HL_r rfl rfl rfl rfl (R_move rfl) ?_; refine HL_r rfl rfl rfl rfl (R_move rfl) ?_; refine HL_r rfl rfl rfl rfl (R_pure rfl rfl rfl) ?_; refine HL_r rfl rfl rfl rfl (R_pickT rfl rfl) ?_; refine HL_r rfl rfl rfl rfl (R_move rfl) ?_; refine HL_r rfl rfl rfl rfl (R_loadArr (xs := m3.cells) (n := 17) rfl (known_L (k := 7) rfl) rfl rfl rfl) ?_; refine HL_r rfl rfl rfl rfl (R_build (r := [_, _, _, _]) rfl rfl) ?_; refine HL_r rfl rfl rfl rfl (R_build (r := [_, _, _, _, _, _, _, _, _, _, _, _, _, _, _, _, _]) rfl rfl) ?_; refine HL_r rfl rfl rfl rfl (R_eqStr (xs := (m3).cells) (ys := (m3).cells) rfl rfl rfl (by kernel_rfl) (by kernel_rfl) (.scal (by decide) rfl rfl rfl rfl rfl (.scal (by decide) rfl rfl rfl rfl rfl (.arr (by decide) rfl rfl rfl rfl rfl rfl rfl rfl rfl rfl (.arr (by decide) rfl rfl rfl rfl rfl rfl rfl rfl rfl rfl (.arr (by decide) rfl rfl rfl rfl rfl rfl rfl rfl rfl rfl (.scal (by decide) rfl rfl rfl rfl rfl (.scal (by decide) rfl rfl rfl rfl rfl (.scal (by decide) rfl rfl rfl rfl rfl .nil))))))))) ?_; refine HL_as (congrArg Value.bool (rec_eq (m3) (m3))) ?_; refine HL_as (as_bool (show decide (m3 = m3) = true from decide_eq_true rfl)) ?_; refine HL_r rfl rfl rfl rfl (R_pickT rfl rfl) ?_; refine HL_r rfl rfl rfl rfl (R_move rfl) ?_; refine HL_r rfl rfl rfl rfl (R_move rfl) ?_; refine HL_r rfl rfl rfl rfl (R_pure rfl rfl rfl) ?_; refine HL_r rfl rfl rfl rfl (R_pickT rfl rfl) ?_; refine HL_r rfl rfl rfl rfl (R_move rfl) ?_; refine HL_r rfl rfl rfl rfl (R_move rfl) ?_; refine HL_r rfl rfl rfl rfl (R_pure rfl rfl rfl) ?_; refine HL_r rfl rfl rfl rfl (R_pickT rfl rfl) ?_; refine HL_r rfl rfl rfl rfl (R_move rfl) ?_; refine HL_r rfl rfl rfl rfl (R_move rfl) ?_; refine HL_r rfl rfl rfl rfl (R_pure rfl rfl rfl) ?_; refine HL_r rfl rfl rfl rfl (R_pickT rfl rfl) ?_; refine HL_r rfl rfl rfl rfl (R_move rfl) ?_; refine HL_r rfl rfl rfl rfl (R_move rfl) ?_; refine HL_r rfl rfl rfl rfl (R_pure rfl rfl rfl) ?_; refine HL_r rfl rfl rfl rfl (R_pickT rfl rfl) ?_; refine HL_r rfl rfl rfl rfl (R_move rfl) ?_; refine HL_r rfl rfl rfl rfl (R_move rfl) ?_; refine HL_r rfl rfl rfl rfl (R_pure rfl rfl rfl) ?_; refine HL_r rfl rfl rfl rfl (R_pickT rfl rfl) ?_; refine HL_r rfl rfl rfl rfl (R_move rfl) ?_; refine HL_r rfl rfl rfl rfl (R_loadArr (xs := m3.cells) (n := 17) rfl (known_L (k := 2) rfl) rfl rfl rfl) ?_; refine HL_r rfl rfl rfl rfl (R_loadArr (xs := m3.cells) (n := 17) rfl (known_L (k := 7) rfl) rfl rfl rfl) ?_; refine HL_r rfl rfl rfl rfl (R_eqStr (xs := (m3).cells) (ys := (m3).cells) rfl rfl rfl (by kernel_rfl) (by kernel_rfl) (.scal (by decide) rfl rfl rfl rfl rfl (.scal (by decide) rfl rfl rfl rfl rfl (.arr (by decide) rfl rfl rfl rfl rfl rfl rfl rfl rfl rfl (.arr (by decide) rfl rfl rfl rfl rfl rfl rfl rfl rfl rfl (.arr (by decide) rfl rfl rfl rfl rfl rfl rfl rfl rfl rfl (.scal (by decide) rfl rfl rfl rfl rfl (.scal (by decide) rfl rfl rfl rfl rfl (.scal (by decide) rfl rfl rfl rfl rfl .nil))))))))) ?_; refine HL_as (congrArg Value.bool (rec_eq (m3) (m3))) ?_; refine HL_as (as_bool (show decide (m3 = m3) = true from decide_eq_true rfl)) ?_; refine HL_r rfl rfl rfl rfl (R_pickT rfl rfl) ?_; refine HL_r rfl rfl rfl rfl (R_move rfl) ?_; refine HL_r rfl rfl rfl rfl (R_move rfl) ?_; refine HL_r rfl rfl rfl rfl (R_pure rfl rfl rfl) ?_; refine HL_r rfl rfl rfl rfl (R_pickT rfl rfl) ?_; refine HL_r rfl rfl rfl rfl (R_move rfl) ?_; refine HL_r rfl rfl rfl rfl (R_loadArr (xs := z.s.cells) (n := 1) rfl (known_L (k := 1) rfl) rfl rfl rfl) ?_; refine HL_callR rfl rfl rfl (enters_of Tryz.func29 (by kernel_rfl) rfl) (S_lCheck (R := z.L ++ (y.L ++ (x.L ++ []))) 1 z.ok) (fun q hq => Or.inl (List.mem_cons_of_mem _ (List.mem_cons_of_mem _ (List.mem_cons_of_mem _ (List.mem_cons_of_mem _ (List.mem_cons_of_mem _ (List.mem_cons_of_mem _ (List.mem_cons_of_mem _ (List.mem_cons_of_mem _ (List.mem_cons_of_mem _ (List.mem_cons_of_mem _ (List.mem_append_right _ ((List.mem_append.1 hq).elim (fun h => List.mem_append_left _ h) fun hq => List.mem_append_right _ ((List.mem_append.1 hq).elim (fun h => List.mem_append_left _ h) fun h => List.mem_append_right _ (List.append_nil x.L ▸ h))))))))))))))) ?_; refine HL_as (as_int (hzs ▸ mk10)) ?_; refine HL_r rfl rfl rfl rfl (R_pure rfl rfl rfl) ?_; refine HL_r rfl rfl rfl rfl (R_pickT rfl rfl) ?_; refine HL_r rfl rfl rfl rfl (R_move rfl) ?_; refine HL_r rfl rfl rfl rfl (R_move rfl) ?_; refine HL_r rfl rfl rfl rfl (R_pure rfl rfl rfl) ?_; refine HL_r rfl rfl rfl rfl (R_pickT rfl rfl) ?_; refine HL_r rfl rfl rfl rfl (R_move rfl) ?_; refine HL_r rfl rfl rfl rfl (R_move rfl) ?_; refine HL_r rfl rfl rfl rfl (R_pure rfl rfl rfl) ?_; refine HL_r rfl rfl rfl rfl (R_pickT rfl rfl) ?_; refine HL_r rfl rfl rfl rfl (R_move rfl) ?_
  refine HL_r rfl rfl rfl rfl (R_fieldAddr rfl rfl (by first | (simp only [Nat.zero_add, Nat.reduceAdd, Nat.reduceMul, Nat.zero_mul, Nat.mul_one, Nat.add_zero]; exact rfl) | exact rfl)) ?_; refine HL_r rfl rfl rfl rfl (R_load rfl (known_L (k := 3) rfl) rfl rfl) ?_; refine HL_r rfl rfl rfl rfl (R_lenPl rfl y.ok.seg rfl) ?_; refine HL_as (as_int (show _ = (2 : Int) by rw [← y.s.er_len, hys, mk11]; rfl)) ?_; refine HL_r rfl rfl rfl rfl (R_pure rfl rfl rfl) ?_; refine HL_r rfl rfl rfl rfl (R_pickT rfl rfl) ?_; refine HL_r rfl rfl rfl rfl (R_assign rfl) ?_; refine HL_nil ?_; refine HQ_then ?_; refine hK12 _ _ _ _ ?_; clear hK12 K12; refine HC_ret ?_; refine HQ_post rfl rfl (.cons (res_tmp rfl) .nil) (fun w1 hs1 => ?_); exact ⟨rfl, hs1.keep⟩
end Go.Proofs.YtnkmbkndpoghdaaGreat
namespace Go.Proofs.YtnkmbkndpoghdaaGreat
set_option linter.all false
open Go.SL Go.RowKit Go.Shelf
/-! ### the reference of states: None, Slot, Find, acct, Check, Same -/
set_option maxRecDepth 10000 in
theorem P_rNone : Pure Tryz.prog 61 [].toArray (strV noneB) := by
  refine pure_of_HC Tryz.func61 rfl rfl fun w => ?_; refine HC_seq fun K1 hK1 => ?_; refine HC_region ?_; refine HL_r rfl rfl rfl rfl (R_assign rfl) ?_; refine HL_nil ?_; refine HQ_then ?_; refine hK1 _ _ _ _ ?_; clear hK1 K1; refine HC_seq fun K2 hK2 => ?_; refine HC_region ?_; refine HL_make (n := 32) (b := 1) rfl rfl rfl rfl rfl rfl rfl rfl rfl (by decide) (by decide) fun r1 => ?_; refine HL_r rfl rfl rfl rfl (R_bytesStr (b := noneB) (row := some (r1, 32, [])) (e := 5) rfl ⟨rfl, rfl⟩ (fun p hp => .inl (by rw [List.mem_singleton.1 hp]; exact List.mem_cons_self)) rfl rfl rfl) ?_; refine HL_r rfl rfl rfl rfl (R_assign rfl) ?_; refine HL_nil ?_; refine HQ_then ?_; refine hK2 _ _ _ _ ?_; clear hK2 K2; refine HC_ret ?_; refine HQ_post rfl rfl (.cons (res_tmp rfl) .nil) (fun w1 hs1 => ?_); exact ⟨rfl, hs1.keep⟩
set_option maxRecDepth 10000 in
theorem S_rSlot {R : List (Nat × Obj)} {a : AcL} (ha : a.In R) (k : BS) : PureR Tryz.prog 65 [a.val, strV k].toArray (strV (slotE a.er k)) R := by
  have hl : a.slots.length ≤ 9223372036854775807 := ha.len
  have hseg := ha.seg
  have hz : slotE a.er k = ((lookL Prod.fst k a.slots).map Prod.snd).getD noneB := by
    show (match lookL Prod.fst k a.slots with | some x => x.2 | none => noneB) = _
    cases lookL Prod.fst k a.slots <;> rfl
  rw [hz]
  obtain ⟨res, hres⟩ : ∃ r, r = lookL Prod.fst k a.slots := ⟨_, rfl⟩
  rw [← hres]; refine pureR_of_HC Tryz.func65 rfl rfl fun w => ?_; refine HC_seq fun K1 hK1 => ?_; refine HC_region ?_; refine HL_box (cs := a.cells.toArray) rfl rfl rfl rfl fun ra => ?_; refine HL_r rfl rfl rfl rfl (R_assign rfl) ?_; refine HL_nil ?_; refine HQ_then ?_; refine hK1 _ _ _ _ ?_; clear hK1 K1; refine HC_seq fun K2 hK2 => ?_; refine HC_seq fun K3 hK3 => ?_; refine HC_region ?_; refine HL_r rfl rfl rfl rfl (R_assign rfl) ?_; refine HL_nil ?_; refine HQ_then ?_; refine hK3 _ _ _ _ ?_; clear hK3 K3; refine HC_block ?_; refine HC_loop (σ := Nat) (fun i => i ≤ a.slots.length ∧ res = lookL Prod.fst k (a.slots.drop i)) (fun i => [(1, strV k), (2, ptV ra 0), (5, .int .i64 (i : Int))]) (fun _ => [(ra, .cells a.cells.toArray 55 (0, 0))]) (fun _ _ _ => True) (fun i => a.slots.length - i) 0 ⟨Nat.zero_le _, hres⟩ (.cons rfl (.cons rfl (.cons rfl .nil))) (List.Sublist.refl _) (fun _ _ h => h) ?_; rintro i ⟨hi1, hinv⟩; refine HC_seq fun K4 hK4 => ?_; refine HC_seq fun K5 hK5 => ?_; refine HC_region ?_; refine HL_r rfl rfl rfl rfl (R_move rfl) ?_
  refine HL_r rfl rfl rfl rfl (R_fieldAddr rfl rfl (by first | (simp only [Nat.zero_add, Nat.reduceAdd, Nat.reduceMul, Nat.zero_mul, Nat.mul_one, Nat.add_zero]; exact rfl) | exact rfl)) ?_; refine HL_r rfl rfl rfl rfl (R_load rfl (known_L (k := 0) rfl) rfl rfl) ?_; refine HL_r rfl rfl rfl rfl (R_lenPl rfl hseg rfl) ?_; refine HL_r rfl rfl rfl rfl (R_pure rfl rfl rfl) ?_; refine HL_nil ?_; refine HQ_then ?_; refine hK5 _ _ _ _ ?_; clear hK5 K5; refine HC_cond rfl (fun h6 => ?_) (fun h6 => ?_)
  · try exact Bool.noConfusion h6
    try simp only [Z1, Z2, Z3, Z4, Z5, Z6, Z7, Z8, Z9, Z10, Z11, Z12, Z13] at h6
    refine HC_skip ?_; refine HQ_then ?_; refine hK4 _ _ _ _ ?_; clear hK4 K4; refine HC_seq fun K7 hK7 => ?_; refine HC_block ?_; refine HC_seq fun K8 hK8 => ?_
    obtain ⟨x, hx, hmx⟩ := getI (show i < a.slots.length by omega)
    rw [dropI hx, lookL_cons] at hinv; refine HC_region ?_
    refine HL_r rfl rfl rfl rfl (R_fieldAddr rfl rfl (by first | (simp only [Nat.zero_add, Nat.reduceAdd, Nat.reduceMul, Nat.zero_mul, Nat.mul_one, Nat.add_zero]; exact rfl) | exact rfl)) ?_; refine HL_r rfl rfl rfl rfl (R_load rfl (known_L (k := 0) rfl) rfl rfl) ?_; refine HL_r rfl rfl rfl rfl (R_move rfl) ?_
    refine HL_r rfl rfl rfl rfl (R_indexPl (j := i) rfl hseg rfl rfl rfl (by first | rfl | omega) (by omega)) ?_; refine HL_r rfl rfl rfl rfl (R_fieldAddr (off' := plO a.p + (i * 2 + 0)) rfl rfl (by show plO a.p + i * 2 + 0 = _; omega)) ?_; refine HL_r rfl rfl rfl rfl (R_loadEf slC_len (k := 0) (v := strV x.1) (fun q hq => Or.inr hq) rfl hseg hx rfl rfl) ?_; refine HL_r rfl rfl rfl rfl (R_move rfl) ?_; refine HL_r rfl rfl rfl rfl (R_strEq rfl rfl) ?_; refine HL_nil ?_; refine HQ_then ?_; refine hK8 _ _ _ _ ?_; clear hK8 K8; refine HC_cond rfl (fun h9 => ?_) (fun h9 => ?_)
    · try exact Bool.noConfusion h9
      try simp only [Z1, Z2, Z3, Z4, Z5, Z6, Z7, Z8, Z9, Z10, Z11, Z12, Z13] at h9
      refine HC_seq fun K10 hK10 => ?_; refine HC_region ?_
      refine HL_r rfl rfl rfl rfl (R_fieldAddr rfl rfl (by first | (simp only [Nat.zero_add, Nat.reduceAdd, Nat.reduceMul, Nat.zero_mul, Nat.mul_one, Nat.add_zero]; exact rfl) | exact rfl)) ?_; refine HL_r rfl rfl rfl rfl (R_load rfl (known_L (k := 0) rfl) rfl rfl) ?_; refine HL_r rfl rfl rfl rfl (R_move rfl) ?_
      refine HL_r rfl rfl rfl rfl (R_indexPl (j := i) rfl hseg rfl rfl rfl (by first | rfl | omega) (by omega)) ?_; refine HL_r rfl rfl rfl rfl (R_fieldAddr (off' := plO a.p + (i * 2 + 1)) rfl rfl (by show plO a.p + i * 2 + 1 = _; omega)) ?_; refine HL_r rfl rfl rfl rfl (R_loadEf slC_len (k := 1) (v := strV x.2) (fun q hq => Or.inr hq) rfl hseg hx rfl rfl) ?_; refine HL_r rfl rfl rfl rfl (R_assign rfl) ?_; refine HL_nil ?_; refine HQ_then ?_; refine hK10 _ _ _ _ ?_; clear hK10 K10; refine HC_ret ?_; refine HQ_blockR ?_; refine HQ_thenR ?_; clear hK7 K7; refine HQ_thenR ?_; refine HQ_blockR ?_; refine HQ_thenR ?_; clear hK2 K2; refine HQ_post rfl rfl (.cons (res_tmp rfl) .nil) (fun w1 hs1 => ?_); refine ⟨?_, hs1.keep⟩; rw [if_pos (by assumption)] at hinv; rw [hinv]; rfl
    · try exact Bool.noConfusion h9
      try simp only [Z1, Z2, Z3, Z4, Z5, Z6, Z7, Z8, Z9, Z10, Z11, Z12, Z13] at h9
      refine HC_skip ?_; refine HQ_blockN ?_; refine HQ_then ?_; refine hK7 _ _ _ _ ?_; clear hK7 K7; refine HC_region ?_; refine HL_r rfl rfl rfl rfl (R_move rfl) ?_; refine HL_r rfl rfl rfl rfl (R_pure rfl rfl rfl) ?_; refine HL_wrap_i64 (by omega) (by omega) ?_; refine HL_r rfl rfl rfl rfl (R_assign rfl) ?_; refine HL_nil ?_; refine HQ_then ?_; rw [if_neg (by assumption)] at hinv; exact HQ_again (i + 1) ⟨by omega, hinv⟩ (by omega) (.cons rfl (.cons rfl (.cons rfl .nil))) (List.Sublist.refl _) (fun _ _ h => h)
  · try exact Bool.noConfusion h6
    try simp only [Z1, Z2, Z3, Z4, Z5, Z6, Z7, Z8, Z9, Z10, Z11, Z12, Z13] at h6
    refine HC_exit ?_; refine HQ_thenE ?_; clear hK4 K4; refine HQ_thenE ?_; refine HQ_blockE ?_; refine HQ_then ?_; refine hK2 _ _ _ _ ?_; clear hK2 K2; refine HC_seq fun K11 hK11 => ?_; refine HC_region ?_; refine HL_callP rfl rfl rfl (enters_of Tryz.func61 (by kernel_rfl) rfl) P_rNone ?_; refine HL_r rfl rfl rfl rfl (R_assign rfl) ?_; refine HL_nil ?_; refine HQ_then ?_; refine hK11 _ _ _ _ ?_; clear hK11 K11; refine HC_ret ?_; refine HQ_post rfl rfl (.cons (res_tmp rfl) .nil) (fun w1 hs1 => ?_); refine ⟨?_, hs1.keep⟩; rw [List.drop_of_length_le (by omega)] at hinv; rw [hinv]; rfl
set_option maxRecDepth 10000 in
theorem S_rFind {R : List (Nat × Obj)} {s : StL} (hs : s.In R) (k : BS) : PureR Tryz.prog 54 [s.val, strV k].toArray (.tuple #[(findL s k).val, .bool (foundB s k)]) R := by
  have hl : s.accts.length ≤ 9223372036854775807 := hs.len
  have hseg := hs.seg
  unfold findL foundB
  obtain ⟨res, hres⟩ : ∃ r, r = s.accts.find? fun a => decide (a.addr = k) := ⟨_, rfl⟩
  rw [← hres]; refine pureR_of_HC Tryz.func54 rfl rfl fun w => ?_; refine HC_seq fun K1 hK1 => ?_; refine HC_region ?_; refine HL_box (cs := s.cells.toArray) rfl rfl rfl rfl fun rs => ?_; refine HL_alloc (cs := #[_, _, _, _, _, _, _, _]) rfl rfl rfl rfl fun r1 => ?_; refine HL_r rfl rfl rfl rfl (R_assign rfl) ?_; refine HL_nil ?_; refine HQ_then ?_; refine hK1 _ _ _ _ ?_; clear hK1 K1; refine HC_seq fun K2 hK2 => ?_; refine HC_seq fun K3 hK3 => ?_; refine HC_region ?_; refine HL_r rfl rfl rfl rfl (R_assign rfl) ?_; refine HL_nil ?_; refine HQ_then ?_; refine hK3 _ _ _ _ ?_; clear hK3 K3; refine HC_block ?_; refine HC_loop (σ := Nat) (fun i => i ≤ s.accts.length ∧ res = (s.accts.drop i).find? fun a => decide (a.addr = k)) (fun i => [(1, strV k), (2, ptV rs 0), (4, ptV r1 0), (6, .int .i64 (i : Int))]) (fun _ => [(r1, .cells ac0L.cells.toArray 55 (0, 0)), (rs, .cells s.cells.toArray 24 (0, 0))]) (fun _ _ _ => True) (fun i => s.accts.length - i) 0 ⟨Nat.zero_le _, hres⟩ (.cons rfl (.cons rfl (.cons rfl (.cons rfl .nil)))) (List.Sublist.refl _) (fun _ _ h => h) ?_; rintro i ⟨hi1, hinv⟩; refine HC_seq fun K4 hK4 => ?_; refine HC_seq fun K5 hK5 => ?_; refine HC_region ?_; refine HL_r rfl rfl rfl rfl (R_move rfl) ?_
  refine HL_r rfl rfl rfl rfl (R_fieldAddr rfl rfl (by first | (simp only [Nat.zero_add, Nat.reduceAdd, Nat.reduceMul, Nat.zero_mul, Nat.mul_one, Nat.add_zero]; exact rfl) | exact rfl)) ?_; refine HL_r rfl rfl rfl rfl (R_load rfl (known_L (k := 1) rfl) rfl rfl) ?_; refine HL_r rfl rfl rfl rfl (R_lenPl rfl hseg rfl) ?_; refine HL_r rfl rfl rfl rfl (R_pure rfl rfl rfl) ?_; refine HL_nil ?_; refine HQ_then ?_; refine hK5 _ _ _ _ ?_; clear hK5 K5; refine HC_cond rfl (fun h6 => ?_) (fun h6 => ?_)
  · try exact Bool.noConfusion h6
    try simp only [Z1, Z2, Z3, Z4, Z5, Z6, Z7, Z8, Z9, Z10, Z11, Z12, Z13] at h6
    refine HC_skip ?_; refine HQ_then ?_; refine hK4 _ _ _ _ ?_; clear hK4 K4; refine HC_seq fun K7 hK7 => ?_; refine HC_block ?_; refine HC_seq fun K8 hK8 => ?_
    obtain ⟨a, ha, hma⟩ := getI (show i < s.accts.length by omega)
    rw [dropI ha, List.find?_cons] at hinv; refine HC_region ?_
    refine HL_r rfl rfl rfl rfl (R_fieldAddr rfl rfl (by first | (simp only [Nat.zero_add, Nat.reduceAdd, Nat.reduceMul, Nat.zero_mul, Nat.mul_one, Nat.add_zero]; exact rfl) | exact rfl)) ?_; refine HL_r rfl rfl rfl rfl (R_load rfl (known_L (k := 1) rfl) rfl rfl) ?_; refine HL_r rfl rfl rfl rfl (R_move rfl) ?_
    refine HL_r rfl rfl rfl rfl (R_indexPl (j := i) rfl hseg rfl rfl rfl (by first | rfl | omega) (by omega)) ?_; refine HL_r rfl rfl rfl rfl (R_fieldAddr (off' := plO s.p + (i * 8 + 0)) rfl rfl (by show plO s.p + i * 8 + 0 = _; omega)) ?_; refine HL_r rfl rfl rfl rfl (R_loadEf AcL.len (k := 0) (v := strV a.addr) (fun q hq => Or.inr hq) rfl hseg ha rfl rfl) ?_; refine HL_r rfl rfl rfl rfl (R_move rfl) ?_; refine HL_r rfl rfl rfl rfl (R_strEq rfl rfl) ?_; refine HL_nil ?_; refine HQ_then ?_; refine hK8 _ _ _ _ ?_; clear hK8 K8; refine HC_cond rfl (fun h9 => ?_) (fun h9 => ?_)
    · try exact Bool.noConfusion h9
      try simp only [Z1, Z2, Z3, Z4, Z5, Z6, Z7, Z8, Z9, Z10, Z11, Z12, Z13] at h9
      refine HC_seq fun K10 hK10 => ?_; refine HC_region ?_
      refine HL_r rfl rfl rfl rfl (R_fieldAddr rfl rfl (by first | (simp only [Nat.zero_add, Nat.reduceAdd, Nat.reduceMul, Nat.zero_mul, Nat.mul_one, Nat.add_zero]; exact rfl) | exact rfl)) ?_; refine HL_r rfl rfl rfl rfl (R_load rfl (known_L (k := 1) rfl) rfl rfl) ?_; refine HL_r rfl rfl rfl rfl (R_move rfl) ?_
      refine HL_r rfl rfl rfl rfl (R_indexPl (j := i) rfl hseg rfl rfl rfl (by first | rfl | omega) (by omega)) ?_; refine HL_r rfl rfl rfl rfl (R_loadEl AcL.len (fun q hq => Or.inr hq) rfl hseg ha rfl rfl) ?_; refine HL_storeArr (k := 0) (n := 8) (ys := (a).cells) rfl rfl rfl rfl rfl rfl rfl rfl rfl ?_; refine HL_r rfl rfl rfl rfl (R_assign rfl) ?_; refine HL_nil ?_; refine HQ_then ?_; refine hK10 _ _ _ _ ?_; clear hK10 K10; refine HC_ret ?_; refine HQ_blockR ?_; refine HQ_thenR ?_; clear hK7 K7; refine HQ_thenR ?_; refine HQ_blockR ?_; refine HQ_thenR ?_; clear hK2 K2; refine HQ_post rfl rfl (.cons (res_cellA (vs := [_, _, _, _, _, _, _, _]) rfl (known_L (k := 0) rfl) rfl rfl) (.cons (res_tmp rfl) .nil)) (fun w1 hs1 => ?_); refine ⟨?_, hs1.keep⟩; rw [show decide (a.addr = k) = true from decide_eq_true (by assumption)] at hinv; rw [hinv]; rfl
    · try exact Bool.noConfusion h9
      try simp only [Z1, Z2, Z3, Z4, Z5, Z6, Z7, Z8, Z9, Z10, Z11, Z12, Z13] at h9
      refine HC_skip ?_; refine HQ_blockN ?_; refine HQ_then ?_; refine hK7 _ _ _ _ ?_; clear hK7 K7; refine HC_region ?_; refine HL_r rfl rfl rfl rfl (R_move rfl) ?_; refine HL_r rfl rfl rfl rfl (R_pure rfl rfl rfl) ?_; refine HL_wrap_i64 (by omega) (by omega) ?_; refine HL_r rfl rfl rfl rfl (R_assign rfl) ?_; refine HL_nil ?_; refine HQ_then ?_; rw [show decide (a.addr = k) = false from decide_eq_false (by assumption)] at hinv; exact HQ_again (i + 1) ⟨by omega, hinv⟩ (by omega) (.cons rfl (.cons rfl (.cons rfl (.cons rfl .nil)))) (List.Sublist.refl _) (fun _ _ h => h)
  · try exact Bool.noConfusion h6
    try simp only [Z1, Z2, Z3, Z4, Z5, Z6, Z7, Z8, Z9, Z10, Z11, Z12, Z13] at h6
    refine HC_exit ?_; refine HQ_thenE ?_; clear hK4 K4; refine HQ_thenE ?_; refine HQ_blockE ?_; refine HQ_then ?_; refine hK2 _ _ _ _ ?_; clear hK2 K2; refine HC_seq fun K11 hK11 => ?_; refine HC_region ?_; refine HL_r rfl rfl rfl rfl (R_build (r := [_, _, _, _, _, _, _, _]) rfl rfl) ?_; refine HL_storeArr (k := 0) (n := 8) (ys := (ac0L).cells) rfl rfl rfl rfl rfl rfl rfl rfl rfl ?_; refine HL_r rfl rfl rfl rfl (R_assign rfl) ?_; refine HL_nil ?_; refine HQ_then ?_; refine hK11 _ _ _ _ ?_; clear hK11 K11; refine HC_ret ?_; refine HQ_post rfl rfl (.cons (res_cellA (vs := [_, _, _, _, _, _, _, _]) rfl (known_L (k := 0) rfl) rfl rfl) (.cons (res_tmp rfl) .nil)) (fun w1 hs1 => ?_); refine ⟨?_, hs1.keep⟩; rw [List.drop_of_length_le (by omega)] at hinv; rw [hinv]; rfl
/-! acct -/
def rackR (p : Option BS) (a : AcE) : Bool := p.isNone || Op.bytesLess (p.getD []) a.addr
theorem rack_step (p : Option BS) (a : AcE) : stepE p a = if a.slots.any oddS = true ∨ a.addr.length ≠ 20 then 2 else if (rackR p a && risesB Prod.fst a.slots) = false then 11 else if a.code.length > 512 ∨ a.slots.length > 16 then 5 else if a.slots.any spareS = true then 8 else 0 := by
  by_cases h : a.slots.any oddS = true ∨ a.addr.length ≠ 20
  · have e : lkE a = 2 := by unfold lkE; rw [if_pos (h.elim Or.inr Or.inl)]
    rw [if_pos h, step_lk (.inl e), e]
  rw [if_neg h]
  have h' : ¬ (a.addr.length ≠ 20 ∨ a.slots.any oddS = true) := fun hh => h (hh.elim Or.inr Or.inl)
  have e : lkE a = if risesB Prod.fst a.slots = false then 11 else if a.code.length > 512 ∨ a.slots.length > 16 then 5 else if a.slots.any spareS = true then 8 else 0 := by unfold lkE; rw [if_neg h']
  cases hr : risesB Prod.fst a.slots
  · rw [hr, if_pos rfl] at e
    rw [Bool.and_false, if_pos rfl]
    unfold stepE
    split
    · rfl
    · exact e
  rw [hr, if_neg (by simp)] at e
  have h2 : lkE a ≠ 2 := by
    rw [e]
    split
    · decide
    · split <;> decide
  cases p with
  | none =>
    rw [step_none, e]
    rfl
  | some b =>
    show stepE (some b) a = if ((false || Op.bytesLess b a.addr) && true) = false then 11 else _
    cases hb : Op.bytesLess b a.addr
    · rw [step_11 h2 rfl hb]; rfl
    · rw [step_lk (.inr (.inr ⟨b, rfl, hb⟩)), e]; rfl
theorem any_at {α : Type} {p : α → Bool} {l : List α} {j : Nat} {x : α} (h : l[j]? = some x) (hp : p x = true) : l.any p = true := List.any_eq_true.2 ⟨x, List.mem_of_getElem? h, hp⟩
theorem any_none {α : Type} {p : α → Bool} {l : List α} (h : ∀ (j : Nat) x, l[j]? = some x → p x = false) : l.any p = false := by
  rw [List.any_eq_false]; intro x hx
  obtain ⟨j, hj⟩ := List.getElem?_of_mem hx
  rw [h j x hj]; simp
structure RackI (a : AcL) (rb : Bool) (i : Nat) (rs sp : Bool) : Prop where
  le : i ≤ a.slots.length
  odd : ∀ (j : Nat) x, j < i → a.slots[j]? = some x → oddS x = false
  rs : rs = true ↔ rb = true ∧ ∀ (j : Nat) x y, j + 1 < i → a.slots[j]? = some x → a.slots[j + 1]? = some y → Op.bytesLess x.1 y.1 = true
  sp : sp = true ↔ ∃ (j : Nat) (x : BS × BS), j < i ∧ a.slots[j]? = some x ∧ x.2 = noneB
theorem RackI.zero (a : AcL) (rb : Bool) : RackI a rb 0 rb false := ⟨Nat.zero_le _, fun _ _ h => absurd h (Nat.not_lt_zero _), by simp, by simp⟩
theorem RackI.next {a : AcL} {rb : Bool} {i : Nat} {rs sp rs' sp' : Bool} {x : BS × BS} (h : RackI a rb i rs sp) (hx : a.slots[i]? = some x) (ho : x.1.length = 32 ∧ x.2.length = 32)
    (hr : rs' = (rs && (decide (i = 0) || Op.bytesLess ((a.slots[i - 1]?.map Prod.fst).getD []) x.1))) (hp : sp' = (sp || decide (x.2 = noneB))) : RackI a rb (i + 1) rs' sp' := by
  have hlt := (List.getElem?_eq_some_iff.1 hx).1
  refine ⟨hlt, fun j y hj hy => ?_, ?_, ?_⟩
  · rcases Nat.lt_succ_iff_lt_or_eq.1 hj with hj | rfl
    · exact h.odd j y hj hy
    · rw [hx] at hy; cases hy
      unfold oddS; simp [ho.1, ho.2]
  · rw [hr, Bool.and_eq_true, h.rs, Bool.or_eq_true, decide_eq_true_eq]
    constructor
    · rintro ⟨⟨h1, h2⟩, h3⟩
      refine ⟨h1, fun j u v hj hu hv => ?_⟩
      rcases Nat.lt_succ_iff_lt_or_eq.1 hj with hj | hj
      · exact h2 j u v hj hu hv
      · subst hj
        rw [hx] at hv; cases hv; rw [show j + 1 - 1 = j by omega, hu] at h3; exact h3.resolve_left (by omega)
    · rintro ⟨h1, h2⟩
      refine ⟨⟨h1, fun j u v hj hu hv => h2 j u v (by omega) hu hv⟩, ?_⟩
      rcases Nat.eq_zero_or_pos i with h0 | h0
      · exact .inl h0
      · obtain ⟨j, rfl⟩ : ∃ j, i = j + 1 := ⟨i - 1, by omega⟩
        obtain ⟨u, hu, -⟩ := getI (show j < a.slots.length by omega)
        rw [show j + 1 - 1 = j by omega, hu]; exact .inr (h2 j u x (by omega) hu hx)
  · rw [hp, Bool.or_eq_true, h.sp, decide_eq_true_eq]
    constructor
    · rintro (⟨j, u, hj, hu, e⟩ | e)
      · exact ⟨j, u, by omega, hu, e⟩
      · exact ⟨i, x, by omega, hx, e⟩
    · rintro ⟨j, u, hj, hu, e⟩
      rcases Nat.lt_succ_iff_lt_or_eq.1 hj with hj | rfl
      · exact .inl ⟨j, u, hj, hu, e⟩
      · rw [hx] at hu; cases hu; exact .inr e
theorem RackI.done {a : AcL} {rb : Bool} {rs sp : Bool} (h : RackI a rb a.slots.length rs sp) : a.slots.any oddS = false ∧ rs = (rb && risesB Prod.fst a.slots) ∧ sp = a.slots.any spareS := by
  have hlt : ∀ (j : Nat) (x : BS × BS), a.slots[j]? = some x → j < a.slots.length := fun j x hx => (List.getElem?_eq_some_iff.1 hx).1
  refine ⟨any_none fun j x hx => h.odd j x (hlt j x hx) hx, ?_, ?_⟩
  · rw [Bool.eq_iff_iff, h.rs, Bool.and_eq_true]
    refine and_congr_right fun _ => ⟨fun hh => rises_yes fun j x y hx hy => hh j x y (hlt _ _ hy) hx hy, fun hh j x y _ hx hy => ?_⟩
    cases hb : Op.bytesLess x.1 y.1
    · rw [rises_no hx hy hb] at hh; cases hh
    · rfl
  · rw [Bool.eq_iff_iff, h.sp]
    constructor
    · rintro ⟨j, x, _, hx, e⟩
      exact any_at hx (by unfold spareS; rw [e]; simp)
    · intro hh
      obtain ⟨x, hx, e⟩ := List.any_eq_true.1 hh
      obtain ⟨j, hj⟩ := List.getElem?_of_mem hx
      exact ⟨j, x, hlt j x hj, hj, by simpa [spareS] using e⟩
theorem rack_odd {a : AcL} {j : Nat} {x : BS × BS} (p : Option BS) (hx : a.slots[j]? = some x) (h : ¬ (x.1.length = 32 ∧ x.2.length = 32)) : stepE p a.er = 2 := by
  rw [rack_step, if_pos (.inl (any_at (l := a.er.slots) hx (by unfold oddS; rw [Bool.or_eq_true, decide_eq_true_eq, decide_eq_true_eq]; omega)))]
theorem rack_end {a : AcL} {p : Option BS} {rs sp : Bool} (h : RackI a (rackR p a.er) a.slots.length rs sp) : stepE p a.er = if (a.addr.length : Int) ≠ 20 then 2 else if rs = false then 11 else if (a.code.length : Int) > 512 ∨ (a.slots.length : Int) > 16 then 5 else if sp = true then 8 else 0 := by
  obtain ⟨h1, h2, h3⟩ := h.done
  rw [rack_step, h2, h3, show a.er.slots.any oddS = false from h1]; refine ite_congr (propext ⟨fun hh => ?_, fun hh => ?_⟩) (fun _ => rfl) fun _ => ite_congr rfl (fun _ => rfl) fun _ => ite_congr (propext ⟨fun hh => ?_, fun hh => ?_⟩) (fun _ => rfl) fun _ => rfl
  · have hh : a.addr.length ≠ 20 := hh.elim (fun h => by cases h) id
    omega
  · exact .inr (show a.addr.length ≠ 20 by omega)
  · have hh : a.code.length > 512 ∨ a.slots.length > 16 := hh
    omega
  · show a.code.length > 512 ∨ a.slots.length > 16
    omega
set_option maxHeartbeats 1000000 in
set_option maxRecDepth 10000 in
theorem S_racct {R : List (Nat × Obj)} {a : AcL} (ha : a.In R) (p : Option BS) : PureR Tryz.prog 94 [a.val, .bool p.isNone, strV (p.getD [])].toArray (.int .i64 (stepE p a.er)) R := by
  have hl : a.slots.length ≤ 9223372036854775807 := ha.len
  have hseg := ha.seg
  obtain ⟨rb, hrb⟩ : ∃ b, b = rackR p a.er := ⟨_, rfl⟩
  have hrb2 : rb = (p.isNone || Op.bytesLess (p.getD []) a.addr) := hrb
  obtain ⟨first, hfirst⟩ : ∃ b, b = p.isNone := ⟨_, rfl⟩
  obtain ⟨last, hlast⟩ : ∃ b, b = p.getD [] := ⟨_, rfl⟩
  rw [← hfirst, ← hlast] at hrb2; rw [← hfirst, ← hlast]; refine pureR_of_HC Tryz.func94 rfl rfl fun w => ?_; refine HC_seq fun K1 hK1 => ?_; refine HC_region ?_; refine HL_box (cs := a.cells.toArray) rfl rfl rfl rfl fun ra => ?_; refine HL_r rfl rfl rfl rfl (R_assign rfl) ?_; refine HL_nil ?_; refine HQ_then ?_; refine hK1 _ _ _ _ ?_; clear hK1 K1; refine HC_seq fun K2 hK2 => ?_; refine HC_region ?_; refine HL_r rfl rfl rfl rfl (R_move rfl) ?_; refine HL_r rfl rfl rfl rfl (R_move rfl) ?_
  refine HL_case 11 rfl (fun hb3 => ?_) (fun hb3 => ?_) <;> (try simp only [Z1, Z2, Z3, Z4, Z5, Z6, Z7, Z8, Z9, Z10, Z11, Z12, Z13] at hb3) <;> first | (refine HL_r rfl rfl rfl rfl (R_fieldAddr rfl rfl (by first | (simp only [Nat.zero_add, Nat.reduceAdd, Nat.reduceMul, Nat.zero_mul, Nat.mul_one, Nat.add_zero]; exact rfl) | exact rfl)) ?_) | (refine HL_skip rfl rfl rfl ?_)
  all_goals first
    | (refine HL_r rfl rfl rfl rfl (R_load rfl (known_L (k := 0) rfl) rfl rfl) ?_)
    | (refine HL_skip rfl rfl rfl ?_)
  all_goals first
    | (refine HL_r rfl rfl rfl rfl (R_move rfl) ?_)
    | (refine HL_skip rfl rfl rfl ?_)
  all_goals first
    | (refine HL_r rfl rfl rfl rfl (R_strGt (a := a.addr) (b := last) rfl rfl) ?_)
    | (refine HL_skip rfl rfl rfl ?_)
  all_goals first
    | (refine HL_r rfl rfl rfl rfl (R_pickT rfl rfl) ?_)
    | (refine HL_r rfl rfl rfl rfl (R_pickF rfl rfl) ?_)
  all_goals first
    | (refine HL_as (as_bool (show true = rb by rw [hrb2]; simp_all)) ?_)
    | (refine HL_as (as_bool (show Op.bytesLess last a.addr = rb by rw [hrb2]; simp_all)) ?_)
  all_goals refine HL_r rfl rfl rfl rfl (R_assign rfl) ?_
  all_goals refine HL_nil ?_
  all_goals (
   refine HQ_then ?_; refine hK2 _ _ _ _ ?_; clear hK2 K2; refine HC_seq fun K7 hK7 => ?_; refine HC_region ?_; refine HL_r rfl rfl rfl rfl (R_assign rfl) ?_; refine HL_nil ?_; refine HQ_then ?_; refine hK7 _ _ _ _ ?_; clear hK7 K7; refine HC_seq fun K8 hK8 => ?_; refine HC_seq fun K9 hK9 => ?_; refine HC_region ?_; refine HL_r rfl rfl rfl rfl (R_assign rfl) ?_; refine HL_nil ?_; refine HQ_then ?_; refine hK9 _ _ _ _ ?_; clear hK9 K9; refine HC_block ?_; refine HC_loop (σ := Nat × Bool × Bool) (fun q => RackI a rb q.1 q.2.1 q.2.2) (fun q => [(3, ptV ra 0), (7, .bool q.2.1), (8, .bool q.2.2), (9, .int .i64 (q.1 : Int))]) (fun _ => [(ra, .cells a.cells.toArray 55 (0, 0))]) (fun _ _ _ => True) (fun q => a.slots.length - q.1) (0, rb, false) (RackI.zero a rb) (.cons rfl (.cons rfl (.cons rfl (.cons rfl .nil)))) (List.Sublist.refl _) (fun _ _ h => h) ?_; rintro ⟨i, rs, sp⟩ hinv; simp only at hinv; change HC _ _ [(3, _), (7, .bool rs), (8, .bool sp), (9, .int .i64 (i : Int))] _ _ _ _; refine HC_seq fun K10 hK10 => ?_; refine HC_seq fun K11 hK11 => ?_; refine HC_region ?_; refine HL_r rfl rfl rfl rfl (R_move rfl) ?_
   refine HL_r rfl rfl rfl rfl (R_fieldAddr rfl rfl (by first | (simp only [Nat.zero_add, Nat.reduceAdd, Nat.reduceMul, Nat.zero_mul, Nat.mul_one, Nat.add_zero]; exact rfl) | exact rfl)) ?_; refine HL_r rfl rfl rfl rfl (R_load rfl (known_L (k := 0) rfl) rfl rfl) ?_; refine HL_r rfl rfl rfl rfl (R_lenPl rfl hseg rfl) ?_; refine HL_r rfl rfl rfl rfl (R_pure rfl rfl rfl) ?_; refine HL_nil ?_; refine HQ_then ?_; refine hK11 _ _ _ _ ?_; clear hK11 K11; refine HC_cond rfl (fun h12 => ?_) (fun h12 => ?_)
   · try exact Bool.noConfusion h12
     try simp only [Z1, Z2, Z3, Z4, Z5, Z6, Z7, Z8, Z9, Z10, Z11, Z12, Z13] at h12
     refine HC_skip ?_; refine HQ_then ?_; refine hK10 _ _ _ _ ?_; clear hK10 K10; refine HC_seq fun K13 hK13 => ?_; refine HC_block ?_; refine HC_seq fun K14 hK14 => ?_; refine HC_seq fun K15 hK15 => ?_
     obtain ⟨x, hx, hmx⟩ := getI (show i < a.slots.length by omega)
     refine HC_region ?_
     refine HL_r rfl rfl rfl rfl (R_fieldAddr rfl rfl (by first | (simp only [Nat.zero_add, Nat.reduceAdd, Nat.reduceMul, Nat.zero_mul, Nat.mul_one, Nat.add_zero]; exact rfl) | exact rfl)) ?_; refine HL_r rfl rfl rfl rfl (R_load rfl (known_L (k := 0) rfl) rfl rfl) ?_; refine HL_r rfl rfl rfl rfl (R_move rfl) ?_
     refine HL_r rfl rfl rfl rfl (R_indexPl (j := i) rfl hseg rfl rfl rfl (by first | rfl | omega) (by omega)) ?_; refine HL_r rfl rfl rfl rfl (R_fieldAddr (off' := plO a.p + (i * 2 + 0)) rfl rfl (by show plO a.p + i * 2 + 0 = _; omega)) ?_; refine HL_r rfl rfl rfl rfl (R_loadEf slC_len (k := 0) (v := strV x.1) (fun q hq => Or.inr hq) rfl hseg hx rfl rfl) ?_; refine HL_r rfl rfl rfl rfl (R_lenBs rfl rfl) ?_; refine HL_r rfl rfl rfl rfl (R_pure rfl rfl rfl) ?_; refine HL_r rfl rfl rfl rfl (R_move rfl) ?_
     refine HL_case 32 rfl (fun hb16 => ?_) (fun hb16 => ?_) <;> (try simp only [Z1, Z2, Z3, Z4, Z5, Z6, Z7, Z8, Z9, Z10, Z11, Z12, Z13] at hb16) <;> first | (refine HL_r rfl rfl rfl rfl (R_fieldAddr rfl rfl (by first | (simp only [Nat.zero_add, Nat.reduceAdd, Nat.reduceMul, Nat.zero_mul, Nat.mul_one, Nat.add_zero]; exact rfl) | exact rfl)) ?_) | (refine HL_skip rfl rfl rfl ?_)
     all_goals first
       | (refine HL_r rfl rfl rfl rfl (R_load rfl (known_L (k := 0) rfl) rfl rfl) ?_)
       | (refine HL_skip rfl rfl rfl ?_)
     all_goals first
       | (refine HL_r rfl rfl rfl rfl (R_move rfl) ?_)
       | (refine HL_skip rfl rfl rfl ?_)
     all_goals first
       | (refine HL_r rfl rfl rfl rfl (R_indexPl (j := i) rfl hseg rfl rfl rfl (by first | rfl | omega) (by omega)) ?_)
       | (refine HL_skip rfl rfl rfl ?_)
     all_goals first
       | (refine HL_r rfl rfl rfl rfl (R_fieldAddr (off' := plO a.p + (i * 2 + 1)) rfl rfl (by show plO a.p + i * 2 + 1 = _; omega)) ?_)
       | (refine HL_skip rfl rfl rfl ?_)
     all_goals first
       | (refine HL_r rfl rfl rfl rfl (R_loadEf slC_len (k := 1) (v := strV x.2) (fun q hq => Or.inr hq) rfl hseg hx rfl rfl) ?_)
       | (refine HL_skip rfl rfl rfl ?_)
     all_goals first
       | (refine HL_r rfl rfl rfl rfl (R_lenBs rfl rfl) ?_)
       | (refine HL_skip rfl rfl rfl ?_)
     all_goals first
       | (refine HL_r rfl rfl rfl rfl (R_pure rfl rfl rfl) ?_)
       | (refine HL_skip rfl rfl rfl ?_)
     all_goals first
       | (refine HL_r rfl rfl rfl rfl (R_pickT rfl rfl) ?_)
       | (refine HL_r rfl rfl rfl rfl (R_pickF rfl rfl) ?_)
     all_goals refine HL_nil ?_
     all_goals (
      refine HQ_then ?_; refine hK15 _ _ _ _ ?_; clear hK15 K15; refine HC_cond rfl (fun h24 => ?_) (fun h24 => ?_)
      · try exact Bool.noConfusion h24
        try simp only [Z1, Z2, Z3, Z4, Z5, Z6, Z7, Z8, Z9, Z10, Z11, Z12, Z13] at h24
        refine HC_seq fun K25 hK25 => ?_; refine HC_region ?_; refine HL_r rfl rfl rfl rfl (R_assign rfl) ?_; refine HL_nil ?_; refine HQ_then ?_; refine hK25 _ _ _ _ ?_; clear hK25 K25; refine HC_ret ?_; refine HQ_thenR ?_; clear hK14 K14; refine HQ_blockR ?_; refine HQ_thenR ?_; clear hK13 K13; refine HQ_thenR ?_; refine HQ_blockR ?_; refine HQ_thenR ?_; clear hK8 K8; refine HQ_post rfl rfl (.cons (res_tmp rfl) .nil) (fun w1 hs1 => ?_); refine ⟨?_, hs1.keep⟩; rw [rack_odd p hx (by omega)]; rfl
      · try exact Bool.noConfusion h24
        all_goals try simp only [Z1, Z2, Z3, Z4, Z5, Z6, Z7, Z8, Z9, Z10, Z11, Z12, Z13] at h24
        all_goals (
         refine HC_skip ?_; refine HQ_then ?_; refine hK14 _ _ _ _ ?_; clear hK14 K14; refine HC_seq fun K26 hK26 => ?_
         have hxo : x.1.length = 32 ∧ x.2.length = 32 := by omega
         obtain ⟨nv, hnv⟩ : ∃ b, b = decide (x.2 = noneB) := ⟨_, rfl⟩
         refine HC_draw 22 (by kernel_rfl) (by kernel_rfl) ?_; refine HD_r rfl rfl rfl (R_move rfl) ?_; refine HD_r rfl rfl rfl (R_move rfl) ?_
         refine HD_case 43 rfl (fun hb27 => ?_) (fun hb27 => ?_) <;> (try simp only [Z1, Z2, Z3, Z4, Z5, Z6, Z7, Z8, Z9, Z10, Z11, Z12, Z13] at hb27) <;> first | (refine HD_r rfl rfl rfl (R_move rfl) ?_) | (refine HD_skip rfl rfl rfl ?_)
         all_goals first
           | (refine HD_r rfl rfl rfl (R_pure rfl rfl rfl) ?_; refine HD_as (as_bool (show _ = decide (i = 0) from by rw [Bool.eq_iff_iff]; simp)) ?_)
           | (refine HD_skip rfl rfl rfl ?_)
         all_goals first
           | (refine HD_r rfl rfl rfl (R_move rfl) ?_)
           | (refine HD_skip rfl rfl rfl ?_)
         all_goals first
           | (refine HD_skip rfl rfl rfl ?_)
           | (refine HD_case 46 rfl (fun hb30 => ?_) (fun hb30 => ?_) <;> (try simp only [Z1, Z2, Z3, Z4, Z5, Z6, Z7, Z8, Z9, Z10, Z11, Z12, Z13] at hb30) <;> first | (refine HD_r rfl rfl rfl (R_fieldAddr rfl rfl (by first | (simp only [Nat.zero_add, Nat.reduceAdd, Nat.reduceMul, Nat.zero_mul, Nat.mul_one, Nat.add_zero]; exact rfl) | exact rfl)) ?_) | (refine HD_skip rfl rfl rfl ?_))
         all_goals first
           | (refine HD_r rfl rfl rfl (R_load rfl (known_L (k := 0) rfl) rfl rfl) ?_)
           | (refine HD_skip rfl rfl rfl ?_)
         all_goals first
           | (refine HD_r rfl rfl rfl (R_move rfl) ?_)
           | (refine HD_skip rfl rfl rfl ?_)
         all_goals first
           | (refine HD_r rfl rfl rfl (R_indexPl (j := i) rfl hseg rfl rfl rfl (by first | rfl | omega) (by omega)) ?_)
           | (refine HD_skip rfl rfl rfl ?_)
         all_goals first
           | (refine HD_r rfl rfl rfl (R_fieldAddr (off' := plO a.p + (i * 2 + 0)) rfl rfl (by show plO a.p + i * 2 + 0 = _; omega)) ?_)
           | (refine HD_skip rfl rfl rfl ?_)
         all_goals first
           | (refine HD_r rfl rfl rfl (R_loadEf slC_len (k := 0) (v := strV x.1) (fun q hq => Or.inr hq) rfl hseg hx rfl rfl) ?_)
           | (refine HD_skip rfl rfl rfl ?_)
         all_goals first
           | (refine HD_r rfl rfl rfl (R_fieldAddr rfl rfl (by first | (simp only [Nat.zero_add, Nat.reduceAdd, Nat.reduceMul, Nat.zero_mul, Nat.mul_one, Nat.add_zero]; exact rfl) | exact rfl)) ?_)
           | (refine HD_skip rfl rfl rfl ?_)
         all_goals first
           | (refine HD_r rfl rfl rfl (R_load rfl (known_L (k := 0) rfl) rfl rfl) ?_)
           | (refine HD_skip rfl rfl rfl ?_)
         all_goals first
           | (refine HD_r rfl rfl rfl (R_move rfl) ?_)
           | (refine HD_skip rfl rfl rfl ?_)
         all_goals first
           | (refine HD_r rfl rfl rfl (R_pure rfl rfl rfl) ?_; refine HD_wrap_i64 (by omega) (by omega) ?_)
           | (refine HD_skip rfl rfl rfl ?_)
         all_goals first
           | (obtain ⟨y, hy, hmy⟩ := getI (show i - 1 < a.slots.length by omega); refine HD_r rfl rfl rfl (R_indexPl (j := (i - 1)) rfl hseg rfl rfl rfl (by first | rfl | omega) (by omega)) ?_)
           | (refine HD_skip rfl rfl rfl ?_)
         all_goals first
           | (refine HD_r rfl rfl rfl (R_fieldAddr (off' := plO a.p + ((i - 1) * 2 + 0)) rfl rfl (by show plO a.p + (i - 1) * 2 + 0 = _; omega)) ?_)
           | (refine HD_skip rfl rfl rfl ?_)
         all_goals first
           | (refine HD_r rfl rfl rfl (R_loadEf slC_len (k := 0) (v := strV y.1) (fun q hq => Or.inr hq) rfl hseg hy rfl rfl) ?_)
           | (refine HD_skip rfl rfl rfl ?_)
         all_goals first
           | (refine HD_r rfl rfl rfl (R_strGt (a := x.1) (b := y.1) rfl rfl) ?_; refine HD_as (as_bool (show Op.bytesLess y.1 x.1 = Op.bytesLess ((a.slots[i - 1]?.map Prod.fst).getD []) x.1 by rw [hy]; rfl)) ?_)
           | (refine HD_skip rfl rfl rfl ?_)
         all_goals first
           | (refine HD_r rfl rfl rfl (R_pickT rfl rfl) ?_)
           | (refine HD_r rfl rfl rfl (R_pickF rfl rfl) ?_)
           | (refine HD_skip rfl rfl rfl ?_)
         all_goals first
           | (refine HD_r rfl rfl rfl (R_pickT rfl rfl) ?_)
           | (refine HD_r rfl rfl rfl (R_pickF rfl rfl) ?_)
         all_goals refine HD_r rfl rfl rfl (R_assign rfl) ?_
         all_goals refine HD_end ?_
         all_goals refine HL_nil ?_
         all_goals (
          refine HQ_then ?_; refine hK26 _ _ _ _ ?_; clear hK26 K26; refine HC_draw 12 (by kernel_rfl) (by kernel_rfl) ?_; refine HD_r rfl rfl rfl (R_move rfl) ?_; refine HD_r rfl rfl rfl (R_move rfl) ?_
          refine HD_case 64 rfl (fun hb45 => ?_) (fun hb45 => ?_) <;> (try simp only [Z1, Z2, Z3, Z4, Z5, Z6, Z7, Z8, Z9, Z10, Z11, Z12, Z13] at hb45) <;> first | (refine HD_r rfl rfl rfl (R_fieldAddr rfl rfl (by first | (simp only [Nat.zero_add, Nat.reduceAdd, Nat.reduceMul, Nat.zero_mul, Nat.mul_one, Nat.add_zero]; exact rfl) | exact rfl)) ?_) | (refine HD_skip rfl rfl rfl ?_)
          all_goals first
            | (refine HD_r rfl rfl rfl (R_load rfl (known_L (k := 0) rfl) rfl rfl) ?_)
            | (refine HD_skip rfl rfl rfl ?_)
          all_goals first
            | (refine HD_r rfl rfl rfl (R_move rfl) ?_)
            | (refine HD_skip rfl rfl rfl ?_)
          all_goals first
            | (refine HD_r rfl rfl rfl (R_indexPl (j := i) rfl hseg rfl rfl rfl (by first | rfl | omega) (by omega)) ?_)
            | (refine HD_skip rfl rfl rfl ?_)
          all_goals first
            | (refine HD_r rfl rfl rfl (R_fieldAddr (off' := plO a.p + (i * 2 + 1)) rfl rfl (by show plO a.p + i * 2 + 1 = _; omega)) ?_)
            | (refine HD_skip rfl rfl rfl ?_)
          all_goals first
            | (refine HD_r rfl rfl rfl (R_loadEf slC_len (k := 1) (v := strV x.2) (fun q hq => Or.inr hq) rfl hseg hx rfl rfl) ?_)
            | (refine HD_skip rfl rfl rfl ?_)
          all_goals first
            | (refine HD_callP rfl rfl rfl (enters_of Tryz.func61 (by kernel_rfl) rfl) P_rNone ?_)
            | (refine HD_skip rfl rfl rfl ?_)
          all_goals first
            | (refine HD_r rfl rfl rfl (R_strEq (a := x.2) (b := noneB) rfl rfl) ?_; refine HD_as (as_bool hnv.symm) ?_)
            | (refine HD_skip rfl rfl rfl ?_)
          all_goals first
            | (refine HD_r rfl rfl rfl (R_pickT rfl rfl) ?_)
            | (refine HD_r rfl rfl rfl (R_pickF rfl rfl) ?_)
          all_goals refine HD_r rfl rfl rfl (R_assign rfl) ?_
          all_goals refine HD_end ?_
          all_goals refine HL_nil ?_
          all_goals (
           refine HQ_blockN ?_; refine HQ_then ?_; refine hK13 _ _ _ _ ?_; clear hK13 K13; refine HC_region ?_; refine HL_r rfl rfl rfl rfl (R_move rfl) ?_; refine HL_r rfl rfl rfl rfl (R_pure rfl rfl rfl) ?_; refine HL_wrap_i64 (by omega) (by omega) ?_; refine HL_r rfl rfl rfl rfl (R_assign rfl) ?_; refine HL_nil ?_; refine HQ_then ?_; refine HQ_again (i + 1, _, _) (RackI.next hinv hx hxo ?_ ?_) (by simp only; omega) (.cons rfl (.cons rfl (.cons rfl (.cons rfl .nil)))) (List.Sublist.refl _) (fun _ _ h => h)
           · simp_all
           · simp_all
           skip)
          skip)
         skip)
      skip)
   · try exact Bool.noConfusion h12
     try simp only [Z1, Z2, Z3, Z4, Z5, Z6, Z7, Z8, Z9, Z10, Z11, Z12, Z13] at h12
     refine HC_exit ?_; refine HQ_thenE ?_; clear hK10 K10; refine HQ_thenE ?_; refine HQ_blockE ?_; refine HQ_then ?_; refine hK8 _ _ _ _ ?_; clear hK8 K8; refine HC_seq fun K53 hK53 => ?_; refine HC_seq fun K54 hK54 => ?_
     obtain rfl : i = a.slots.length := by have := hinv.le; omega
     have hE := rack_end (p := p) (hrb ▸ hinv)
     refine HC_region ?_
     refine HL_r rfl rfl rfl rfl (R_fieldAddr rfl rfl (by first | (simp only [Nat.zero_add, Nat.reduceAdd, Nat.reduceMul, Nat.zero_mul, Nat.mul_one, Nat.add_zero]; exact rfl) | exact rfl)) ?_; refine HL_r rfl rfl rfl rfl (R_load rfl (known_L (k := 0) rfl) rfl rfl) ?_; refine HL_r rfl rfl rfl rfl (R_lenBs rfl rfl) ?_; refine HL_r rfl rfl rfl rfl (R_pure rfl rfl rfl) ?_; refine HL_nil ?_; refine HQ_then ?_; refine hK54 _ _ _ _ ?_; clear hK54 K54; refine HC_cond rfl (fun h55 => ?_) (fun h55 => ?_)
     · try exact Bool.noConfusion h55
       try simp only [Z1, Z2, Z3, Z4, Z5, Z6, Z7, Z8, Z9, Z10, Z11, Z12, Z13] at h55
       refine HC_seq fun K56 hK56 => ?_; refine HC_region ?_; refine HL_r rfl rfl rfl rfl (R_assign rfl) ?_; refine HL_nil ?_; refine HQ_then ?_; refine hK56 _ _ _ _ ?_; clear hK56 K56; refine HC_ret ?_; refine HQ_thenR ?_; clear hK53 K53; refine HQ_post rfl rfl (.cons (res_tmp rfl) .nil) (fun w1 hs1 => ?_); refine ⟨?_, hs1.keep⟩; rw [hE, if_pos (by omega)]; rfl
     · try exact Bool.noConfusion h55
       try simp only [Z1, Z2, Z3, Z4, Z5, Z6, Z7, Z8, Z9, Z10, Z11, Z12, Z13] at h55
       refine HC_skip ?_; refine HQ_then ?_; refine hK53 _ _ _ _ ?_; clear hK53 K53; refine HC_seq fun K57 hK57 => ?_; refine HC_seq fun K58 hK58 => ?_; refine HC_region ?_; refine HL_r rfl rfl rfl rfl (R_move rfl) ?_; refine HL_r rfl rfl rfl rfl (R_pure rfl rfl rfl) ?_; refine HL_nil ?_; refine HQ_then ?_; refine hK58 _ _ _ _ ?_; clear hK58 K58; refine HC_cond rfl (fun h59 => ?_) (fun h59 => ?_)
       · try exact Bool.noConfusion h59
         try simp only [Z1, Z2, Z3, Z4, Z5, Z6, Z7, Z8, Z9, Z10, Z11, Z12, Z13] at h59
         refine HC_seq fun K60 hK60 => ?_; refine HC_region ?_; refine HL_r rfl rfl rfl rfl (R_assign rfl) ?_; refine HL_nil ?_; refine HQ_then ?_; refine hK60 _ _ _ _ ?_; clear hK60 K60; refine HC_ret ?_; refine HQ_thenR ?_; clear hK57 K57; refine HQ_post rfl rfl (.cons (res_tmp rfl) .nil) (fun w1 hs1 => ?_); refine ⟨?_, hs1.keep⟩; rw [hE, if_neg (by omega), if_pos (by assumption)]; rfl
       · try exact Bool.noConfusion h59
         try simp only [Z1, Z2, Z3, Z4, Z5, Z6, Z7, Z8, Z9, Z10, Z11, Z12, Z13] at h59
         refine HC_skip ?_; refine HQ_then ?_; refine hK57 _ _ _ _ ?_; clear hK57 K57; refine HC_seq fun K61 hK61 => ?_; refine HC_seq fun K62 hK62 => ?_; refine HC_region ?_
         refine HL_r rfl rfl rfl rfl (R_fieldAddr rfl rfl (by first | (simp only [Nat.zero_add, Nat.reduceAdd, Nat.reduceMul, Nat.zero_mul, Nat.mul_one, Nat.add_zero]; exact rfl) | exact rfl)) ?_; refine HL_r rfl rfl rfl rfl (R_load rfl (known_L (k := 0) rfl) rfl rfl) ?_; refine HL_r rfl rfl rfl rfl (R_lenBs rfl rfl) ?_; refine HL_r rfl rfl rfl rfl (R_pure rfl rfl rfl) ?_; refine HL_r rfl rfl rfl rfl (R_move rfl) ?_
         refine HL_case 84 rfl (fun hb63 => ?_) (fun hb63 => ?_) <;> (try simp only [Z1, Z2, Z3, Z4, Z5, Z6, Z7, Z8, Z9, Z10, Z11, Z12, Z13] at hb63) <;> first | (refine HL_r rfl rfl rfl rfl (R_fieldAddr rfl rfl (by first | (simp only [Nat.zero_add, Nat.reduceAdd, Nat.reduceMul, Nat.zero_mul, Nat.mul_one, Nat.add_zero]; exact rfl) | exact rfl)) ?_) | (refine HL_skip rfl rfl rfl ?_)
         all_goals first
           | (refine HL_r rfl rfl rfl rfl (R_load rfl (known_L (k := 0) rfl) rfl rfl) ?_)
           | (refine HL_skip rfl rfl rfl ?_)
         all_goals first
           | (refine HL_r rfl rfl rfl rfl (R_lenPl rfl hseg rfl) ?_)
           | (refine HL_skip rfl rfl rfl ?_)
         all_goals first
           | (refine HL_r rfl rfl rfl rfl (R_pure rfl rfl rfl) ?_)
           | (refine HL_skip rfl rfl rfl ?_)
         all_goals first
           | (refine HL_r rfl rfl rfl rfl (R_pickT rfl rfl) ?_)
           | (refine HL_r rfl rfl rfl rfl (R_pickF rfl rfl) ?_)
         all_goals refine HL_nil ?_
         all_goals (
          refine HQ_then ?_; refine hK62 _ _ _ _ ?_; clear hK62 K62; refine HC_cond rfl (fun h67 => ?_) (fun h67 => ?_)
          · try exact Bool.noConfusion h67
            try simp only [Z1, Z2, Z3, Z4, Z5, Z6, Z7, Z8, Z9, Z10, Z11, Z12, Z13] at h67
            refine HC_seq fun K68 hK68 => ?_; refine HC_region ?_; refine HL_r rfl rfl rfl rfl (R_assign rfl) ?_; refine HL_nil ?_; refine HQ_then ?_; refine hK68 _ _ _ _ ?_; clear hK68 K68; refine HC_ret ?_; refine HQ_thenR ?_; clear hK61 K61; refine HQ_post rfl rfl (.cons (res_tmp rfl) .nil) (fun w1 hs1 => ?_); refine ⟨?_, hs1.keep⟩; rw [hE, if_neg (by omega), if_neg (by simp_all), if_pos (by omega)]; rfl
          · try exact Bool.noConfusion h67
            all_goals try simp only [Z1, Z2, Z3, Z4, Z5, Z6, Z7, Z8, Z9, Z10, Z11, Z12, Z13] at h67
            all_goals (
             refine HC_skip ?_; refine HQ_then ?_; refine hK61 _ _ _ _ ?_; clear hK61 K61; refine HC_seq fun K69 hK69 => ?_; refine HC_seq fun K70 hK70 => ?_; refine HC_region ?_; refine HL_r rfl rfl rfl rfl (R_move rfl) ?_; refine HL_nil ?_; refine HQ_then ?_; refine hK70 _ _ _ _ ?_; clear hK70 K70; refine HC_cond rfl (fun h71 => ?_) (fun h71 => ?_)
             · try exact Bool.noConfusion h71
               try simp only [Z1, Z2, Z3, Z4, Z5, Z6, Z7, Z8, Z9, Z10, Z11, Z12, Z13] at h71
               refine HC_seq fun K72 hK72 => ?_; refine HC_region ?_; refine HL_r rfl rfl rfl rfl (R_assign rfl) ?_; refine HL_nil ?_; refine HQ_then ?_; refine hK72 _ _ _ _ ?_; clear hK72 K72; refine HC_ret ?_; refine HQ_thenR ?_; clear hK69 K69; refine HQ_post rfl rfl (.cons (res_tmp rfl) .nil) (fun w1 hs1 => ?_); refine ⟨?_, hs1.keep⟩; rw [hE, if_neg (by omega), if_neg (by simp_all), if_neg (by omega), if_pos (by assumption)]; rfl
             · try exact Bool.noConfusion h71
               try simp only [Z1, Z2, Z3, Z4, Z5, Z6, Z7, Z8, Z9, Z10, Z11, Z12, Z13] at h71
               refine HC_skip ?_; refine HQ_then ?_; refine hK69 _ _ _ _ ?_; clear hK69 K69; refine HC_seq fun K73 hK73 => ?_; refine HC_region ?_; refine HL_r rfl rfl rfl rfl (R_assign rfl) ?_; refine HL_nil ?_; refine HQ_then ?_; refine hK73 _ _ _ _ ?_; clear hK73 K73; refine HC_ret ?_; refine HQ_post rfl rfl (.cons (res_tmp rfl) .nil) (fun w1 hs1 => ?_); refine ⟨?_, hs1.keep⟩; rw [hE, if_neg (by omega), if_neg (by simp_all), if_neg (by omega), if_neg (by simp_all)]; rfl
             skip)
          skip)
   skip)
theorem last_none {s : StL} {i : Nat} (hi : i ≤ s.accts.length) : ((i : Int) == 0) = (lastE s.er i).isNone := by
  cases i with
  | zero => rfl
  | succ j =>
    obtain ⟨a, ha, -⟩ := getI (show j < s.accts.length by omega)
    rw [last_er ha rfl]; exact ieqF (by omega)
set_option maxRecDepth 10000 in
theorem S_rCheck {R : List (Nat × Obj)} {s : StL} (hs : s.In R) : PureR Tryz.prog 52 [s.val].toArray (.int .i64 (chkS s.er)) R := by
  have hl : s.accts.length ≤ 9223372036854775807 := hs.len
  have hseg := hs.seg
  obtain ⟨hc5, hcg⟩ := chk_len s
  refine pureR_of_HC Tryz.func52 rfl rfl fun w => ?_; refine HC_seq fun K1 hK1 => ?_; refine HC_region ?_; refine HL_box (cs := s.cells.toArray) rfl rfl rfl rfl fun rs => ?_; refine HL_r rfl rfl rfl rfl (R_assign rfl) ?_; refine HL_nil ?_; refine HQ_then ?_; refine hK1 _ _ _ _ ?_; clear hK1 K1; refine HC_seq fun K2 hK2 => ?_; refine HC_seq fun K3 hK3 => ?_; refine HC_region ?_
  refine HL_r rfl rfl rfl rfl (R_fieldAddr rfl rfl (by first | (simp only [Nat.zero_add, Nat.reduceAdd, Nat.reduceMul, Nat.zero_mul, Nat.mul_one, Nat.add_zero]; exact rfl) | exact rfl)) ?_; refine HL_r rfl rfl rfl rfl (R_load rfl (known_L (k := 0) rfl) rfl rfl) ?_; refine HL_r rfl rfl rfl rfl (R_lenPl rfl hseg rfl) ?_; refine HL_r rfl rfl rfl rfl (R_pure rfl rfl rfl) ?_; refine HL_nil ?_; refine HQ_then ?_; refine hK3 _ _ _ _ ?_; clear hK3 K3; refine HC_cond rfl (fun h4 => ?_) (fun h4 => ?_)
  · try exact Bool.noConfusion h4
    try simp only [Z1, Z2, Z3, Z4, Z5, Z6, Z7, Z8, Z9, Z10, Z11, Z12, Z13] at h4
    refine HC_seq fun K5 hK5 => ?_; refine HC_region ?_; refine HL_r rfl rfl rfl rfl (R_assign rfl) ?_; refine HL_nil ?_; refine HQ_then ?_; refine hK5 _ _ _ _ ?_; clear hK5 K5; refine HC_ret ?_; refine HQ_thenR ?_; clear hK2 K2; refine HQ_post rfl rfl (.cons (res_tmp rfl) .nil) (fun w1 hs1 => ?_); refine ⟨?_, hs1.keep⟩; rw [hc5 (by assumption)]; rfl
  · try exact Bool.noConfusion h4
    try simp only [Z1, Z2, Z3, Z4, Z5, Z6, Z7, Z8, Z9, Z10, Z11, Z12, Z13] at h4
    refine HC_skip ?_; refine HQ_then ?_; refine hK2 _ _ _ _ ?_; clear hK2 K2; refine HC_seq fun K6 hK6 => ?_; refine HC_region ?_; refine HL_r rfl rfl rfl rfl (R_assign rfl) ?_; refine HL_nil ?_; refine HQ_then ?_; refine hK6 _ _ _ _ ?_; clear hK6 K6; refine HC_seq fun K7 hK7 => ?_; refine HC_seq fun K8 hK8 => ?_; refine HC_region ?_; refine HL_r rfl rfl rfl rfl (R_assign rfl) ?_; refine HL_nil ?_; refine HQ_then ?_; refine hK8 _ _ _ _ ?_; clear hK8 K8; refine HC_block ?_; refine HC_loop (σ := Nat) (fun i => i ≤ s.accts.length ∧ goS (lastE s.er i) (s.er.drop i) = goS none s.er) (fun i => [(1, ptV rs 0), (3, strV ((lastE s.er i).getD [])), (4, .int .i64 (i : Int))]) (fun _ => [(rs, .cells s.cells.toArray 24 (0, 0))]) (fun _ _ _ => True) (fun i => s.accts.length - i) 0 ⟨Nat.zero_le _, rfl⟩ (.cons rfl (.cons rfl (.cons rfl .nil))) (List.Sublist.refl _) (fun _ _ h => h) ?_; rintro i ⟨hi1, hinv⟩; refine HC_seq fun K9 hK9 => ?_; refine HC_seq fun K10 hK10 => ?_; refine HC_region ?_; refine HL_r rfl rfl rfl rfl (R_move rfl) ?_
    refine HL_r rfl rfl rfl rfl (R_fieldAddr rfl rfl (by first | (simp only [Nat.zero_add, Nat.reduceAdd, Nat.reduceMul, Nat.zero_mul, Nat.mul_one, Nat.add_zero]; exact rfl) | exact rfl)) ?_; refine HL_r rfl rfl rfl rfl (R_load rfl (known_L (k := 0) rfl) rfl rfl) ?_; refine HL_r rfl rfl rfl rfl (R_lenPl rfl hseg rfl) ?_; refine HL_r rfl rfl rfl rfl (R_pure rfl rfl rfl) ?_; refine HL_nil ?_; refine HQ_then ?_; refine hK10 _ _ _ _ ?_; clear hK10 K10; refine HC_cond rfl (fun h11 => ?_) (fun h11 => ?_)
    · try exact Bool.noConfusion h11
      try simp only [Z1, Z2, Z3, Z4, Z5, Z6, Z7, Z8, Z9, Z10, Z11, Z12, Z13] at h11
      refine HC_skip ?_; refine HQ_then ?_; refine hK9 _ _ _ _ ?_; clear hK9 K9; refine HC_seq fun K12 hK12 => ?_; refine HC_block ?_; refine HC_seq fun K13 hK13 => ?_
      obtain ⟨a, ha, hma⟩ := getI (show i < s.accts.length by omega)
      rw [go_step (er_get ha)] at hinv; refine HC_region ?_
      refine HL_r rfl rfl rfl rfl (R_fieldAddr rfl rfl (by first | (simp only [Nat.zero_add, Nat.reduceAdd, Nat.reduceMul, Nat.zero_mul, Nat.mul_one, Nat.add_zero]; exact rfl) | exact rfl)) ?_; refine HL_r rfl rfl rfl rfl (R_load rfl (known_L (k := 0) rfl) rfl rfl) ?_; refine HL_r rfl rfl rfl rfl (R_move rfl) ?_
      refine HL_r rfl rfl rfl rfl (R_indexPl (j := i) rfl hseg rfl rfl rfl (by first | rfl | omega) (by omega)) ?_; refine HL_r rfl rfl rfl rfl (R_loadEl AcL.len (fun q hq => Or.inr hq) rfl hseg ha rfl rfl) ?_; refine HL_r rfl rfl rfl rfl (R_move rfl) ?_; refine HL_r rfl rfl rfl rfl (R_pure rfl rfl rfl) ?_; refine HL_as (as_bool (last_none hi1)) ?_; refine HL_r rfl rfl rfl rfl (R_move rfl) ?_; refine HL_callR rfl rfl rfl (enters_of Tryz.func94 (by kernel_rfl) rfl) (S_racct (hs.accts a hma) (lastE s.er i)) (fun q hq => Or.inr hq) ?_; refine HL_r rfl rfl rfl rfl (R_assign rfl) ?_; refine HL_nil ?_; refine HQ_then ?_; refine hK13 _ _ _ _ ?_; clear hK13 K13; refine HC_seq fun K14 hK14 => ?_; refine HC_seq fun K15 hK15 => ?_; refine HC_region ?_; refine HL_r rfl rfl rfl rfl (R_move rfl) ?_; refine HL_r rfl rfl rfl rfl (R_pure rfl rfl rfl) ?_; refine HL_nil ?_; refine HQ_then ?_; refine hK15 _ _ _ _ ?_; clear hK15 K15; refine HC_cond rfl (fun h16 => ?_) (fun h16 => ?_)
      · try exact Bool.noConfusion h16
        try simp only [Z1, Z2, Z3, Z4, Z5, Z6, Z7, Z8, Z9, Z10, Z11, Z12, Z13] at h16
        refine HC_seq fun K17 hK17 => ?_; refine HC_region ?_; refine HL_r rfl rfl rfl rfl (R_move rfl) ?_; refine HL_r rfl rfl rfl rfl (R_assign rfl) ?_; refine HL_nil ?_; refine HQ_then ?_; refine hK17 _ _ _ _ ?_; clear hK17 K17; refine HC_ret ?_; refine HQ_thenR ?_; clear hK14 K14; refine HQ_blockR ?_; refine HQ_thenR ?_; clear hK12 K12; refine HQ_thenR ?_; refine HQ_blockR ?_; refine HQ_thenR ?_; clear hK7 K7; refine HQ_post rfl rfl (.cons (res_tmp rfl) .nil) (fun w1 hs1 => ?_); refine ⟨?_, hs1.keep⟩; rw [hcg (by omega), ← hinv, if_pos (by simp_all)]; rfl
      · try exact Bool.noConfusion h16
        try simp only [Z1, Z2, Z3, Z4, Z5, Z6, Z7, Z8, Z9, Z10, Z11, Z12, Z13] at h16
        refine HC_skip ?_; refine HQ_then ?_; refine hK14 _ _ _ _ ?_; clear hK14 K14; refine HC_region ?_
        refine HL_r rfl rfl rfl rfl (R_fieldAddr rfl rfl (by first | (simp only [Nat.zero_add, Nat.reduceAdd, Nat.reduceMul, Nat.zero_mul, Nat.mul_one, Nat.add_zero]; exact rfl) | exact rfl)) ?_; refine HL_r rfl rfl rfl rfl (R_load rfl (known_L (k := 0) rfl) rfl rfl) ?_; refine HL_r rfl rfl rfl rfl (R_move rfl) ?_
        refine HL_r rfl rfl rfl rfl (R_indexPl (j := i) rfl hseg rfl rfl rfl (by first | rfl | omega) (by omega)) ?_; refine HL_r rfl rfl rfl rfl (R_fieldAddr (off' := plO s.p + (i * 8 + 0)) rfl rfl (by show plO s.p + i * 8 + 0 = _; omega)) ?_; refine HL_r rfl rfl rfl rfl (R_loadEf AcL.len (k := 0) (v := strV a.addr) (fun q hq => Or.inr hq) rfl hseg ha rfl rfl) ?_; refine HL_r rfl rfl rfl rfl (R_assign rfl) ?_; refine HL_nil ?_; refine HQ_blockN ?_; refine HQ_then ?_; refine hK12 _ _ _ _ ?_; clear hK12 K12; refine HC_region ?_; refine HL_r rfl rfl rfl rfl (R_move rfl) ?_; refine HL_r rfl rfl rfl rfl (R_pure rfl rfl rfl) ?_; refine HL_wrap_i64 (by omega) (by omega) ?_; refine HL_r rfl rfl rfl rfl (R_assign rfl) ?_; refine HL_nil ?_; refine HQ_then ?_; exact HQ_again (i + 1) ⟨by omega, by rw [if_neg (by simp_all)] at hinv; exact hinv⟩ (by omega) (.cons rfl (.cons (by rw [last_er ha rfl]; rfl) (.cons rfl .nil))) (List.Sublist.refl _) (fun _ _ h => h)
    · try exact Bool.noConfusion h11
      try simp only [Z1, Z2, Z3, Z4, Z5, Z6, Z7, Z8, Z9, Z10, Z11, Z12, Z13] at h11
      refine HC_exit ?_; refine HQ_thenE ?_; clear hK9 K9; refine HQ_thenE ?_; refine HQ_blockE ?_; refine HQ_then ?_; refine hK7 _ _ _ _ ?_; clear hK7 K7; refine HC_seq fun K18 hK18 => ?_; refine HC_region ?_; refine HL_r rfl rfl rfl rfl (R_assign rfl) ?_; refine HL_nil ?_; refine HQ_then ?_; refine hK18 _ _ _ _ ?_; clear hK18 K18; refine HC_ret ?_; refine HQ_post rfl rfl (.cons (res_tmp rfl) .nil) (fun w1 hs1 => ?_); refine ⟨?_, hs1.keep⟩; rw [hcg (by omega), ← hinv, List.drop_of_length_le (by rw [s.er_len]; omega)]; rfl
theorem same_er' {s t : StL} : s.er = t.er ↔ s.accts.length = t.accts.length ∧ ∀ (i : Nat) a b, s.accts[i]? = some a → t.accts[i]? = some b → a.er = b.er := by
  constructor
  · intro h
    refine ⟨by have := congrArg List.length h; rwa [s.er_len, t.er_len] at this, fun i a b ha hb => ?_⟩
    have h1 := er_get ha
    have h2 := er_get hb
    rw [h, h2] at h1; exact (Option.some.inj h1).symm
  · rintro ⟨h1, h2⟩
    apply List.ext_getElem?
    intro i
    by_cases hi : i < s.accts.length
    · obtain ⟨a, ha, _⟩ := getI hi
      obtain ⟨b, hb, _⟩ := getI (show i < t.accts.length by omega)
      rw [er_get ha, er_get hb, h2 i a b ha hb]
    · rw [List.getElem?_eq_none (by rw [s.er_len]; omega), List.getElem?_eq_none (by rw [t.er_len]; omega)]
set_option maxRecDepth 10000 in
theorem S_rSame {R : List (Nat × Obj)} {s t : StL} (hs : s.In R) (ht : t.In R) : PureR Tryz.prog 17 [s.val, t.val].toArray (.bool (decide (s.er = t.er))) R := by
  have hl : s.accts.length ≤ 9223372036854775807 := hs.len
  have hl2 : t.accts.length ≤ 9223372036854775807 := ht.len
  have h1 := hs.seg
  have h2 := ht.seg
  refine pureR_of_HC Tryz.func17 rfl rfl fun w => ?_; refine HC_seq fun K1 hK1 => ?_; refine HC_region ?_; refine HL_box (cs := s.cells.toArray) rfl rfl rfl rfl fun rs => ?_; refine HL_box (cs := t.cells.toArray) rfl rfl rfl rfl fun rt => ?_; refine HL_r rfl rfl rfl rfl (R_assign rfl) ?_; refine HL_nil ?_; refine HQ_then ?_; refine hK1 _ _ _ _ ?_; clear hK1 K1; refine HC_seq fun K2 hK2 => ?_; refine HC_seq fun K3 hK3 => ?_; refine HC_region ?_
  refine HL_r rfl rfl rfl rfl (R_fieldAddr rfl rfl (by first | (simp only [Nat.zero_add, Nat.reduceAdd, Nat.reduceMul, Nat.zero_mul, Nat.mul_one, Nat.add_zero]; exact rfl) | exact rfl)) ?_; refine HL_r rfl rfl rfl rfl (R_load rfl (known_L (k := 1) rfl) rfl rfl) ?_; refine HL_r rfl rfl rfl rfl (R_lenPl rfl h1 rfl) ?_
  refine HL_r rfl rfl rfl rfl (R_fieldAddr rfl rfl (by first | (simp only [Nat.zero_add, Nat.reduceAdd, Nat.reduceMul, Nat.zero_mul, Nat.mul_one, Nat.add_zero]; exact rfl) | exact rfl)) ?_; refine HL_r rfl rfl rfl rfl (R_load rfl (known_L (k := 0) rfl) rfl rfl) ?_; refine HL_r rfl rfl rfl rfl (R_lenPl rfl h2 rfl) ?_; refine HL_r rfl rfl rfl rfl (R_pure rfl rfl rfl) ?_; refine HL_nil ?_; refine HQ_then ?_; refine hK3 _ _ _ _ ?_; clear hK3 K3; refine HC_cond rfl (fun h4 => ?_) (fun h4 => ?_)
  · try exact Bool.noConfusion h4
    try simp only [Z1, Z2, Z3, Z4, Z5, Z6, Z7, Z8, Z9, Z10, Z11, Z12, Z13] at h4
    refine HC_seq fun K5 hK5 => ?_; refine HC_region ?_; refine HL_r rfl rfl rfl rfl (R_assign rfl) ?_; refine HL_nil ?_; refine HQ_then ?_; refine hK5 _ _ _ _ ?_; clear hK5 K5; refine HC_ret ?_; refine HQ_thenR ?_; clear hK2 K2; refine HQ_post rfl rfl (.cons (res_tmp rfl) .nil) (fun w1 hs1 => ?_); refine ⟨?_, hs1.keep⟩; rw [decide_eq_false (show ¬ s.er = t.er from fun e => by have := (same_er'.1 e).1; omega)]; rfl
  · try exact Bool.noConfusion h4
    try simp only [Z1, Z2, Z3, Z4, Z5, Z6, Z7, Z8, Z9, Z10, Z11, Z12, Z13] at h4
    refine HC_skip ?_; refine HQ_then ?_; refine hK2 _ _ _ _ ?_; clear hK2 K2; refine HC_seq fun K6 hK6 => ?_; refine HC_seq fun K7 hK7 => ?_; refine HC_region ?_; refine HL_r rfl rfl rfl rfl (R_assign rfl) ?_; refine HL_nil ?_; refine HQ_then ?_; refine hK7 _ _ _ _ ?_; clear hK7 K7; refine HC_block ?_
    have hll : s.accts.length = t.accts.length := by omega
    refine HC_loop (σ := Nat) (fun i => i ≤ s.accts.length ∧ ∀ q, q < i → ∀ a b, s.accts[q]? = some a → t.accts[q]? = some b → a.er = b.er) (fun i => [(2, ptV rs 0), (3, ptV rt 0), (5, .int .i64 (i : Int))]) (fun _ => [(rt, .cells t.cells.toArray 24 (0, 0)), (rs, .cells s.cells.toArray 24 (0, 0))]) (fun _ _ _ => True) (fun i => s.accts.length - i) 0 ⟨by omega, fun j hj => absurd hj (by omega)⟩ (.cons rfl (.cons rfl (.cons rfl .nil))) (List.Sublist.refl _) (fun _ _ h => h) ?_; rintro i ⟨hi1, hinv⟩; refine HC_seq fun K8 hK8 => ?_; refine HC_seq fun K9 hK9 => ?_; refine HC_region ?_; refine HL_r rfl rfl rfl rfl (R_move rfl) ?_
    refine HL_r rfl rfl rfl rfl (R_fieldAddr rfl rfl (by first | (simp only [Nat.zero_add, Nat.reduceAdd, Nat.reduceMul, Nat.zero_mul, Nat.mul_one, Nat.add_zero]; exact rfl) | exact rfl)) ?_; refine HL_r rfl rfl rfl rfl (R_load rfl (known_L (k := 1) rfl) rfl rfl) ?_; refine HL_r rfl rfl rfl rfl (R_lenPl rfl h1 rfl) ?_; refine HL_r rfl rfl rfl rfl (R_pure rfl rfl rfl) ?_; refine HL_nil ?_; refine HQ_then ?_; refine hK9 _ _ _ _ ?_; clear hK9 K9; refine HC_cond rfl (fun h10 => ?_) (fun h10 => ?_)
    · try exact Bool.noConfusion h10
      try simp only [Z1, Z2, Z3, Z4, Z5, Z6, Z7, Z8, Z9, Z10, Z11, Z12, Z13] at h10
      refine HC_skip ?_; refine HQ_then ?_; refine hK8 _ _ _ _ ?_; clear hK8 K8; refine HC_seq fun K11 hK11 => ?_; refine HC_block ?_; refine HC_seq fun K12 hK12 => ?_
      obtain ⟨x, hx, hmx⟩ := getI (show i < s.accts.length by omega)
      obtain ⟨y, hy, hmy⟩ := getI (show i < t.accts.length by omega)
      refine HC_draw 12 (by kernel_rfl) (by kernel_rfl) ?_
      refine HD_r rfl rfl rfl (R_fieldAddr rfl rfl (by first | (simp only [Nat.zero_add, Nat.reduceAdd, Nat.reduceMul, Nat.zero_mul, Nat.mul_one, Nat.add_zero]; exact rfl) | exact rfl)) ?_; refine HD_r rfl rfl rfl (R_load rfl (known_L (k := 1) rfl) rfl rfl) ?_; refine HD_r rfl rfl rfl (R_move rfl) ?_
      refine HD_r rfl rfl rfl (R_indexPl (j := i) rfl h1 rfl rfl rfl (by first | rfl | omega) (by omega)) ?_; refine HD_r rfl rfl rfl (R_loadEl AcL.len (fun q hq => Or.inr hq) rfl h1 hx rfl rfl) ?_
      refine HD_r rfl rfl rfl (R_fieldAddr rfl rfl (by first | (simp only [Nat.zero_add, Nat.reduceAdd, Nat.reduceMul, Nat.zero_mul, Nat.mul_one, Nat.add_zero]; exact rfl) | exact rfl)) ?_; refine HD_r rfl rfl rfl (R_load rfl (known_L (k := 0) rfl) rfl rfl) ?_; refine HD_r rfl rfl rfl (R_move rfl) ?_
      refine HD_r rfl rfl rfl (R_indexPl (j := i) rfl h2 rfl rfl rfl (by first | rfl | omega) (by omega)) ?_; refine HD_r rfl rfl rfl (R_loadEl AcL.len (fun q hq => Or.inr hq) rfl h2 hy rfl rfl) ?_; refine HD_callR rfl rfl rfl (enters_of Tryz.func41 (by kernel_rfl) rfl) (S_SameAcct (hs.accts x hmx) (ht.accts y hmy)) (fun q hq => Or.inr hq) ?_; refine HD_r rfl rfl rfl (R_pure rfl rfl rfl) ?_; refine HD_end ?_; refine HL_nil ?_; refine HQ_then ?_; refine hK12 _ _ _ _ ?_; clear hK12 K12; refine HC_cond rfl (fun h13 => ?_) (fun h13 => ?_)
      · try exact Bool.noConfusion h13
        try simp only [Z1, Z2, Z3, Z4, Z5, Z6, Z7, Z8, Z9, Z10, Z11, Z12, Z13] at h13
        refine HC_seq fun K14 hK14 => ?_; refine HC_region ?_; refine HL_r rfl rfl rfl rfl (R_assign rfl) ?_; refine HL_nil ?_; refine HQ_then ?_; refine hK14 _ _ _ _ ?_; clear hK14 K14; refine HC_ret ?_; refine HQ_blockR ?_; refine HQ_thenR ?_; clear hK11 K11; refine HQ_thenR ?_; refine HQ_blockR ?_; refine HQ_thenR ?_; clear hK6 K6; refine HQ_post rfl rfl (.cons (res_tmp rfl) .nil) (fun w1 hs1 => ?_); refine ⟨?_, hs1.keep⟩; rw [decide_eq_false (show ¬ s.er = t.er from fun e => by have := (same_er'.1 e).2 i x y hx hy; simp_all)]; rfl
      · try exact Bool.noConfusion h13
        try simp only [Z1, Z2, Z3, Z4, Z5, Z6, Z7, Z8, Z9, Z10, Z11, Z12, Z13] at h13
        refine HC_skip ?_; refine HQ_blockN ?_; refine HQ_then ?_; refine hK11 _ _ _ _ ?_; clear hK11 K11; refine HC_region ?_; refine HL_r rfl rfl rfl rfl (R_move rfl) ?_; refine HL_r rfl rfl rfl rfl (R_pure rfl rfl rfl) ?_; refine HL_wrap_i64 (by omega) (by omega) ?_; refine HL_r rfl rfl rfl rfl (R_assign rfl) ?_; refine HL_nil ?_; refine HQ_then ?_
        exact HQ_again (i + 1) ⟨by omega, fun q hq u v hu hv => by
          rcases Nat.lt_succ_iff_lt_or_eq.1 hq with hq | rfl
          · exact hinv q hq u v hu hv
          · rw [hx] at hu; rw [hy] at hv; cases hu; cases hv; simp_all⟩ (by omega) (.cons rfl (.cons rfl (.cons rfl .nil))) (List.Sublist.refl _) (fun _ _ h => h)
    · try exact Bool.noConfusion h10
      try simp only [Z1, Z2, Z3, Z4, Z5, Z6, Z7, Z8, Z9, Z10, Z11, Z12, Z13] at h10
      refine HC_exit ?_; refine HQ_thenE ?_; clear hK8 K8; refine HQ_thenE ?_; refine HQ_blockE ?_; refine HQ_then ?_; refine hK6 _ _ _ _ ?_; clear hK6 K6; refine HC_seq fun K15 hK15 => ?_; refine HC_region ?_; refine HL_r rfl rfl rfl rfl (R_assign rfl) ?_; refine HL_nil ?_; refine HQ_then ?_; refine hK15 _ _ _ _ ?_; clear hK15 K15; refine HC_ret ?_; refine HQ_post rfl rfl (.cons (res_tmp rfl) .nil) (fun w1 hs1 => ?_); refine ⟨?_, hs1.keep⟩; rw [decide_eq_true (same_er'.2 ⟨hll, fun q a b ha hb => hinv q (by have := (List.getElem?_eq_some_iff.1 ha).1; omega) a b ha hb⟩)]; rfl
end Go.Proofs.YtnkmbkndpoghdaaGreat
namespace Go.Proofs.YtnkmbkndpoghdaaGreat
set_option linter.all false
open Go.SL Go.RowKit Go.Shelf
/-! ### the reference of states: with, Put, Set -/
theorem chk_one (e : AcE) : chkS [e] = lkE e := by
  unfold chkS goS
  rw [if_neg (by show ¬ 1 > 32; decide), step_none]
  split
  · rfl
  · rename_i h
    rw [goS]; exact (Decidable.not_not.1 h).symm
/-- A slice that is grown element by element. -/
structure OutI {α : Type} (f : α → List Value) (sz : Nat) (acc : List α) (n : Nat) (xs : List Value) (row : Row) : Prop where
  num : n = acc.length
  cells : xs = acc.flatMap f
  ok : rowOk sz n xs row
theorem OutI.nil {α : Type} {f : α → List Value} {sz : Nat} : OutI f sz [] 0 [] none := ⟨rfl, rfl, rfl, rfl⟩
theorem OutI.snoc {α : Type} {f : α → List Value} {sz n : Nat} {acc : List α} {xs : List Value} {row row' : Row} (h : OutI f sz acc n xs row) {x : α} (h' : rowOk sz (n + 1) (xs ++ f x) row') : OutI f sz (acc ++ [x]) (n + 1) (xs ++ f x) row' :=
  ⟨by rw [List.length_append, h.num]; rfl, by rw [List.flatMap_append, h.cells]; simp, h'⟩
theorem merge_cons {α : Type} {kf : α → BS} {x y : α} {p : Bool} {ys : List α} : merge kf x p (y :: ys) = (if !p && !Op.bytesLess (kf y) (kf x) then [x] else []) ++ (if kf y = kf x then [] else [y]) ++ merge kf x (p || !Op.bytesLess (kf y) (kf x)) ys := rfl
theorem merge_step {α : Type} {kf : α → BS} {x : α} {res acc t : List α} {pt b : Bool} {ys : List α} (h : res = acc ++ ((if (!pt && !b) = true then [x] else []) ++ t ++ merge kf x (pt || !b) ys)) :
    (pt = false → b = false → res = (acc ++ [x]) ++ (t ++ merge kf x true ys)) ∧ (pt = true ∨ b = true → res = acc ++ (t ++ merge kf x pt ys)) := by
  rw [h]; refine ⟨fun h1 h2 => ?_, fun h1 => ?_⟩
  · subst h1 h2; simp
  · rcases h1 with h1 | h1 <;> subst h1 <;> simp
set_option maxRecDepth 10000 in
theorem S_rwith {R : List (Nat × Obj)} {l : List (BS × BS)} {p : Pl} (hl : l.length ≤ 1000) (hs : Seg R l.length (l.flatMap slC) p) (x : BS × BS) :
    PureT (α := { row : Row // rowOk 2 (merge Prod.fst x (decide (x.2 = noneB)) l).length ((merge Prod.fst x (decide (x.2 = noneB)) l).flatMap slC) row }) Tryz.prog 100 [plV l.length p, sltV x].toArray (fun y => rowV (merge Prod.fst x (decide (x.2 = noneB)) l).length y.1) [] (fun y => rowL 93 ((merge Prod.fst x (decide (x.2 = noneB)) l).flatMap slC) y.1) R := by
  obtain ⟨p0, hp0⟩ : ∃ b, b = decide (x.2 = noneB) := ⟨_, rfl⟩
  rw [← hp0]
  obtain ⟨res, hres⟩ : ∃ r, r = merge Prod.fst x p0 l := ⟨_, rfl⟩
  rw [← hres]; refine pureT_of_HC Tryz.func100 rfl rfl fun w => ?_; refine HC_seq fun K1 hK1 => ?_; refine HC_region ?_; refine HL_box (cs := (slC x).toArray) rfl rfl rfl rfl fun rx => ?_; refine HL_r rfl rfl rfl rfl (R_assign rfl) ?_; refine HL_nil ?_; refine HQ_then ?_; refine hK1 _ _ _ _ ?_; clear hK1 K1; refine HC_seq fun K2 hK2 => ?_; refine HC_region ?_; refine HL_r rfl rfl rfl rfl (R_assign rfl) ?_; refine HL_nil ?_; refine HQ_then ?_; refine hK2 _ _ _ _ ?_; clear hK2 K2; refine HC_seq fun K3 hK3 => ?_; refine HC_draw 5 (by kernel_rfl) (by kernel_rfl) ?_
  refine HD_r rfl rfl rfl (R_fieldAddr rfl rfl (by first | (simp only [Nat.zero_add, Nat.reduceAdd, Nat.reduceMul, Nat.zero_mul, Nat.mul_one, Nat.add_zero]; exact rfl) | exact rfl)) ?_; refine HD_r rfl rfl rfl (R_load rfl (known_L (k := 0) rfl) rfl rfl) ?_; refine HD_callP rfl rfl rfl (enters_of Tryz.func61 (by kernel_rfl) rfl) P_rNone ?_; refine HD_r rfl rfl rfl (R_strEq (a := x.2) (b := noneB) rfl rfl) ?_; refine HD_as (as_bool hp0.symm) ?_; refine HD_r rfl rfl rfl (R_assign rfl) ?_; refine HD_end ?_; refine HL_nil ?_; refine HQ_then ?_; refine hK3 _ _ _ _ ?_; clear hK3 K3; refine HC_seq fun K4 hK4 => ?_; refine HC_seq fun K5 hK5 => ?_; refine HC_region ?_; refine HL_r rfl rfl rfl rfl (R_assign rfl) ?_; refine HL_nil ?_; refine HQ_then ?_; refine hK5 _ _ _ _ ?_; clear hK5 K5; refine HC_block ?_; refine HC_loop (σ := Nat × Bool × List (BS × BS) × Nat × List Value × Row) (fun q => q.1 ≤ l.length ∧ res = q.2.2.1 ++ merge Prod.fst x q.2.1 (l.drop q.1) ∧ OutI slC 2 q.2.2.1 q.2.2.2.1 q.2.2.2.2.1 q.2.2.2.2.2 ∧ q.2.2.2.1 ≤ 2 * q.1) (fun q => [(0, plV l.length p), (3, ptV rx 0), (5, rowV q.2.2.2.1 q.2.2.2.2.2), (6, .bool q.2.1), (7, .int .i64 (q.1 : Int))]) (fun q => (rx, .cells (slC x).toArray 93 (0, 0)) :: rowL 93 q.2.2.2.2.1 q.2.2.2.2.2) (fun _ _ _ => True) (fun q => l.length - q.1) (0, p0, [], 0, [], none) ⟨Nat.zero_le _, hres, OutI.nil, Nat.zero_le _⟩ (.cons rfl (.cons rfl (.cons rfl (.cons rfl (.cons rfl .nil))))) (List.Sublist.refl _) (fun _ _ h => h) ?_; rintro ⟨i, pt, acc, n, xs, row⟩ ⟨hi1, hinv, ho, hn2⟩; simp only at hi1 hinv ho hn2; change HC _ _ [(0, _), (3, _), (5, rowV n row), (6, .bool pt), (7, .int .i64 (i : Int))] ((rx, _) :: rowL _ xs row) _ _ _; refine HC_seq fun K6 hK6 => ?_; refine HC_seq fun K7 hK7 => ?_; refine HC_region ?_; refine HL_r rfl rfl rfl rfl (R_move rfl) ?_; refine HL_r rfl rfl rfl rfl (R_move rfl) ?_; refine HL_r rfl rfl rfl rfl (R_lenPl rfl hs rfl) ?_; refine HL_r rfl rfl rfl rfl (R_pure rfl rfl rfl) ?_; refine HL_nil ?_; refine HQ_then ?_; refine hK7 _ _ _ _ ?_; clear hK7 K7; refine HC_cond rfl (fun h8 => ?_) (fun h8 => ?_)
  · try exact Bool.noConfusion h8
    try simp only [Z1, Z2, Z3, Z4, Z5, Z6, Z7, Z8, Z9, Z10, Z11, Z12, Z13] at h8
    refine HC_skip ?_; refine HQ_then ?_; refine hK6 _ _ _ _ ?_; clear hK6 K6; refine HC_seq fun K9 hK9 => ?_; refine HC_block ?_; refine HC_seq fun K10 hK10 => ?_; refine HC_seq fun K11 hK11 => ?_
    obtain ⟨y, hy, hmy⟩ := getI (show i < l.length by omega)
    rw [dropI hy, merge_cons] at hinv
    have hno := ho.num
    refine HC_draw 12 (by kernel_rfl) (by kernel_rfl) ?_; refine HD_r rfl rfl rfl (R_move rfl) ?_; refine HD_r rfl rfl rfl (R_pure rfl rfl rfl) ?_; refine HD_r rfl rfl rfl (R_move rfl) ?_
    refine HD_case 20 rfl (fun hb12 => ?_) (fun hb12 => ?_) <;> (try simp only [Z1, Z2, Z3, Z4, Z5, Z6, Z7, Z8, Z9, Z10, Z11, Z12, Z13] at hb12) <;> first | (refine HD_r rfl rfl rfl (R_move rfl) ?_) | (refine HD_skip rfl rfl rfl ?_)
    all_goals first
      | (refine HD_r rfl rfl rfl (R_move rfl) ?_)
      | (refine HD_skip rfl rfl rfl ?_)
    all_goals first
      | (refine HD_r rfl rfl rfl (R_indexPl (j := i) rfl hs rfl rfl rfl (by first | rfl | omega) (by omega)) ?_)
      | (refine HD_skip rfl rfl rfl ?_)
    all_goals first
      | (refine HD_r rfl rfl rfl (R_fieldAddr (off' := plO p + (i * 2 + 0)) rfl rfl (by show plO p + i * 2 + 0 = _; omega)) ?_)
      | (refine HD_skip rfl rfl rfl ?_)
    all_goals first
      | (refine HD_r rfl rfl rfl (R_loadEf slC_len (k := 0) (v := strV y.1) (fun q hq => Or.inr hq) rfl hs hy rfl rfl) ?_)
      | (refine HD_skip rfl rfl rfl ?_)
    all_goals first
      | (refine HD_r rfl rfl rfl (R_fieldAddr rfl rfl (by first | (simp only [Nat.zero_add, Nat.reduceAdd, Nat.reduceMul, Nat.zero_mul, Nat.mul_one, Nat.add_zero]; exact rfl) | exact rfl)) ?_)
      | (refine HD_skip rfl rfl rfl ?_)
    all_goals first
      | (refine HD_r rfl rfl rfl (R_load rfl (known_L (k := 0) rfl) rfl rfl) ?_)
      | (refine HD_skip rfl rfl rfl ?_)
    all_goals first
      | (refine HD_r rfl rfl rfl (R_strGe (a := y.1) (b := x.1) rfl rfl) ?_)
      | (refine HD_skip rfl rfl rfl ?_)
    all_goals first
      | (refine HD_r rfl rfl rfl (R_pickT rfl rfl) ?_)
      | (refine HD_r rfl rfl rfl (R_pickF rfl rfl) ?_)
    all_goals refine HD_end ?_
    all_goals refine HL_nil ?_
    all_goals (
     refine HQ_then ?_; refine hK11 _ _ _ _ ?_; clear hK11 K11; refine HC_cond rfl (fun h20 => ?_) (fun h20 => ?_)
     · try exact Bool.noConfusion h20
       all_goals try simp only [Z1, Z2, Z3, Z4, Z5, Z6, Z7, Z8, Z9, Z10, Z11, Z12, Z13] at h20
       all_goals (
        refine HC_seq fun K21 hK21 => ?_; refine HC_region ?_; refine HL_r rfl rfl rfl rfl (R_move rfl) ?_; refine HL_r rfl rfl rfl rfl (R_loadA (vs := slC x) rfl (known_L (k := 0) rfl) rfl rfl rfl rfl) ?_; refine HL_buildSlice (n := 1) (sz := 2) (vs := [_]) (zs := [_, _]) (r := slC x) rfl rfl rfl rfl rfl rfl rfl rfl rfl (by rw [made_list]; exact rfl) rfl fun rv => ?_; refine HL_appendRow (L0 := [_, _]) (xs := xs) (row := row) (n := n) (sz := 2) (b := 32) (news := slC x) (List.perm_append_comm (l₁ := [_, _])) rfl rfl rfl rfl (known_L (k := 0) rfl) rfl rfl rfl rfl rfl (by decide) rfl rfl rfl (by decide) ho.ok (by omega) (by omega) fun ra cap sp hra => ?_; refine HL_r rfl rfl rfl rfl (R_assign rfl) ?_; refine HL_nil ?_; refine HQ_then ?_; refine hK21 _ _ _ _ ?_; clear hK21 K21; refine HC_sel [2, 0] (L' := [_, _]) (by decide) rfl ?_
        obtain ⟨pt2, hpt2⟩ : ∃ b, b = true := ⟨_, rfl⟩
        refine HC_region ?_; refine HL_r rfl rfl rfl rfl (R_assign rfl) ?_; refine HL_as (congrArg Value.bool hpt2.symm) ?_; refine HL_nil ?_; refine HQ_then ?_; refine hK10 _ _ _ _ ?_; clear hK10 K10; refine HC_seq fun K22 hK22 => ?_
        (have ho1 := ho.snoc hra
         have hinv1 := (merge_step hinv).1 (by assumption) (by assumption)
         have hn1 : n + 1 ≤ 2 * i + 1 := by omega
         change HC _ _ ((6, .bool pt2) :: (5, rowV (n + 1) (some (ra, cap, sp))) :: _) ((rx, _) :: rowL 93 (xs ++ slC x) (some (ra, cap, sp))) _ _ _; clear hinv ho hno hra hn2
         generalize acc ++ [x] = acc at ho1 hinv1
         generalize n + 1 = n at ho1 hn1 ⊢
         generalize xs ++ slC x = xs at ho1 ⊢
         generalize (some (ra, cap, sp) : Row) = row at ho1 ⊢
         rw [← hpt2] at hinv1; clear hpt2
         obtain ⟨pt, rfl⟩ : ∃ b, b = pt2 := ⟨pt2, rfl⟩)
        have ho := ho1
        have hno := ho.num
        refine HC_draw 8 (by kernel_rfl) (by kernel_rfl) ?_; refine HD_r rfl rfl rfl (R_move rfl) ?_; refine HD_r rfl rfl rfl (R_move rfl) ?_
        refine HD_r rfl rfl rfl (R_indexPl (j := i) rfl hs rfl rfl rfl (by first | rfl | omega) (by omega)) ?_; refine HD_r rfl rfl rfl (R_fieldAddr (off' := plO p + (i * 2 + 0)) rfl rfl (by show plO p + i * 2 + 0 = _; omega)) ?_; refine HD_r rfl rfl rfl (R_loadEf slC_len (k := 0) (v := strV y.1) (fun q hq => Or.inr hq) rfl hs hy rfl rfl) ?_
        refine HD_r rfl rfl rfl (R_fieldAddr rfl rfl (by first | (simp only [Nat.zero_add, Nat.reduceAdd, Nat.reduceMul, Nat.zero_mul, Nat.mul_one, Nat.add_zero]; exact rfl) | exact rfl)) ?_; refine HD_r rfl rfl rfl (R_load rfl (known_L (k := 0) rfl) rfl rfl) ?_; refine HD_r rfl rfl rfl (R_strNe (a := y.1) (b := x.1) rfl rfl) ?_; refine HD_end ?_; refine HL_nil ?_; refine HQ_then ?_; refine hK22 _ _ _ _ ?_; clear hK22 K22; refine HC_cond rfl (fun h23 => ?_) (fun h23 => ?_)
        · try exact Bool.noConfusion h23
          try simp only [Z1, Z2, Z3, Z4, Z5, Z6, Z7, Z8, Z9, Z10, Z11, Z12, Z13] at h23
          refine HC_region ?_; refine HL_r rfl rfl rfl rfl (R_move rfl) ?_; refine HL_r rfl rfl rfl rfl (R_move rfl) ?_; refine HL_r rfl rfl rfl rfl (R_move rfl) ?_
          refine HL_r rfl rfl rfl rfl (R_indexPl (j := i) rfl hs rfl rfl rfl (by first | rfl | omega) (by omega)) ?_; refine HL_r rfl rfl rfl rfl (R_loadEl slC_len (fun q hq => Or.inr hq) rfl hs hy rfl rfl) ?_; refine HL_buildSlice (n := 1) (sz := 2) (vs := [_]) (zs := [_, _]) (r := slC y) rfl rfl rfl rfl rfl rfl rfl rfl rfl (by rw [made_list]; exact rfl) rfl fun rv => ?_; refine HL_appendRow (L0 := [_, _]) (xs := xs) (row := row) (n := n) (sz := 2) (b := 32) (news := slC y) (List.perm_append_comm (l₁ := [_, _])) rfl rfl rfl rfl (known_L (k := 0) rfl) rfl rfl rfl rfl rfl (by decide) rfl rfl rfl (by decide) ho.ok (by omega) (by omega) fun ra cap sp hra => ?_; refine HL_r rfl rfl rfl rfl (R_assign rfl) ?_; refine HL_nil ?_; refine HQ_blockN ?_; refine HQ_then ?_; refine hK9 _ _ _ _ ?_; clear hK9 K9; refine HC_region ?_; refine HL_r rfl rfl rfl rfl (R_move rfl) ?_; refine HL_r rfl rfl rfl rfl (R_pure rfl rfl rfl) ?_; refine HL_wrap_i64 (by omega) (by omega) ?_; refine HL_r rfl rfl rfl rfl (R_assign rfl) ?_; refine HL_nil ?_; refine HQ_then ?_
          (refine HQ_sel [2, 0] (L' := [_, _]) (by decide) rfl ?_
           exact HQ_again (i + 1, pt, acc ++ [y], n + 1, xs ++ slC y, some (ra, cap, sp)) ⟨by simp only; omega, by rw [hinv1, if_neg (by assumption)]; simp, ho.snoc hra, by simp only; omega⟩ (by simp only; omega) (.cons rfl (.cons rfl (.cons rfl (.cons rfl (.cons rfl .nil))))) (List.Sublist.refl _) (fun _ _ h => h))
        · try exact Bool.noConfusion h23
          try simp only [Z1, Z2, Z3, Z4, Z5, Z6, Z7, Z8, Z9, Z10, Z11, Z12, Z13] at h23
          refine HC_skip ?_; refine HQ_blockN ?_; refine HQ_then ?_; refine hK9 _ _ _ _ ?_; clear hK9 K9; refine HC_region ?_; refine HL_r rfl rfl rfl rfl (R_move rfl) ?_; refine HL_r rfl rfl rfl rfl (R_pure rfl rfl rfl) ?_; refine HL_wrap_i64 (by omega) (by omega) ?_; refine HL_r rfl rfl rfl rfl (R_assign rfl) ?_; refine HL_nil ?_; refine HQ_then ?_; exact HQ_again (i + 1, pt, acc, n, xs, row) ⟨by simp only; omega, by rw [hinv1, if_pos (by assumption)]; simp, ho, by simp only; omega⟩ (by simp only; omega) (.cons rfl (.cons rfl (.cons rfl (.cons rfl (.cons rfl .nil))))) (List.Sublist.refl _) (fun _ _ h => h)
        skip)
     · try exact Bool.noConfusion h20
       try simp only [Z1, Z2, Z3, Z4, Z5, Z6, Z7, Z8, Z9, Z10, Z11, Z12, Z13] at h20
       refine HC_skip ?_; refine HQ_then ?_; refine hK10 _ _ _ _ ?_; clear hK10 K10; refine HC_seq fun K24 hK24 => ?_
       (have ho1 := ho
        have hinv1 := (merge_step hinv).2 (by first | exact .inl (by assumption) | exact .inr (by assumption))
        have hn1 : n ≤ 2 * i + 1 := by omega
        clear hinv ho hno hn2)
       have ho := ho1
       have hno := ho.num
       refine HC_draw 8 (by kernel_rfl) (by kernel_rfl) ?_; refine HD_r rfl rfl rfl (R_move rfl) ?_; refine HD_r rfl rfl rfl (R_move rfl) ?_
       refine HD_r rfl rfl rfl (R_indexPl (j := i) rfl hs rfl rfl rfl (by first | rfl | omega) (by omega)) ?_; refine HD_r rfl rfl rfl (R_fieldAddr (off' := plO p + (i * 2 + 0)) rfl rfl (by show plO p + i * 2 + 0 = _; omega)) ?_; refine HD_r rfl rfl rfl (R_loadEf slC_len (k := 0) (v := strV y.1) (fun q hq => Or.inr hq) rfl hs hy rfl rfl) ?_
       refine HD_r rfl rfl rfl (R_fieldAddr rfl rfl (by first | (simp only [Nat.zero_add, Nat.reduceAdd, Nat.reduceMul, Nat.zero_mul, Nat.mul_one, Nat.add_zero]; exact rfl) | exact rfl)) ?_; refine HD_r rfl rfl rfl (R_load rfl (known_L (k := 0) rfl) rfl rfl) ?_; refine HD_r rfl rfl rfl (R_strNe (a := y.1) (b := x.1) rfl rfl) ?_; refine HD_end ?_; refine HL_nil ?_; refine HQ_then ?_; refine hK24 _ _ _ _ ?_; clear hK24 K24; refine HC_cond rfl (fun h25 => ?_) (fun h25 => ?_)
       · try exact Bool.noConfusion h25
         try simp only [Z1, Z2, Z3, Z4, Z5, Z6, Z7, Z8, Z9, Z10, Z11, Z12, Z13] at h25
         refine HC_region ?_; refine HL_r rfl rfl rfl rfl (R_move rfl) ?_; refine HL_r rfl rfl rfl rfl (R_move rfl) ?_; refine HL_r rfl rfl rfl rfl (R_move rfl) ?_
         refine HL_r rfl rfl rfl rfl (R_indexPl (j := i) rfl hs rfl rfl rfl (by first | rfl | omega) (by omega)) ?_; refine HL_r rfl rfl rfl rfl (R_loadEl slC_len (fun q hq => Or.inr hq) rfl hs hy rfl rfl) ?_; refine HL_buildSlice (n := 1) (sz := 2) (vs := [_]) (zs := [_, _]) (r := slC y) rfl rfl rfl rfl rfl rfl rfl rfl rfl (by rw [made_list]; exact rfl) rfl fun rv => ?_; refine HL_appendRow (L0 := [_, _]) (xs := xs) (row := row) (n := n) (sz := 2) (b := 32) (news := slC y) (List.perm_append_comm (l₁ := [_, _])) rfl rfl rfl rfl (known_L (k := 0) rfl) rfl rfl rfl rfl rfl (by decide) rfl rfl rfl (by decide) ho.ok (by omega) (by omega) fun ra cap sp hra => ?_; refine HL_r rfl rfl rfl rfl (R_assign rfl) ?_; refine HL_nil ?_; refine HQ_blockN ?_; refine HQ_then ?_; refine hK9 _ _ _ _ ?_; clear hK9 K9; refine HC_region ?_; refine HL_r rfl rfl rfl rfl (R_move rfl) ?_; refine HL_r rfl rfl rfl rfl (R_pure rfl rfl rfl) ?_; refine HL_wrap_i64 (by omega) (by omega) ?_; refine HL_r rfl rfl rfl rfl (R_assign rfl) ?_; refine HL_nil ?_; refine HQ_then ?_
         (refine HQ_sel [2, 0] (L' := [_, _]) (by decide) rfl ?_
          exact HQ_again (i + 1, pt, acc ++ [y], n + 1, xs ++ slC y, some (ra, cap, sp)) ⟨by simp only; omega, by rw [hinv1, if_neg (by assumption)]; simp, ho.snoc hra, by simp only; omega⟩ (by simp only; omega) (.cons rfl (.cons rfl (.cons rfl (.cons rfl (.cons rfl .nil))))) (List.Sublist.refl _) (fun _ _ h => h))
       · try exact Bool.noConfusion h25
         try simp only [Z1, Z2, Z3, Z4, Z5, Z6, Z7, Z8, Z9, Z10, Z11, Z12, Z13] at h25
         refine HC_skip ?_; refine HQ_blockN ?_; refine HQ_then ?_; refine hK9 _ _ _ _ ?_; clear hK9 K9; refine HC_region ?_; refine HL_r rfl rfl rfl rfl (R_move rfl) ?_; refine HL_r rfl rfl rfl rfl (R_pure rfl rfl rfl) ?_; refine HL_wrap_i64 (by omega) (by omega) ?_; refine HL_r rfl rfl rfl rfl (R_assign rfl) ?_; refine HL_nil ?_; refine HQ_then ?_; exact HQ_again (i + 1, pt, acc, n, xs, row) ⟨by simp only; omega, by rw [hinv1, if_pos (by assumption)]; simp, ho, by simp only; omega⟩ (by simp only; omega) (.cons rfl (.cons rfl (.cons rfl (.cons rfl (.cons rfl .nil))))) (List.Sublist.refl _) (fun _ _ h => h)
     skip)
  · try exact Bool.noConfusion h8
    try simp only [Z1, Z2, Z3, Z4, Z5, Z6, Z7, Z8, Z9, Z10, Z11, Z12, Z13] at h8
    refine HC_exit ?_; refine HQ_thenE ?_; clear hK6 K6; refine HQ_thenE ?_; refine HQ_blockE ?_; refine HQ_then ?_; refine hK4 _ _ _ _ ?_; clear hK4 K4; refine HC_seq fun K26 hK26 => ?_; refine HC_seq fun K27 hK27 => ?_
    obtain rfl : i = l.length := by omega
    rw [List.drop_length, merge] at hinv
    have hno := ho.num
    refine HC_region ?_; refine HL_r rfl rfl rfl rfl (R_move rfl) ?_; refine HL_r rfl rfl rfl rfl (R_pure rfl rfl rfl) ?_; refine HL_nil ?_; refine HQ_then ?_; refine hK27 _ _ _ _ ?_; clear hK27 K27; refine HC_cond rfl (fun h28 => ?_) (fun h28 => ?_)
    · try exact Bool.noConfusion h28
      try simp only [Z1, Z2, Z3, Z4, Z5, Z6, Z7, Z8, Z9, Z10, Z11, Z12, Z13] at h28
      refine HC_region ?_; refine HL_r rfl rfl rfl rfl (R_move rfl) ?_; refine HL_r rfl rfl rfl rfl (R_loadA (vs := slC x) rfl (known_L (k := 0) rfl) rfl rfl rfl rfl) ?_; refine HL_buildSlice (n := 1) (sz := 2) (vs := [_]) (zs := [_, _]) (r := slC x) rfl rfl rfl rfl rfl rfl rfl rfl rfl (by rw [made_list]; exact rfl) rfl fun rv => ?_; refine HL_appendRow (L0 := [_, _]) (xs := xs) (row := row) (n := n) (sz := 2) (b := 32) (news := slC x) (List.perm_append_comm (l₁ := [_, _])) rfl rfl rfl rfl (known_L (k := 0) rfl) rfl rfl rfl rfl rfl (by decide) rfl rfl rfl (by decide) ho.ok (by omega) (by omega) fun ra cap sp hra => ?_; refine HL_r rfl rfl rfl rfl (R_assign rfl) ?_; refine HL_nil ?_; refine HQ_then ?_; refine hK26 _ _ _ _ ?_; clear hK26 K26; refine HC_seq fun K29 hK29 => ?_; refine HC_region ?_; refine HL_r rfl rfl rfl rfl (R_move rfl) ?_; refine HL_r rfl rfl rfl rfl (R_assign rfl) ?_; refine HL_nil ?_; refine HQ_then ?_; refine hK29 _ _ _ _ ?_; clear hK29 K29; refine HC_ret ?_; refine HQ_post rfl rfl (.cons (res_tmp rfl) .nil) (fun w1 hs1 => ?_)
      (have hr : res = acc ++ [x] := by rw [hinv]; simp_all
       have ho1 := ho.snoc hra
       rw [← hr] at ho1
       obtain ⟨e1, e2, e3⟩ := ho1
       rw [← e1, ← e2]
       exact ⟨⟨some (ra, cap, sp), e3⟩, rfl, hs1.weakL (.cons_cons _ (List.nil_sublist _))⟩)
    · try exact Bool.noConfusion h28
      try simp only [Z1, Z2, Z3, Z4, Z5, Z6, Z7, Z8, Z9, Z10, Z11, Z12, Z13] at h28
      refine HC_skip ?_; refine HQ_then ?_; refine hK26 _ _ _ _ ?_; clear hK26 K26; refine HC_seq fun K30 hK30 => ?_; refine HC_region ?_; refine HL_r rfl rfl rfl rfl (R_move rfl) ?_; refine HL_r rfl rfl rfl rfl (R_assign rfl) ?_; refine HL_nil ?_; refine HQ_then ?_; refine hK30 _ _ _ _ ?_; clear hK30 K30; refine HC_ret ?_; refine HQ_post rfl rfl (.cons (res_tmp rfl) .nil) (fun w1 hs1 => ?_)
      (have hr : res = acc := by rw [hinv]; simp_all
       rw [← hr] at ho
       obtain ⟨e1, e2, e3⟩ := ho
       rw [← e1, ← e2]
       exact ⟨⟨row, e3⟩, rfl, hs1.weakL (.cons _ (List.Sublist.refl _))⟩)
theorem merge_mem {α : Type} {kf : α → BS} {x z : α} : ∀ {p : Bool} {l : List α}, z ∈ merge kf x p l → z = x ∨ z ∈ l
  | p, [], h => by
    rw [merge] at h
    split at h
    · cases h
    · exact .inl (List.mem_singleton.1 h)
  | p, y :: ys, h => by
    rw [merge_cons] at h
    rcases List.mem_append.1 h with h | h
    · rcases List.mem_append.1 h with h | h
      · split at h
        · exact .inl (List.mem_singleton.1 h)
        · cases h
      · split at h
        · cases h
        · rw [List.mem_singleton.1 h]; exact .inr List.mem_cons_self
    · exact (merge_mem h).imp id (List.mem_cons_of_mem _)
theorem one_seg {a : AcL} {r : Nat} : Seg [(r, .cells a.cells.toArray 55 (0, 0))] [a].length ([a].flatMap AcL.cells) (some (⟨r, 0, none⟩, 1)) := by
  have h := rowP_seg (row := some (r, 1, [])) (sz := 8) (n := 1) (e := 55) (cs := a.cells) ⟨rfl, rfl⟩ (by decide)
  simpa [rowL, rowP] using h
theorem one_in {R : List (Nat × Obj)} {a : AcL} (ha : a.In R) (r : Nat) : StL.In ((r, .cells a.cells.toArray 55 (0, 0)) :: R) ⟨[a], some (⟨r, 0, none⟩, 1)⟩ :=
  ⟨by show 1 ≤ _; decide, one_seg.mono fun q hq => by rw [List.mem_singleton.1 hq]; exact List.mem_cons_self, fun x hx => by rw [List.mem_singleton.1 hx]; exact ha.mono fun q hq => List.mem_cons_of_mem _ hq⟩
set_option maxHeartbeats 1000000 in
set_option maxRecDepth 10000 in
theorem S_rPut {R : List (Nat × Obj)} {s : StL} {a : AcL} (hs : s.In R) (ha : a.In R) : PureT (α := StRes R (putS s.er a.er)) Tryz.prog 56 [s.val, a.val].toArray (fun x => x.val) [] (fun x => x.L) R := by
  have hl := hs.len
  have hseg := hs.seg
  have hc := S_rCheck hs
  have hput : putS s.er a.er = if chkS s.er ≠ 0 then (s.er, chkS s.er) else if lkE a.er ≠ 0 then (s.er, lkE a.er) else if (insL AcE.addr a.er s.er).length > 32 then (s.er, 5) else (insL AcE.addr a.er s.er, 0) := rfl
  obtain ⟨res, hres⟩ : ∃ r, r = merge AcL.addr a false s.accts := ⟨_, rfl⟩
  have hset : chkS s.er = 0 → (insL AcE.addr a.er s.er) = res.map AcL.er ∧ s.accts.length ≤ 32 ∧ (insL AcE.addr a.er s.er).length = s.accts.length + (if foundB s a.addr then 0 else 1) := fun h => by
    have h' := chk_ok.1 h
    have h2 : Sorted AcL.addr s.accts := (er_sorted s).2 h'.2.2
    refine ⟨?_, by rw [← s.er_len]; exact h'.1, ?_⟩
    · rw [hres, merge_ins h2, ins_er]; rfl
    · rw [ins_len h'.2.2, s.er_len, found_eq]
      by_cases hf : (findS s.er a.addr).isSome = true
      · rw [if_pos hf, if_pos (show (lookL AcE.addr a.er.addr s.er).isSome = true from hf)]; rfl
      · rw [if_neg hf, if_neg (show ¬ (lookL AcE.addr a.er.addr s.er).isSome = true from hf)]
  refine pureT_of_HC Tryz.func56 rfl rfl fun w => ?_; refine HC_seq fun K1 hK1 => ?_; refine HC_region ?_; refine HL_box (cs := s.cells.toArray) rfl rfl rfl rfl fun rs => ?_; refine HL_box (cs := a.cells.toArray) rfl rfl rfl rfl fun ra => ?_; refine HL_alloc (cs := #[_]) rfl rfl rfl rfl fun r1 => ?_; refine HL_r rfl rfl rfl rfl (R_assign rfl) ?_; refine HL_nil ?_; refine HQ_then ?_; refine hK1 _ _ _ _ ?_; clear hK1 K1; refine HC_seq fun K2 hK2 => ?_; refine HC_region ?_; refine HL_r rfl rfl rfl rfl (R_loadArr (xs := s.cells) (n := 1) rfl (known_L (k := 2) rfl) rfl rfl rfl) ?_; refine HL_callR rfl rfl rfl (enters_of Tryz.func52 (by kernel_rfl) rfl) hc (fun q hq => Or.inr hq) ?_; refine HL_r rfl rfl rfl rfl (R_assign rfl) ?_; refine HL_nil ?_; refine HQ_then ?_; refine hK2 _ _ _ _ ?_; clear hK2 K2; refine HC_seq fun K3 hK3 => ?_; refine HC_seq fun K4 hK4 => ?_; refine HC_region ?_; refine HL_r rfl rfl rfl rfl (R_move rfl) ?_; refine HL_r rfl rfl rfl rfl (R_pure rfl rfl rfl) ?_; refine HL_nil ?_; refine HQ_then ?_; refine hK4 _ _ _ _ ?_; clear hK4 K4; refine HC_cond rfl (fun h5 => ?_) (fun h5 => ?_)
  · try exact Bool.noConfusion h5
    try simp only [Z1, Z2, Z3, Z4, Z5, Z6, Z7, Z8, Z9, Z10, Z11, Z12, Z13] at h5
    refine HC_seq fun K6 hK6 => ?_; refine HC_region ?_; refine HL_r rfl rfl rfl rfl (R_loadArr (xs := s.cells) (n := 1) rfl (known_L (k := 2) rfl) rfl rfl rfl) ?_; refine HL_r rfl rfl rfl rfl (R_move rfl) ?_; refine HL_storeArr (k := 0) (n := 1) (ys := s.cells) rfl rfl rfl rfl rfl rfl rfl rfl rfl ?_; refine HL_r rfl rfl rfl rfl (R_assign rfl) ?_; refine HL_nil ?_; refine HQ_then ?_; refine hK6 _ _ _ _ ?_; clear hK6 K6; refine HC_ret ?_; refine HQ_thenR ?_; clear hK3 K3; refine HQ_post rfl rfl (.cons (res_cellA (vs := [_]) rfl (known_L (k := 0) rfl) rfl rfl) (.cons (res_tmp rfl) .nil)) (fun w1 hs1 => ?_); rw [hput, if_pos (by omega)]; exact ⟨⟨s, chkS s.er, [], hs, rfl⟩, rfl, hs1.weakL (List.nil_sublist _)⟩
  · try exact Bool.noConfusion h5
    try simp only [Z1, Z2, Z3, Z4, Z5, Z6, Z7, Z8, Z9, Z10, Z11, Z12, Z13] at h5
    refine HC_skip ?_; refine HQ_then ?_; refine hK3 _ _ _ _ ?_; clear hK3 K3; refine HC_seq fun K7 hK7 => ?_; refine HC_region ?_; refine HL_r rfl rfl rfl rfl (R_loadArr (xs := a.cells) (n := 8) rfl (known_L (k := 1) rfl) rfl rfl rfl) ?_; refine HL_buildSlice (n := 1) (sz := 8) (vs := [_]) (zs := [_, _, _, _, _, _, _, _]) (r := a.cells) rfl rfl rfl rfl rfl rfl rfl rfl rfl (by rw [made_list]; exact rfl) rfl fun rv => ?_; refine HL_r rfl rfl rfl rfl (R_build (r := [_]) rfl rfl) ?_; refine HL_callR (v := .int .i64 (chkS (StL.er ⟨[a], some (⟨rv, 0, none⟩, 1)⟩))) rfl rfl rfl (enters_of Tryz.func52 (by kernel_rfl) rfl) (S_rCheck (one_in ha rv)) (fun q hq => (List.mem_cons.1 hq).imp (fun h => by rw [h]; exact List.mem_cons_self) id) ?_; refine HL_as (congrArg (Value.int .i64) (chk_one a.er)) ?_; refine HL_r rfl rfl rfl rfl (R_assign rfl) ?_; refine HL_nil ?_; refine HQ_then ?_; refine hK7 _ _ _ _ ?_; clear hK7 K7; refine HC_seq fun K8 hK8 => ?_; refine HC_seq fun K9 hK9 => ?_; refine HC_region ?_; refine HL_r rfl rfl rfl rfl (R_move rfl) ?_; refine HL_r rfl rfl rfl rfl (R_pure rfl rfl rfl) ?_; refine HL_nil ?_; refine HQ_then ?_; refine hK9 _ _ _ _ ?_; clear hK9 K9; refine HC_cond rfl (fun h10 => ?_) (fun h10 => ?_)
    · try exact Bool.noConfusion h10
      try simp only [Z1, Z2, Z3, Z4, Z5, Z6, Z7, Z8, Z9, Z10, Z11, Z12, Z13] at h10
      refine HC_seq fun K11 hK11 => ?_; refine HC_region ?_; refine HL_r rfl rfl rfl rfl (R_loadArr (xs := s.cells) (n := 1) rfl (known_L (k := 3) rfl) rfl rfl rfl) ?_; refine HL_r rfl rfl rfl rfl (R_move rfl) ?_; refine HL_storeArr (k := 1) (n := 1) (ys := s.cells) rfl rfl rfl rfl rfl rfl rfl rfl rfl ?_; refine HL_r rfl rfl rfl rfl (R_assign rfl) ?_; refine HL_nil ?_; refine HQ_then ?_; refine hK11 _ _ _ _ ?_; clear hK11 K11; refine HC_ret ?_; refine HQ_thenR ?_; clear hK8 K8; refine HQ_post rfl rfl (.cons (res_cellA (vs := [_]) rfl (known_L (k := 1) rfl) rfl rfl) (.cons (res_tmp rfl) .nil)) (fun w1 hs1 => ?_); rw [hput, if_neg (by omega), if_pos (by omega)]; exact ⟨⟨s, lkE a.er, [], hs, rfl⟩, rfl, hs1.weakL (List.nil_sublist _)⟩
    · try exact Bool.noConfusion h10
      try simp only [Z1, Z2, Z3, Z4, Z5, Z6, Z7, Z8, Z9, Z10, Z11, Z12, Z13] at h10
      refine HC_skip ?_; refine HQ_then ?_; refine hK8 _ _ _ _ ?_; clear hK8 K8; refine HC_seq fun K12 hK12 => ?_
      have hok := hset (by omega)
      refine HC_region ?_; refine HL_r rfl rfl rfl rfl (R_loadArr (xs := s.cells) (n := 1) rfl (known_L (k := 3) rfl) rfl rfl rfl) ?_
      refine HL_r rfl rfl rfl rfl (R_fieldAddr rfl rfl (by first | (simp only [Nat.zero_add, Nat.reduceAdd, Nat.reduceMul, Nat.zero_mul, Nat.mul_one, Nat.add_zero]; exact rfl) | exact rfl)) ?_; refine HL_r rfl rfl rfl rfl (R_load rfl (known_L (k := 2) rfl) rfl rfl) ?_; refine HL_callR rfl rfl rfl (enters_of Tryz.func54 (by kernel_rfl) rfl) (S_rFind hs a.addr) (fun q hq => Or.inr hq) ?_; refine HL_r rfl rfl rfl rfl (R_move rfl) ?_; refine HL_r rfl rfl rfl rfl (R_extract rfl rfl) ?_; refine HL_r rfl rfl rfl rfl (R_extract rfl rfl) ?_; refine HL_alloc (cs := #[_, _, _, _, _, _, _, _]) rfl rfl rfl rfl fun r2 => ?_; refine HL_storeArr (k := 0) (n := 8) (ys := ((findL s a.addr)).cells) rfl rfl rfl rfl rfl rfl rfl rfl rfl ?_; refine HL_r rfl rfl rfl rfl (R_assign rfl) ?_; refine HL_nil ?_; refine HQ_then ?_; refine hK12 _ _ _ _ ?_; clear hK12 K12; refine HC_seq fun K13 hK13 => ?_; refine HC_seq fun K14 hK14 => ?_; refine HC_region ?_; refine HL_r rfl rfl rfl rfl (R_move rfl) ?_; refine HL_r rfl rfl rfl rfl (R_pure rfl rfl rfl) ?_; refine HL_r rfl rfl rfl rfl (R_move rfl) ?_
      refine HL_case 36 rfl (fun hb15 => ?_) (fun hb15 => ?_) <;> (try simp only [Z1, Z2, Z3, Z4, Z5, Z6, Z7, Z8, Z9, Z10, Z11, Z12, Z13] at hb15) <;> first | (refine HL_r rfl rfl rfl rfl (R_fieldAddr rfl rfl (by first | (simp only [Nat.zero_add, Nat.reduceAdd, Nat.reduceMul, Nat.zero_mul, Nat.mul_one, Nat.add_zero]; exact rfl) | exact rfl)) ?_) | (refine HL_skip rfl rfl rfl ?_)
      all_goals first
        | (refine HL_r rfl rfl rfl rfl (R_load (v := plV s.accts.length s.p) rfl (known_L (k := 4) rfl) rfl rfl) ?_)
        | (refine HL_skip rfl rfl rfl ?_)
      all_goals first
        | (refine HL_r rfl rfl rfl rfl (R_lenPl rfl hseg rfl) ?_)
        | (refine HL_skip rfl rfl rfl ?_)
      all_goals first
        | (refine HL_r rfl rfl rfl rfl (R_pure rfl rfl rfl) ?_)
        | (refine HL_skip rfl rfl rfl ?_)
      all_goals first
        | (refine HL_r rfl rfl rfl rfl (R_pickT rfl rfl) ?_)
        | (refine HL_r rfl rfl rfl rfl (R_pickF rfl rfl) ?_)
      all_goals refine HL_nil ?_
      all_goals (
       refine HQ_then ?_; refine hK14 _ _ _ _ ?_; clear hK14 K14; refine HC_cond rfl (fun h19 => ?_) (fun h19 => ?_)
       · try exact Bool.noConfusion h19
         all_goals try simp only [Z1, Z2, Z3, Z4, Z5, Z6, Z7, Z8, Z9, Z10, Z11, Z12, Z13] at h19
         all_goals (
          refine HC_seq fun K20 hK20 => ?_; refine HC_region ?_; refine HL_r rfl rfl rfl rfl (R_loadArr (xs := s.cells) (n := 1) rfl (known_L (k := 4) rfl) rfl rfl rfl) ?_; refine HL_storeArr (k := 2) (n := 1) (ys := s.cells) rfl rfl rfl rfl rfl rfl rfl rfl rfl ?_; refine HL_r rfl rfl rfl rfl (R_assign rfl) ?_; refine HL_nil ?_; refine HQ_then ?_; refine hK20 _ _ _ _ ?_; clear hK20 K20; refine HC_ret ?_; refine HQ_thenR ?_; clear hK13 K13; refine HQ_post rfl rfl (.cons (res_cellA (vs := [_]) rfl (known_L (k := 2) rfl) rfl rfl) (.cons (res_tmp rfl) .nil)) (fun w1 hs1 => ?_); rw [hput, if_neg (by omega), if_neg (by omega), if_pos (by rw [hok.2.2, if_neg (by simp_all)]; omega)]; exact ⟨⟨s, 5, [], hs, rfl⟩, rfl, hs1.weakL (List.nil_sublist _)⟩
          skip)
       · try exact Bool.noConfusion h19
         try simp only [Z1, Z2, Z3, Z4, Z5, Z6, Z7, Z8, Z9, Z10, Z11, Z12, Z13] at h19
         refine HC_skip ?_; refine HQ_then ?_; refine hK13 _ _ _ _ ?_; clear hK13 K13; refine HC_seq fun K21 hK21 => ?_
         have hroom : (insL AcE.addr a.er s.er).length ≤ 32 := by
           rw [hok.2.2]
           have := hok.2.1
           first
           | (rw [if_pos (by assumption)]; omega)
           | (rw [if_neg (by simp_all)]; omega)
         refine HC_region ?_; refine HL_r rfl rfl rfl rfl (R_build (r := [_]) rfl rfl) ?_; refine HL_alloc (cs := #[_]) rfl rfl rfl rfl fun r3 => ?_
         refine HL_storeA (k := 0) (n := 1) (cs' := #[_]) (vs := #[_]) rfl rfl rfl rfl rfl rfl rfl (by exact Nat.le_of_ble_eq_true rfl) rfl (by first | (simp only [List.set_cons_zero, List.set_cons_succ]; exact rfl) | exact rfl) ?_; refine HL_nil ?_; refine HQ_then ?_; refine hK21 _ _ _ _ ?_; clear hK21 K21; refine HC_seq fun K22 hK22 => ?_; refine HC_region ?_; refine HL_r rfl rfl rfl rfl (R_assign rfl) ?_; refine HL_nil ?_; refine HQ_then ?_; refine hK22 _ _ _ _ ?_; clear hK22 K22; refine HC_seq fun K23 hK23 => ?_; refine HC_seq fun K24 hK24 => ?_; refine HC_region ?_; refine HL_r rfl rfl rfl rfl (R_assign rfl) ?_; refine HL_nil ?_; refine HQ_then ?_; refine hK24 _ _ _ _ ?_; clear hK24 K24; refine HC_block ?_; refine HC_sel [0, 5, 4, 3] (L' := [_, _, _, _]) (by decide) rfl ?_; refine HC_loop (σ := Nat × Bool × List AcL × Nat × List Value × Row) (fun q => q.1 ≤ s.accts.length ∧ res = q.2.2.1 ++ merge AcL.addr a q.2.1 (s.accts.drop q.1) ∧ OutI AcL.cells 8 q.2.2.1 q.2.2.2.1 q.2.2.2.2.1 q.2.2.2.2.2 ∧ q.2.2.2.1 ≤ 2 * q.1) (fun q => [(2, ptV rs 0), (3, ptV ra 0), (4, ptV r1 0), (5, .int .i64 0), (10, ptV r3 0), (11, .bool q.2.1), (12, .int .i64 (q.1 : Int))]) (fun q => (r3, .cells #[rowV q.2.2.2.1 q.2.2.2.2.2] 24 (0, 0)) :: (rs, .cells s.cells.toArray 24 (0, 0)) :: (ra, .cells a.cells.toArray 55 (0, 0)) :: (r1, .cells st0L.cells.toArray 24 (0, 0)) :: rowL 55 q.2.2.2.2.1 q.2.2.2.2.2) (fun _ _ _ => True) (fun q => s.accts.length - q.1) (0, false, [], 0, [], none) ⟨Nat.zero_le _, hres, OutI.nil, Nat.zero_le _⟩ (.cons rfl (.cons rfl (.cons rfl (.cons rfl (.cons rfl (.cons rfl (.cons rfl .nil))))))) (List.Sublist.refl _) (fun _ _ h => h) ?_; rintro ⟨i, pt, acc, n, xs, row⟩ ⟨hi1, hinv, ho, hn2⟩; simp only at hi1 hinv ho hn2; change HC _ _ [(2, _), (3, _), (4, _), (5, _), (10, _), (11, .bool pt), (12, .int .i64 (i : Int))] ((r3, .cells #[rowV n row] _ _) :: (rs, _) :: (ra, _) :: (r1, _) :: rowL _ xs row) _ _ _; refine HC_seq fun K25 hK25 => ?_; refine HC_seq fun K26 hK26 => ?_; refine HC_region ?_; refine HL_r rfl rfl rfl rfl (R_move rfl) ?_
         refine HL_r rfl rfl rfl rfl (R_fieldAddr rfl rfl (by first | (simp only [Nat.zero_add, Nat.reduceAdd, Nat.reduceMul, Nat.zero_mul, Nat.mul_one, Nat.add_zero]; exact rfl) | exact rfl)) ?_; refine HL_r rfl rfl rfl rfl (R_load (v := plV s.accts.length s.p) rfl (known_L (k := 1) rfl) rfl rfl) ?_; refine HL_r rfl rfl rfl rfl (R_lenPl rfl hseg rfl) ?_; refine HL_r rfl rfl rfl rfl (R_pure rfl rfl rfl) ?_; refine HL_nil ?_; refine HQ_then ?_; refine hK26 _ _ _ _ ?_; clear hK26 K26; refine HC_cond rfl (fun h27 => ?_) (fun h27 => ?_)
         · try exact Bool.noConfusion h27
           try simp only [Z1, Z2, Z3, Z4, Z5, Z6, Z7, Z8, Z9, Z10, Z11, Z12, Z13] at h27
           refine HC_skip ?_; refine HQ_then ?_; refine hK25 _ _ _ _ ?_; clear hK25 K25; refine HC_seq fun K28 hK28 => ?_; refine HC_block ?_; refine HC_seq fun K29 hK29 => ?_; refine HC_seq fun K30 hK30 => ?_
           obtain ⟨y, hy, hmy⟩ := getI (show i < s.accts.length by omega)
           rw [dropI hy, merge_cons] at hinv
           have hno := ho.num
           refine HC_draw 13 (by kernel_rfl) (by kernel_rfl) ?_; refine HD_r rfl rfl rfl (R_move rfl) ?_; refine HD_r rfl rfl rfl (R_pure rfl rfl rfl) ?_; refine HD_r rfl rfl rfl (R_move rfl) ?_
           refine HD_case 53 rfl (fun hb31 => ?_) (fun hb31 => ?_) <;> (try simp only [Z1, Z2, Z3, Z4, Z5, Z6, Z7, Z8, Z9, Z10, Z11, Z12, Z13] at hb31) <;> first | (refine HD_r rfl rfl rfl (R_fieldAddr rfl rfl (by first | (simp only [Nat.zero_add, Nat.reduceAdd, Nat.reduceMul, Nat.zero_mul, Nat.mul_one, Nat.add_zero]; exact rfl) | exact rfl)) ?_) | (refine HD_skip rfl rfl rfl ?_)
           all_goals first
             | (refine HD_r rfl rfl rfl (R_load (v := plV s.accts.length s.p) rfl (known_L (k := 1) rfl) rfl rfl) ?_)
             | (refine HD_skip rfl rfl rfl ?_)
           all_goals first
             | (refine HD_r rfl rfl rfl (R_move rfl) ?_)
             | (refine HD_skip rfl rfl rfl ?_)
           all_goals first
             | (refine HD_r rfl rfl rfl (R_indexPl (j := i) rfl hseg rfl rfl rfl (by first | rfl | omega) (by omega)) ?_)
             | (refine HD_skip rfl rfl rfl ?_)
           all_goals first
             | (refine HD_r rfl rfl rfl (R_fieldAddr (off' := plO s.p + (i * 8 + 0)) rfl rfl (by show plO s.p + i * 8 + 0 = _; omega)) ?_)
             | (refine HD_skip rfl rfl rfl ?_)
           all_goals first
             | (refine HD_r rfl rfl rfl (R_loadEf AcL.len (k := 0) (v := strV y.addr) (fun q hq => Or.inr hq) rfl hseg hy rfl rfl) ?_)
             | (refine HD_skip rfl rfl rfl ?_)
           all_goals first
             | (refine HD_r rfl rfl rfl (R_fieldAddr rfl rfl (by first | (simp only [Nat.zero_add, Nat.reduceAdd, Nat.reduceMul, Nat.zero_mul, Nat.mul_one, Nat.add_zero]; exact rfl) | exact rfl)) ?_)
             | (refine HD_skip rfl rfl rfl ?_)
           all_goals first
             | (refine HD_r rfl rfl rfl (R_load rfl (known_L (k := 2) rfl) rfl rfl) ?_)
             | (refine HD_skip rfl rfl rfl ?_)
           all_goals first
             | (refine HD_r rfl rfl rfl (R_strGe (a := y.addr) (b := a.addr) rfl rfl) ?_)
             | (refine HD_skip rfl rfl rfl ?_)
           all_goals first
             | (refine HD_r rfl rfl rfl (R_pickT rfl rfl) ?_)
             | (refine HD_r rfl rfl rfl (R_pickF rfl rfl) ?_)
           all_goals refine HD_end ?_
           all_goals refine HL_nil ?_
           all_goals (
            refine HQ_then ?_; refine hK30 _ _ _ _ ?_; clear hK30 K30; refine HC_cond rfl (fun h40 => ?_) (fun h40 => ?_)
            · try exact Bool.noConfusion h40
              all_goals try simp only [Z1, Z2, Z3, Z4, Z5, Z6, Z7, Z8, Z9, Z10, Z11, Z12, Z13] at h40
              all_goals (
               refine HC_seq fun K41 hK41 => ?_; refine HC_region ?_
               refine HL_r rfl rfl rfl rfl (R_fieldAddr rfl rfl (by first | (simp only [Nat.zero_add, Nat.reduceAdd, Nat.reduceMul, Nat.zero_mul, Nat.mul_one, Nat.add_zero]; exact rfl) | exact rfl)) ?_; refine HL_r rfl rfl rfl rfl (R_load rfl (known_L (k := 0) rfl) rfl rfl) ?_; refine HL_r rfl rfl rfl rfl (R_loadArr (xs := a.cells) (n := 8) rfl (known_L (k := 2) rfl) rfl rfl rfl) ?_; refine HL_buildSlice (n := 1) (sz := 8) (vs := [_]) (zs := [_, _, _, _, _, _, _, _]) (r := a.cells) rfl rfl rfl rfl rfl rfl rfl rfl rfl (by rw [made_list]; exact rfl) rfl fun rv => ?_; refine HL_appendRow (L0 := [_, _, _, _, _]) (xs := xs) (row := row) (n := n) (sz := 8) (b := 96) (news := a.cells) (List.perm_append_comm (l₁ := [_, _, _, _, _])) rfl rfl rfl rfl (known_L (k := 0) rfl) rfl rfl rfl rfl rfl (by decide) rfl rfl rfl (by decide) ho.ok (by omega) (by omega) fun rap cap sp hra => ?_
               refine HL_r rfl rfl rfl rfl (R_fieldAddr rfl rfl (by first | (simp only [Nat.zero_add, Nat.reduceAdd, Nat.reduceMul, Nat.zero_mul, Nat.mul_one, Nat.add_zero]; exact rfl) | exact rfl)) ?_; refine HL_store (k := 2) (cs' := #[rowV (n + 1) (some (rap, cap, sp))]) rfl rfl rfl rfl rfl rfl rfl rfl rfl rfl ?_; refine HL_nil ?_; refine HQ_then ?_; refine hK41 _ _ _ _ ?_; clear hK41 K41; refine HC_sel [2, 3, 4, 5, 0] (L' := [_, _, _, _, _]) (by decide) rfl ?_
               obtain ⟨pt2, hpt2⟩ : ∃ b, b = true := ⟨_, rfl⟩
               refine HC_region ?_; refine HL_r rfl rfl rfl rfl (R_assign rfl) ?_; refine HL_as (congrArg Value.bool hpt2.symm) ?_; refine HL_nil ?_; refine HQ_then ?_; refine hK29 _ _ _ _ ?_; clear hK29 K29; refine HC_seq fun K42 hK42 => ?_
               (have ho1 := ho.snoc hra
                have hinv1 := (merge_step hinv).1 (by assumption) (by assumption)
                have hn1 : n + 1 ≤ 2 * i + 1 := by omega
                change HC _ _ ((11, .bool pt2) :: _) ((r3, .cells #[rowV (n + 1) (some (rap, cap, sp))] _ _) :: (rs, _) :: (ra, _) :: (r1, _) :: rowL 55 (xs ++ a.cells) (some (rap, cap, sp))) _ _ _; clear hinv ho hno hra hn2
                generalize acc ++ [a] = acc at ho1 hinv1
                generalize n + 1 = n at ho1 hn1 ⊢
                generalize xs ++ a.cells = xs at ho1 ⊢
                generalize (some (rap, cap, sp) : Row) = row at ho1 ⊢
                rw [← hpt2] at hinv1; clear hpt2
                obtain ⟨pt, rfl⟩ : ∃ b, b = pt2 := ⟨pt2, rfl⟩)
               have ho := ho1
               have hno := ho.num
               refine HC_draw 9 (by kernel_rfl) (by kernel_rfl) ?_
               refine HD_r rfl rfl rfl (R_fieldAddr rfl rfl (by first | (simp only [Nat.zero_add, Nat.reduceAdd, Nat.reduceMul, Nat.zero_mul, Nat.mul_one, Nat.add_zero]; exact rfl) | exact rfl)) ?_; refine HD_r rfl rfl rfl (R_load (v := plV s.accts.length s.p) rfl (known_L (k := 1) rfl) rfl rfl) ?_; refine HD_r rfl rfl rfl (R_move rfl) ?_
               refine HD_r rfl rfl rfl (R_indexPl (j := i) rfl hseg rfl rfl rfl (by first | rfl | omega) (by omega)) ?_; refine HD_r rfl rfl rfl (R_fieldAddr (off' := plO s.p + (i * 8 + 0)) rfl rfl (by show plO s.p + i * 8 + 0 = _; omega)) ?_; refine HD_r rfl rfl rfl (R_loadEf AcL.len (k := 0) (v := strV y.addr) (fun q hq => Or.inr hq) rfl hseg hy rfl rfl) ?_
               refine HD_r rfl rfl rfl (R_fieldAddr rfl rfl (by first | (simp only [Nat.zero_add, Nat.reduceAdd, Nat.reduceMul, Nat.zero_mul, Nat.mul_one, Nat.add_zero]; exact rfl) | exact rfl)) ?_; refine HD_r rfl rfl rfl (R_load rfl (known_L (k := 2) rfl) rfl rfl) ?_; refine HD_r rfl rfl rfl (R_strNe (a := y.addr) (b := a.addr) rfl rfl) ?_; refine HD_end ?_; refine HL_nil ?_; refine HQ_then ?_; refine hK42 _ _ _ _ ?_; clear hK42 K42; refine HC_cond rfl (fun h43 => ?_) (fun h43 => ?_)
               · try exact Bool.noConfusion h43
                 try simp only [Z1, Z2, Z3, Z4, Z5, Z6, Z7, Z8, Z9, Z10, Z11, Z12, Z13] at h43
                 refine HC_drawA [(r3, .cells #[rowV n row] 24 (0, 0))] [(0, .pure), (1, .pure), (2, .pure), (4, .pure), (5, .pure), (7, .act (aeNew (slV 1) (.cells y.cells.toArray 55 (0, 0))))] 8 (by kernel_rfl) (by kernel_rfl) (fun p hp => List.mem_singleton.1 hp ▸ List.mem_cons_self) ?_
                 refine HA_p rfl rfl rfl rfl (fun _ hS => (R_fieldAddr rfl rfl (by first | (simp only [Nat.zero_add, Nat.reduceAdd, Nat.reduceMul, Nat.zero_mul, Nat.mul_one, Nat.add_zero]; exact rfl) | exact rfl))) ?_; refine HA_p rfl rfl rfl rfl (fun _ hS => (R_load rfl (.inl (hS _ (mem_nth (n := 0) rfl))) rfl rfl)) ?_
                 refine HA_p rfl rfl rfl rfl (fun _ hS => (R_fieldAddr rfl rfl (by first | (simp only [Nat.zero_add, Nat.reduceAdd, Nat.reduceMul, Nat.zero_mul, Nat.mul_one, Nat.add_zero]; exact rfl) | exact rfl))) ?_; refine HA_r rfl rfl rfl rfl (R_load (v := plV s.accts.length s.p) rfl (known_L (k := 1) rfl) rfl rfl) ?_; refine HA_p rfl rfl rfl rfl (fun _ hS => (R_move rfl)) ?_
                 refine HA_p rfl rfl rfl rfl (fun _ hS => (R_indexPl (j := i) rfl hseg rfl rfl rfl (by first | rfl | omega) (by omega))) ?_; refine HA_r rfl rfl rfl rfl (R_loadEl AcL.len (fun q hq => Or.inr hq) rfl hseg hy rfl rfl) ?_; refine HA_buildSlice (n := 1) (sz := 8) (vs := [_]) (zs := [_, _, _, _, _, _, _, _]) (r := y.cells) rfl rfl rfl rfl rfl rfl rfl rfl rfl rfl (by rw [made_list]; exact rfl) rfl (fun p hp => List.mem_singleton.1 hp ▸ List.mem_cons_self) fun rv => ?_; refine HA_end ?_; refine HL_appendRow (L0 := [_, _, _, _, _]) (xs := xs) (row := row) (n := n) (sz := 8) (b := 96) (news := y.cells) (List.perm_append_comm (l₁ := [_, _, _, _, _])) rfl rfl rfl rfl (known_L (k := 0) rfl) rfl rfl rfl rfl rfl (by decide) rfl rfl rfl (by decide) ho.ok (by omega) (by omega) fun rap cap sp hra => ?_
                 refine HL_r rfl rfl rfl rfl (R_fieldAddr rfl rfl (by first | (simp only [Nat.zero_add, Nat.reduceAdd, Nat.reduceMul, Nat.zero_mul, Nat.mul_one, Nat.add_zero]; exact rfl) | exact rfl)) ?_; refine HL_store (k := 2) (cs' := #[rowV (n + 1) (some (rap, cap, sp))]) rfl rfl rfl rfl rfl rfl rfl rfl rfl rfl ?_; refine HL_nil ?_; refine HQ_blockN ?_; refine HQ_then ?_; refine hK28 _ _ _ _ ?_; clear hK28 K28; refine HC_region ?_; refine HL_r rfl rfl rfl rfl (R_move rfl) ?_; refine HL_r rfl rfl rfl rfl (R_pure rfl rfl rfl) ?_; refine HL_wrap_i64 (by omega) (by omega) ?_; refine HL_r rfl rfl rfl rfl (R_assign rfl) ?_; refine HL_nil ?_; refine HQ_then ?_
                 (refine HQ_sel [2, 3, 4, 5, 0] (L' := [_, _, _, _, _]) (by decide) rfl ?_
                  exact HQ_again (i + 1, pt, acc ++ [y], n + 1, xs ++ y.cells, some (rap, cap, sp)) ⟨by simp only; omega, by rw [hinv1, if_neg (by assumption)]; simp, ho.snoc hra, by simp only; omega⟩ (by simp only; omega) (.cons rfl (.cons rfl (.cons rfl (.cons rfl (.cons rfl (.cons rfl (.cons rfl .nil))))))) (List.Sublist.refl _) (fun _ _ h => h))
               · try exact Bool.noConfusion h43
                 try simp only [Z1, Z2, Z3, Z4, Z5, Z6, Z7, Z8, Z9, Z10, Z11, Z12, Z13] at h43
                 refine HC_skip ?_; refine HQ_blockN ?_; refine HQ_then ?_; refine hK28 _ _ _ _ ?_; clear hK28 K28; refine HC_region ?_; refine HL_r rfl rfl rfl rfl (R_move rfl) ?_; refine HL_r rfl rfl rfl rfl (R_pure rfl rfl rfl) ?_; refine HL_wrap_i64 (by omega) (by omega) ?_; refine HL_r rfl rfl rfl rfl (R_assign rfl) ?_; refine HL_nil ?_; refine HQ_then ?_; exact HQ_again (i + 1, pt, acc, n, xs, row) ⟨by simp only; omega, by rw [hinv1, if_pos (by assumption)]; simp, ho, by simp only; omega⟩ (by simp only; omega) (.cons rfl (.cons rfl (.cons rfl (.cons rfl (.cons rfl (.cons rfl (.cons rfl .nil))))))) (List.Sublist.refl _) (fun _ _ h => h)
               skip)
            · try exact Bool.noConfusion h40
              try simp only [Z1, Z2, Z3, Z4, Z5, Z6, Z7, Z8, Z9, Z10, Z11, Z12, Z13] at h40
              refine HC_skip ?_; refine HQ_then ?_; refine hK29 _ _ _ _ ?_; clear hK29 K29; refine HC_seq fun K44 hK44 => ?_
              (have ho1 := ho
               have hinv1 := (merge_step hinv).2 (by first | exact .inl (by assumption) | exact .inr (by assumption))
               have hn1 : n ≤ 2 * i + 1 := by omega
               clear hinv ho hno hn2)
              have ho := ho1
              have hno := ho.num
              refine HC_draw 9 (by kernel_rfl) (by kernel_rfl) ?_
              refine HD_r rfl rfl rfl (R_fieldAddr rfl rfl (by first | (simp only [Nat.zero_add, Nat.reduceAdd, Nat.reduceMul, Nat.zero_mul, Nat.mul_one, Nat.add_zero]; exact rfl) | exact rfl)) ?_; refine HD_r rfl rfl rfl (R_load (v := plV s.accts.length s.p) rfl (known_L (k := 1) rfl) rfl rfl) ?_; refine HD_r rfl rfl rfl (R_move rfl) ?_
              refine HD_r rfl rfl rfl (R_indexPl (j := i) rfl hseg rfl rfl rfl (by first | rfl | omega) (by omega)) ?_; refine HD_r rfl rfl rfl (R_fieldAddr (off' := plO s.p + (i * 8 + 0)) rfl rfl (by show plO s.p + i * 8 + 0 = _; omega)) ?_; refine HD_r rfl rfl rfl (R_loadEf AcL.len (k := 0) (v := strV y.addr) (fun q hq => Or.inr hq) rfl hseg hy rfl rfl) ?_
              refine HD_r rfl rfl rfl (R_fieldAddr rfl rfl (by first | (simp only [Nat.zero_add, Nat.reduceAdd, Nat.reduceMul, Nat.zero_mul, Nat.mul_one, Nat.add_zero]; exact rfl) | exact rfl)) ?_; refine HD_r rfl rfl rfl (R_load rfl (known_L (k := 2) rfl) rfl rfl) ?_; refine HD_r rfl rfl rfl (R_strNe (a := y.addr) (b := a.addr) rfl rfl) ?_; refine HD_end ?_; refine HL_nil ?_; refine HQ_then ?_; refine hK44 _ _ _ _ ?_; clear hK44 K44; refine HC_cond rfl (fun h45 => ?_) (fun h45 => ?_)
              · try exact Bool.noConfusion h45
                try simp only [Z1, Z2, Z3, Z4, Z5, Z6, Z7, Z8, Z9, Z10, Z11, Z12, Z13] at h45
                refine HC_drawA [(r3, .cells #[rowV n row] 24 (0, 0))] [(0, .pure), (1, .pure), (2, .pure), (4, .pure), (5, .pure), (7, .act (aeNew (slV 1) (.cells y.cells.toArray 55 (0, 0))))] 8 (by kernel_rfl) (by kernel_rfl) (fun p hp => List.mem_singleton.1 hp ▸ List.mem_cons_self) ?_
                refine HA_p rfl rfl rfl rfl (fun _ hS => (R_fieldAddr rfl rfl (by first | (simp only [Nat.zero_add, Nat.reduceAdd, Nat.reduceMul, Nat.zero_mul, Nat.mul_one, Nat.add_zero]; exact rfl) | exact rfl))) ?_; refine HA_p rfl rfl rfl rfl (fun _ hS => (R_load rfl (.inl (hS _ (mem_nth (n := 0) rfl))) rfl rfl)) ?_
                refine HA_p rfl rfl rfl rfl (fun _ hS => (R_fieldAddr rfl rfl (by first | (simp only [Nat.zero_add, Nat.reduceAdd, Nat.reduceMul, Nat.zero_mul, Nat.mul_one, Nat.add_zero]; exact rfl) | exact rfl))) ?_; refine HA_r rfl rfl rfl rfl (R_load (v := plV s.accts.length s.p) rfl (known_L (k := 1) rfl) rfl rfl) ?_; refine HA_p rfl rfl rfl rfl (fun _ hS => (R_move rfl)) ?_
                refine HA_p rfl rfl rfl rfl (fun _ hS => (R_indexPl (j := i) rfl hseg rfl rfl rfl (by first | rfl | omega) (by omega))) ?_; refine HA_r rfl rfl rfl rfl (R_loadEl AcL.len (fun q hq => Or.inr hq) rfl hseg hy rfl rfl) ?_; refine HA_buildSlice (n := 1) (sz := 8) (vs := [_]) (zs := [_, _, _, _, _, _, _, _]) (r := y.cells) rfl rfl rfl rfl rfl rfl rfl rfl rfl rfl (by rw [made_list]; exact rfl) rfl (fun p hp => List.mem_singleton.1 hp ▸ List.mem_cons_self) fun rv => ?_; refine HA_end ?_; refine HL_appendRow (L0 := [_, _, _, _, _]) (xs := xs) (row := row) (n := n) (sz := 8) (b := 96) (news := y.cells) (List.perm_append_comm (l₁ := [_, _, _, _, _])) rfl rfl rfl rfl (known_L (k := 0) rfl) rfl rfl rfl rfl rfl (by decide) rfl rfl rfl (by decide) ho.ok (by omega) (by omega) fun rap cap sp hra => ?_
                refine HL_r rfl rfl rfl rfl (R_fieldAddr rfl rfl (by first | (simp only [Nat.zero_add, Nat.reduceAdd, Nat.reduceMul, Nat.zero_mul, Nat.mul_one, Nat.add_zero]; exact rfl) | exact rfl)) ?_; refine HL_store (k := 2) (cs' := #[rowV (n + 1) (some (rap, cap, sp))]) rfl rfl rfl rfl rfl rfl rfl rfl rfl rfl ?_; refine HL_nil ?_; refine HQ_blockN ?_; refine HQ_then ?_; refine hK28 _ _ _ _ ?_; clear hK28 K28; refine HC_region ?_; refine HL_r rfl rfl rfl rfl (R_move rfl) ?_; refine HL_r rfl rfl rfl rfl (R_pure rfl rfl rfl) ?_; refine HL_wrap_i64 (by omega) (by omega) ?_; refine HL_r rfl rfl rfl rfl (R_assign rfl) ?_; refine HL_nil ?_; refine HQ_then ?_
                (refine HQ_sel [2, 3, 4, 5, 0] (L' := [_, _, _, _, _]) (by decide) rfl ?_
                 exact HQ_again (i + 1, pt, acc ++ [y], n + 1, xs ++ y.cells, some (rap, cap, sp)) ⟨by simp only; omega, by rw [hinv1, if_neg (by assumption)]; simp, ho.snoc hra, by simp only; omega⟩ (by simp only; omega) (.cons rfl (.cons rfl (.cons rfl (.cons rfl (.cons rfl (.cons rfl (.cons rfl .nil))))))) (List.Sublist.refl _) (fun _ _ h => h))
              · try exact Bool.noConfusion h45
                try simp only [Z1, Z2, Z3, Z4, Z5, Z6, Z7, Z8, Z9, Z10, Z11, Z12, Z13] at h45
                refine HC_skip ?_; refine HQ_blockN ?_; refine HQ_then ?_; refine hK28 _ _ _ _ ?_; clear hK28 K28; refine HC_region ?_; refine HL_r rfl rfl rfl rfl (R_move rfl) ?_; refine HL_r rfl rfl rfl rfl (R_pure rfl rfl rfl) ?_; refine HL_wrap_i64 (by omega) (by omega) ?_; refine HL_r rfl rfl rfl rfl (R_assign rfl) ?_; refine HL_nil ?_; refine HQ_then ?_; exact HQ_again (i + 1, pt, acc, n, xs, row) ⟨by simp only; omega, by rw [hinv1, if_pos (by assumption)]; simp, ho, by simp only; omega⟩ (by simp only; omega) (.cons rfl (.cons rfl (.cons rfl (.cons rfl (.cons rfl (.cons rfl (.cons rfl .nil))))))) (List.Sublist.refl _) (fun _ _ h => h)
            skip)
         · try exact Bool.noConfusion h27
           try simp only [Z1, Z2, Z3, Z4, Z5, Z6, Z7, Z8, Z9, Z10, Z11, Z12, Z13] at h27
           refine HC_exit ?_; refine HQ_thenE ?_; clear hK25 K25; refine HQ_thenE ?_; refine HQ_blockE ?_; refine HQ_then ?_; refine hK23 _ _ _ _ ?_; clear hK23 K23; refine HC_seq fun K46 hK46 => ?_; refine HC_seq fun K47 hK47 => ?_
           obtain rfl : i = s.accts.length := by omega
           rw [List.drop_length, merge] at hinv
           have hno := ho.num
           refine HC_region ?_; refine HL_r rfl rfl rfl rfl (R_move rfl) ?_; refine HL_r rfl rfl rfl rfl (R_pure rfl rfl rfl) ?_; refine HL_nil ?_; refine HQ_then ?_; refine hK47 _ _ _ _ ?_; clear hK47 K47; refine HC_cond rfl (fun h48 => ?_) (fun h48 => ?_)
           · try exact Bool.noConfusion h48
             try simp only [Z1, Z2, Z3, Z4, Z5, Z6, Z7, Z8, Z9, Z10, Z11, Z12, Z13] at h48
             refine HC_region ?_
             refine HL_r rfl rfl rfl rfl (R_fieldAddr rfl rfl (by first | (simp only [Nat.zero_add, Nat.reduceAdd, Nat.reduceMul, Nat.zero_mul, Nat.mul_one, Nat.add_zero]; exact rfl) | exact rfl)) ?_; refine HL_r rfl rfl rfl rfl (R_load rfl (known_L (k := 0) rfl) rfl rfl) ?_; refine HL_r rfl rfl rfl rfl (R_loadArr (xs := a.cells) (n := 8) rfl (known_L (k := 2) rfl) rfl rfl rfl) ?_; refine HL_buildSlice (n := 1) (sz := 8) (vs := [_]) (zs := [_, _, _, _, _, _, _, _]) (r := a.cells) rfl rfl rfl rfl rfl rfl rfl rfl rfl (by rw [made_list]; exact rfl) rfl fun rv => ?_; refine HL_appendRow (L0 := [_, _, _, _, _]) (xs := xs) (row := row) (n := n) (sz := 8) (b := 96) (news := a.cells) (List.perm_append_comm (l₁ := [_, _, _, _, _])) rfl rfl rfl rfl (known_L (k := 0) rfl) rfl rfl rfl rfl rfl (by decide) rfl rfl rfl (by decide) ho.ok (by omega) (by omega) fun rap cap sp hra => ?_
             refine HL_r rfl rfl rfl rfl (R_fieldAddr rfl rfl (by first | (simp only [Nat.zero_add, Nat.reduceAdd, Nat.reduceMul, Nat.zero_mul, Nat.mul_one, Nat.add_zero]; exact rfl) | exact rfl)) ?_; refine HL_store (k := 2) (cs' := #[rowV (n + 1) (some (rap, cap, sp))]) rfl rfl rfl rfl rfl rfl rfl rfl rfl rfl ?_; refine HL_nil ?_; refine HQ_then ?_; refine hK46 _ _ _ _ ?_; clear hK46 K46; refine HC_seq fun K49 hK49 => ?_
             (refine HC_sel [2, 3, 4, 5, 0] (L' := [_, _, _, _, _]) (by decide) rfl ?_
              have hr : res = acc ++ [a] := by rw [hinv]; simp_all
              have ho1 := ho.snoc hra
              change HC _ _ _ ((r3, .cells #[rowV (n + 1) (some (rap, cap, sp))] _ _) :: (rs, _) :: (ra, _) :: (r1, _) :: rowL 55 (xs ++ a.cells) (some (rap, cap, sp))) _ _ _; rw [← hr] at ho1; clear hinv ho hno hra hn2
              generalize n + 1 = n at ho1 ⊢
              generalize xs ++ a.cells = xs at ho1 ⊢
              generalize (some (rap, cap, sp) : Row) = row at ho1 ⊢)
             refine HC_region ?_; refine HL_r rfl rfl rfl rfl (R_loadA (vs := [rowV n row]) rfl (known_L (k := 0) rfl) rfl rfl rfl rfl) ?_; refine HL_storeA (k := 3) (n := 1) (cs' := #[rowV n row]) (vs := #[_]) rfl rfl rfl rfl rfl rfl (by show (oneB (rowV _ _) && true) = true; rw [rowV_one]; rfl) (by exact Nat.le_of_ble_eq_true rfl) rfl rfl ?_; refine HL_r rfl rfl rfl rfl (R_assign rfl) ?_; refine HL_nil ?_; refine HQ_then ?_; refine hK49 _ _ _ _ ?_; clear hK49 K49; refine HC_ret ?_; refine HQ_post rfl rfl (.cons (res_cellA (vs := [_]) rfl (known_L (k := 3) rfl) rfl rfl) (.cons (res_tmp rfl) .nil)) (fun w1 hs1 => ?_)
             (rw [hput, if_neg (by omega), if_neg (by omega), if_neg (by omega), hok.1]
              obtain ⟨e1, e2, e3⟩ := ho1
              subst e1 e2
              exact ⟨⟨⟨res, rowP row⟩, 0, rowL 55 (res.flatMap AcL.cells) row, ⟨by show res.length ≤ 9223372036854775807; have := congrArg List.length hok.1; rw [List.length_map] at this; omega, (rowP_seg e3 (by decide)).mono fun q hq => List.mem_append_left _ hq, fun z hz => ((merge_mem (hres ▸ hz)).elim (fun e => by rw [e]; exact ha) (hs.accts z)).mono fun q hq => List.mem_append_right _ hq⟩, rfl⟩, by show Ending.returned _ = Ending.returned (Value.tuple #[Value.agg #[plV res.length (rowP row)], .int .i64 0]); rw [rowP_V _ _ e3.zero]; rfl, hs1.weakL (List.sublist_append_right [_, _, _, _] _)⟩)
           · try exact Bool.noConfusion h48
             try simp only [Z1, Z2, Z3, Z4, Z5, Z6, Z7, Z8, Z9, Z10, Z11, Z12, Z13] at h48
             refine HC_skip ?_; refine HQ_then ?_; refine hK46 _ _ _ _ ?_; clear hK46 K46; refine HC_seq fun K50 hK50 => ?_
             (have hr : res = acc := by rw [hinv]; simp_all
              have ho1 := ho
              rw [← hr] at ho1
              clear hinv ho hno hn2)
             refine HC_region ?_; refine HL_r rfl rfl rfl rfl (R_loadA (vs := [rowV n row]) rfl (known_L (k := 0) rfl) rfl rfl rfl rfl) ?_; refine HL_storeA (k := 3) (n := 1) (cs' := #[rowV n row]) (vs := #[_]) rfl rfl rfl rfl rfl rfl (by show (oneB (rowV _ _) && true) = true; rw [rowV_one]; rfl) (by exact Nat.le_of_ble_eq_true rfl) rfl rfl ?_; refine HL_r rfl rfl rfl rfl (R_assign rfl) ?_; refine HL_nil ?_; refine HQ_then ?_; refine hK50 _ _ _ _ ?_; clear hK50 K50; refine HC_ret ?_; refine HQ_post rfl rfl (.cons (res_cellA (vs := [_]) rfl (known_L (k := 3) rfl) rfl rfl) (.cons (res_tmp rfl) .nil)) (fun w1 hs1 => ?_)
             (rw [hput, if_neg (by omega), if_neg (by omega), if_neg (by omega), hok.1]
              obtain ⟨e1, e2, e3⟩ := ho1
              subst e1 e2
              exact ⟨⟨⟨res, rowP row⟩, 0, rowL 55 (res.flatMap AcL.cells) row, ⟨by show res.length ≤ 9223372036854775807; have := congrArg List.length hok.1; rw [List.length_map] at this; omega, (rowP_seg e3 (by decide)).mono fun q hq => List.mem_append_left _ hq, fun z hz => ((merge_mem (hres ▸ hz)).elim (fun e => by rw [e]; exact ha) (hs.accts z)).mono fun q hq => List.mem_append_right _ hq⟩, rfl⟩, by show Ending.returned _ = Ending.returned (Value.tuple #[Value.agg #[plV res.length (rowP row)], .int .i64 0]); rw [rowP_V _ _ e3.zero]; rfl, hs1.weakL (List.sublist_append_right [_, _, _, _] _)⟩)
       skip)
theorem with_merge {l : List (BS × BS)} (h : Sorted Prod.fst l) (k v : BS) : merge Prod.fst (k, v) (decide (v = noneB)) l = withE l k v := by
  unfold withE
  by_cases e : v = noneB
  · rw [if_pos e, decide_eq_true e, merge_true]
  · rw [if_neg e, decide_eq_false e, merge_ins h]
set_option maxRecDepth 10000 in
theorem S_rSet {R : List (Nat × Obj)} {a : AcL} (ha : a.In R) (k v : BS) : PureT (α := AcRes R (setE a.er k v)) Tryz.prog 70 [a.val, strV k, strV v].toArray (fun x => x.val) [] (fun x => x.L) R := by
  have hl := ha.len
  have hseg := ha.seg
  have hset : setE a.er k v = if lkE a.er ≠ 0 then (a.er, lkE a.er) else if k.length ≠ 32 ∨ v.length ≠ 32 then (a.er, 2) else if (withE a.slots k v).length > 16 then (a.er, 5) else (⟨a.addr, a.nonce, a.bal, a.code, withE a.slots k v⟩, 0) := rfl
  refine pureT_of_HC Tryz.func70 rfl rfl fun w => ?_; refine HC_seq fun K1 hK1 => ?_; refine HC_region ?_; refine HL_box (cs := a.cells.toArray) rfl rfl rfl rfl fun ra => ?_; refine HL_alloc (cs := #[_, _, _, _, _, _, _, _]) rfl rfl rfl rfl fun r1 => ?_; refine HL_r rfl rfl rfl rfl (R_assign rfl) ?_; refine HL_nil ?_; refine HQ_then ?_; refine hK1 _ _ _ _ ?_; clear hK1 K1; refine HC_seq fun K2 hK2 => ?_; refine HC_region ?_; refine HL_r rfl rfl rfl rfl (R_loadArr (xs := a.cells) (n := 8) rfl (known_L (k := 1) rfl) rfl rfl rfl) ?_; refine HL_buildSlice (n := 1) (sz := 8) (vs := [_]) (zs := [_, _, _, _, _, _, _, _]) (r := a.cells) rfl rfl rfl rfl rfl rfl rfl rfl rfl (by rw [made_list]; exact rfl) rfl fun rv => ?_; refine HL_r rfl rfl rfl rfl (R_build (r := [_]) rfl rfl) ?_; refine HL_callR (v := .int .i64 (chkS (StL.er ⟨[a], some (⟨rv, 0, none⟩, 1)⟩))) rfl rfl rfl (enters_of Tryz.func52 (by kernel_rfl) rfl) (S_rCheck (one_in ha rv)) (fun q hq => (List.mem_cons.1 hq).imp (fun h => by rw [h]; exact List.mem_cons_self) id) ?_; refine HL_as (congrArg (Value.int .i64) (chk_one a.er)) ?_; refine HL_r rfl rfl rfl rfl (R_assign rfl) ?_; refine HL_nil ?_; refine HQ_then ?_; refine hK2 _ _ _ _ ?_; clear hK2 K2; refine HC_seq fun K3 hK3 => ?_; refine HC_seq fun K4 hK4 => ?_; refine HC_region ?_; refine HL_r rfl rfl rfl rfl (R_move rfl) ?_; refine HL_r rfl rfl rfl rfl (R_pure rfl rfl rfl) ?_; refine HL_nil ?_; refine HQ_then ?_; refine hK4 _ _ _ _ ?_; clear hK4 K4; refine HC_cond rfl (fun h5 => ?_) (fun h5 => ?_)
  · try exact Bool.noConfusion h5
    try simp only [Z1, Z2, Z3, Z4, Z5, Z6, Z7, Z8, Z9, Z10, Z11, Z12, Z13] at h5
    refine HC_seq fun K6 hK6 => ?_; refine HC_region ?_; refine HL_r rfl rfl rfl rfl (R_loadArr (xs := a.cells) (n := 8) rfl (known_L (k := 2) rfl) rfl rfl rfl) ?_; refine HL_r rfl rfl rfl rfl (R_move rfl) ?_; refine HL_storeArr (k := 1) (n := 8) (ys := (a).cells) rfl rfl rfl rfl rfl rfl rfl rfl rfl ?_; refine HL_r rfl rfl rfl rfl (R_assign rfl) ?_; refine HL_nil ?_; refine HQ_then ?_; refine hK6 _ _ _ _ ?_; clear hK6 K6; refine HC_ret ?_; refine HQ_thenR ?_; clear hK3 K3; refine HQ_post rfl rfl (.cons (res_cellA (vs := [_, _, _, _, _, _, _, _]) rfl (known_L (k := 1) rfl) rfl rfl) (.cons (res_tmp rfl) .nil)) (fun w1 hs1 => ?_); rw [hset, if_pos (by omega)]; exact ⟨⟨a, lkE a.er, [], ha, rfl⟩, rfl, hs1.weakL (List.nil_sublist _)⟩
  · try exact Bool.noConfusion h5
    try simp only [Z1, Z2, Z3, Z4, Z5, Z6, Z7, Z8, Z9, Z10, Z11, Z12, Z13] at h5
    refine HC_skip ?_; refine HQ_then ?_; refine hK3 _ _ _ _ ?_; clear hK3 K3; refine HC_seq fun K7 hK7 => ?_; refine HC_seq fun K8 hK8 => ?_; refine HC_region ?_; refine HL_r rfl rfl rfl rfl (R_move rfl) ?_; refine HL_r rfl rfl rfl rfl (R_lenBs rfl rfl) ?_; refine HL_r rfl rfl rfl rfl (R_pure rfl rfl rfl) ?_; refine HL_r rfl rfl rfl rfl (R_move rfl) ?_
    refine HL_case 21 rfl (fun hb9 => ?_) (fun hb9 => ?_) <;> (try simp only [Z1, Z2, Z3, Z4, Z5, Z6, Z7, Z8, Z9, Z10, Z11, Z12, Z13] at hb9) <;> first | (refine HL_r rfl rfl rfl rfl (R_move rfl) ?_) | (refine HL_skip rfl rfl rfl ?_)
    all_goals first
      | (refine HL_r rfl rfl rfl rfl (R_lenBs rfl rfl) ?_)
      | (refine HL_skip rfl rfl rfl ?_)
    all_goals first
      | (refine HL_r rfl rfl rfl rfl (R_pure rfl rfl rfl) ?_)
      | (refine HL_skip rfl rfl rfl ?_)
    all_goals first
      | (refine HL_r rfl rfl rfl rfl (R_pickT rfl rfl) ?_)
      | (refine HL_r rfl rfl rfl rfl (R_pickF rfl rfl) ?_)
    all_goals refine HL_nil ?_
    all_goals (
     refine HQ_then ?_; refine hK8 _ _ _ _ ?_; clear hK8 K8; refine HC_cond rfl (fun h12 => ?_) (fun h12 => ?_)
     · try exact Bool.noConfusion h12
       try simp only [Z1, Z2, Z3, Z4, Z5, Z6, Z7, Z8, Z9, Z10, Z11, Z12, Z13] at h12
       refine HC_seq fun K13 hK13 => ?_; refine HC_region ?_; refine HL_r rfl rfl rfl rfl (R_loadArr (xs := a.cells) (n := 8) rfl (known_L (k := 2) rfl) rfl rfl rfl) ?_; refine HL_storeArr (k := 1) (n := 8) (ys := (a).cells) rfl rfl rfl rfl rfl rfl rfl rfl rfl ?_; refine HL_r rfl rfl rfl rfl (R_assign rfl) ?_; refine HL_nil ?_; refine HQ_then ?_; refine hK13 _ _ _ _ ?_; clear hK13 K13; refine HC_ret ?_; refine HQ_thenR ?_; clear hK7 K7; refine HQ_post rfl rfl (.cons (res_cellA (vs := [_, _, _, _, _, _, _, _]) rfl (known_L (k := 1) rfl) rfl rfl) (.cons (res_tmp rfl) .nil)) (fun w1 hs1 => ?_); rw [hset, if_neg (by omega), if_pos (by omega)]; exact ⟨⟨a, 2, [], ha, rfl⟩, rfl, hs1.weakL (List.nil_sublist _)⟩
     · try exact Bool.noConfusion h12
       all_goals try simp only [Z1, Z2, Z3, Z4, Z5, Z6, Z7, Z8, Z9, Z10, Z11, Z12, Z13] at h12
       all_goals (
        refine HC_skip ?_; refine HQ_then ?_; refine hK7 _ _ _ _ ?_; clear hK7 K7; refine HC_seq fun K14 hK14 => ?_
        have hok : Sorted Prod.fst a.slots ∧ a.slots.length ≤ 16 := ⟨(look_ok (a := a.er) (by omega)).2.2.1, (look_ok (a := a.er) (by omega)).2.2.2.2⟩
        refine HC_region ?_
        refine HL_r rfl rfl rfl rfl (R_fieldAddr rfl rfl (by first | (simp only [Nat.zero_add, Nat.reduceAdd, Nat.reduceMul, Nat.zero_mul, Nat.mul_one, Nat.add_zero]; exact rfl) | exact rfl)) ?_; refine HL_r rfl rfl rfl rfl (R_load rfl (known_L (k := 2) rfl) rfl rfl) ?_; refine HL_r rfl rfl rfl rfl (R_move rfl) ?_; refine HL_r rfl rfl rfl rfl (R_move rfl) ?_; refine HL_r rfl rfl rfl rfl (R_build (r := [_, _]) rfl rfl) ?_; refine HL_callRE rfl rfl rfl (enters_of Tryz.func100 (by kernel_rfl) rfl) (S_rwith (by have := hok.2; omega) hseg (k, v)) (fun q hq => Or.inr hq) fun x => ?_
        obtain ⟨row, hrow⟩ := x
        refine HL_perm List.perm_append_comm ?_; change HL _ _ ((32, rowV (merge Prod.fst (k, v) (decide (v = noneB)) a.slots).length row) :: _) ((rv, _) :: (r1, _) :: (ra, _) :: rowL _ _ row) _ _ _ _
        have hrow : rowOk 2 (merge Prod.fst (k, v) (decide (v = noneB)) a.slots).length ((merge Prod.fst (k, v) (decide (v = noneB)) a.slots).flatMap slC) row := hrow
        rw [with_merge hok.1 k v] at hrow ⊢; refine HL_r rfl rfl rfl rfl (R_assign rfl) ?_; refine HL_nil ?_; refine HQ_then ?_; refine hK14 _ _ _ _ ?_; clear hK14 K14; refine HC_seq fun K15 hK15 => ?_; refine HC_seq fun K16 hK16 => ?_; refine HC_region ?_; refine HL_r rfl rfl rfl rfl (R_move rfl) ?_; refine HL_r rfl rfl rfl rfl (R_lenRow rfl hrow.zero rfl) ?_; refine HL_r rfl rfl rfl rfl (R_pure rfl rfl rfl) ?_; refine HL_nil ?_; refine HQ_then ?_; refine hK16 _ _ _ _ ?_; clear hK16 K16; refine HC_cond rfl (fun h17 => ?_) (fun h17 => ?_)
        · try exact Bool.noConfusion h17
          try simp only [Z1, Z2, Z3, Z4, Z5, Z6, Z7, Z8, Z9, Z10, Z11, Z12, Z13] at h17
          refine HC_seq fun K18 hK18 => ?_; refine HC_region ?_; refine HL_r rfl rfl rfl rfl (R_loadArr (xs := a.cells) (n := 8) rfl (known_L (k := 2) rfl) rfl rfl rfl) ?_; refine HL_storeArr (k := 1) (n := 8) (ys := (a).cells) rfl rfl rfl rfl rfl rfl rfl rfl rfl ?_; refine HL_r rfl rfl rfl rfl (R_assign rfl) ?_; refine HL_nil ?_; refine HQ_then ?_; refine hK18 _ _ _ _ ?_; clear hK18 K18; refine HC_ret ?_; refine HQ_thenR ?_; clear hK15 K15; refine HQ_post rfl rfl (.cons (res_cellA (vs := [_, _, _, _, _, _, _, _]) rfl (known_L (k := 1) rfl) rfl rfl) (.cons (res_tmp rfl) .nil)) (fun w1 hs1 => ?_); rw [hset, if_neg (by omega), if_neg (by omega), if_pos (by omega)]; exact ⟨⟨a, 5, [], ha, rfl⟩, rfl, hs1.weakL (List.nil_sublist _)⟩
        · try exact Bool.noConfusion h17
          try simp only [Z1, Z2, Z3, Z4, Z5, Z6, Z7, Z8, Z9, Z10, Z11, Z12, Z13] at h17
          refine HC_skip ?_; refine HQ_then ?_; refine hK15 _ _ _ _ ?_; clear hK15 K15; refine HC_seq fun K19 hK19 => ?_; refine HC_region ?_; refine HL_r rfl rfl rfl rfl (R_move rfl) ?_
          refine HL_r rfl rfl rfl rfl (R_fieldAddr rfl rfl (by first | (simp only [Nat.zero_add, Nat.reduceAdd, Nat.reduceMul, Nat.zero_mul, Nat.mul_one, Nat.add_zero]; exact rfl) | exact rfl)) ?_; refine HL_store (k := 2) (cs' := #[strV a.addr, uV a.nonce, uV a.bal.a, uV a.bal.b, uV a.bal.c, uV a.bal.d, strV a.code, rowV (withE a.slots k v).length row]) rfl rfl rfl rfl rfl (rowV_one _ _) rfl rfl rfl rfl ?_; refine HL_nil ?_; refine HQ_then ?_; refine hK19 _ _ _ _ ?_; clear hK19 K19; refine HC_seq fun K20 hK20 => ?_; refine HC_region ?_; refine HL_r rfl rfl rfl rfl (R_loadA (vs := [strV a.addr, uV a.nonce, uV a.bal.a, uV a.bal.b, uV a.bal.c, uV a.bal.d, strV a.code, rowV (withE a.slots k v).length row]) rfl (known_L (k := 2) rfl) rfl rfl rfl rfl) ?_; refine HL_storeA (k := 1) (n := 8) (cs' := #[strV a.addr, uV a.nonce, uV a.bal.a, uV a.bal.b, uV a.bal.c, uV a.bal.d, strV a.code, rowV (withE a.slots k v).length row]) (vs := #[_, _, _, _, _, _, _, _]) rfl rfl rfl rfl rfl rfl (by show (oneB (rowV _ _) && true) = true; rw [rowV_one]; rfl) (by exact Nat.le_of_ble_eq_true rfl) rfl rfl ?_; refine HL_r rfl rfl rfl rfl (R_assign rfl) ?_; refine HL_nil ?_; refine HQ_then ?_; refine hK20 _ _ _ _ ?_; clear hK20 K20; refine HC_ret ?_; refine HQ_post rfl rfl (.cons (res_cellA (vs := [_, _, _, _, _, _, _, _]) rfl (known_L (k := 1) rfl) rfl rfl) (.cons (res_tmp rfl) .nil)) (fun w1 hs1 => ?_)
          (rw [hset, if_neg (by omega), if_neg (by omega), if_neg (by omega)]
           exact ⟨⟨⟨a.addr, a.nonce, a.bal, a.code, withE a.slots k v, rowP row⟩, 0, rowL 93 ((withE a.slots k v).flatMap slC) row, ac_in_with ha (by omega) (by omega) (by omega) (rowP_seg hrow (by decide)), rfl⟩, by show Ending.returned _ = Ending.returned (Value.tuple #[Value.agg #[strV a.addr, uV a.nonce, uV a.bal.a, uV a.bal.b, uV a.bal.c, uV a.bal.d, strV a.code, plV (withE a.slots k v).length (rowP row)], .int .i64 0]); rw [rowP_V _ _ hrow.zero]; rfl, hs1.weakL (List.sublist_append_right [_, _, _] _)⟩)
        skip)
     skip)
end Go.Proofs.YtnkmbkndpoghdaaGreat
