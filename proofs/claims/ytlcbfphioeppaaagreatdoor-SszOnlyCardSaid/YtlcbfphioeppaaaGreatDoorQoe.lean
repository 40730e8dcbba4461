import Derived.Test.YtlcbfphioeppaaaGreatDoorQod
namespace Go.Proofs.YtlcbfphioeppaaaGreatDoor
set_option linter.all false
open Go.SL Go.RowKit Go.Shelf
open Go.Proofs (Enters enters_of)
/-! ### What the laws look at; their fixed facts -/
theorem same_er (v : Vl) : ∀ w, sameV v w = true ↔ erV v = erV w := by
  induction v using Vl.ind with
  | h a b c d bits pb items pi pick ih =>
  intro w
  obtain ⟨a', b', c', d', bits', pb', items', pi', pick'⟩ := w
  have key : ∀ l : List Vl, (∀ x ∈ l, x ∈ items) → ∀ m : List Vl, sameL l m = true ↔ erL l = erL m := by
    intro l
    induction l with
    | nil => intro _ m; cases m with
      | nil => rw [sameL]; simp
      | cons y ys => rw [same_ln (by simp), erL, erL]; simp
    | cons x xs ihl =>
      intro hs m
      cases m with
      | nil => rw [same_ln (by simp), erL, erL]; simp
      | cons y ys =>
        rw [sameL, erL, erL, Bool.and_eq_true, ih x (hs x List.mem_cons_self) y, ihl (fun z hz => hs z (List.mem_cons_of_mem _ hz)) ys]
        simp
  rw [sameV_mk, erV_mk, erV_mk]; simp only [Bool.and_eq_true, decide_eq_true_eq, key items (fun _ h => h) items', Vl.mk.injEq, List.cons.injEq, and_true, true_and]
  constructor
  · rintro ⟨⟨⟨⟨h1, h2, h3, h4⟩, h5⟩, h6⟩, h7⟩; exact ⟨h1, h2, h3, h4, h6, h7, h5⟩
  · rintro ⟨h1, h2, h3, h4, h6, h7, h5⟩; exact ⟨⟨⟨⟨h1, h2, h3, h4⟩, h5⟩, h6⟩, h7⟩
theorem erL_len (l : List Vl) : (erL l).length = l.length := by rw [erL_map, List.length_map]
theorem wL_er : ∀ l : List Vl, (∀ x ∈ l, wV (erV x) = wV x) → wL (erL l) = wL l
  | [], _ => by rw [erL]
  | x :: xs, h => by rw [erL, wL, wL, h x List.mem_cons_self, wL_er xs fun y hy => h y (List.mem_cons_of_mem _ hy)]
theorem wV_er (v : Vl) : wV (erV v) = wV v := by
  induction v using Vl.ind with
  | h a b c d bits pb items pi pick ih => rw [erV_mk, wV, wV, wL_er items ih]
theorem fitL_er (k pick : Int) (ins : List Ty) : ∀ (l : List Vl), (∀ x ∈ l, ∀ t, fitT (erV x) t = fitT x t) → ∀ i : Nat, fitL (erL l) k pick ins i = fitL l k pick ins i
  | [], _, i => by rw [erL]
  | x :: xs, h, i => by rw [erL, fitL, fitL, h x List.mem_cons_self, fitL_er k pick ins xs fun y hy => h y (List.mem_cons_of_mem _ hy)]
theorem ofT_er (k n : Int) (m : Nat) (v : Vl) : ofT k n m (erV v) = ofT k n m v := by
  obtain ⟨a, b, c, d, bits, pb, items, pi, pick⟩ := v
  rw [erV_mk]; rw [ofT_mk k n m a b c d bits none (erL items) none pick _ rfl, ofT_mk k n m a b c d bits pb items pi pick _ rfl]; simp only [onlyB_mk, erL_len]
theorem fit_er (v : Vl) : ∀ t, fitT (erV v) t = fitT v t := by
  induction v using Vl.ind with
  | h a b c d bits pb items pi pick ih =>
  intro t
  obtain ⟨k, n, p, ins⟩ := t
  have hl := erL_len items
  have ho := ofT_er k n ins.length (.mk a b c d bits pb items pi pick)
  rw [erV_mk] at ho ⊢; rw [fitT, fitT, hl, fitL_er k pick ins items ih, ho]
mutual
def weightT : Ty → Int
  | .mk k n _ ins => (if k = 3 ∧ 0 < n ∧ n ≤ 512 ∧ weightL ins 0 ≤ 3000 then weightL ins 0 * n else weightL ins 0) + 1
def weightL : List Ty → Int → Int
  | [], m => m
  | x :: xs, m => if m ≤ 3000 then weightL xs (m + weightT x) else m
end
theorem weight_le (t : Ty) : 1 ≤ weightT t ∧ weightT t ≤ 1540000 + 3001 * (nT t : Nat) := by
  induction t using Ty.ind with
  | h k n p ins ih =>
    have key : ∀ l : List Ty, (∀ x ∈ l, x ∈ ins) → ∀ m : Int, 0 ≤ m → (m ≤ 3000 ∨ True) → 0 ≤ weightL l m ∧ (weightL l m ≤ max m 3000 + 1540000 + 3001 * (nTL l : Nat)) := by
      intro l
      induction l with
      | nil => intro _ m hm _; rw [weightL, nTL]; omega
      | cons x xs ihl =>
        intro hs m hm _
        have h1 := ih x (hs x List.mem_cons_self)
        rw [weightL, nTL]
        split
        · have h2 := ihl (fun y hy => hs y (List.mem_cons_of_mem _ hy)) (m + weightT x) (by omega) (.inr trivial)
          cases xs with
          | nil => rw [weightL, nTL] at *; omega
          | cons y ys =>
            by_cases h3 : m + weightT x ≤ 3000
            · omega
            · rw [weightL, if_neg h3]; omega
        · omega
    have h2 := key ins (fun _ h => h) 0 (by omega) (.inr trivial)
    rw [weightT, nT]
    split
    · rename_i h3
      have h4 : weightL ins 0 * n ≤ 3000 * 512 := Int.mul_le_mul h3.2.2.2 h3.2.2.1 (by omega) (by omega)
      have h5 : 0 ≤ weightL ins 0 * n := Int.mul_nonneg h2.1 (by omega)
      omega
    · omega
set_option maxRecDepth 10000 in
theorem S_weight {R : List (Nat × Obj)} {t : Ty} (ht : t.In R) : nT t ≤ 100000 → PureR Tryz.prog 36 [t.val].toArray (.int .i64 (weightT t)) R := by
  induction ht with
  | @mk k n p ins hk hn hl hs hi ih =>
  intro hnt
  have hwb := weight_le (.mk k n p ins)
  have hnt0 := hnt
  rw [nT] at hnt; refine pureR_of_HC Tryz.func36 rfl rfl fun w => ?_; refine HC_seq fun K1 hK1 => ?_; refine HC_region ?_; refine HL_box (cs := #[_, _, _]) rfl rfl rfl rfl fun r1 => ?_; refine HL_r rfl rfl rfl rfl (R_assign rfl) ?_; refine HL_nil ?_; refine HQ_then ?_; refine hK1 _ _ _ _ ?_; clear hK1 K1; refine HC_seq fun K2 hK2 => ?_; refine HC_region ?_; refine HL_r rfl rfl rfl rfl (R_assign rfl) ?_; refine HL_nil ?_; refine HQ_then ?_; refine hK2 _ _ _ _ ?_; clear hK2 K2; refine HC_seq fun K3 hK3 => ?_; refine HC_seq fun K4 hK4 => ?_; refine HC_region ?_; refine HL_r rfl rfl rfl rfl (R_assign rfl) ?_; refine HL_nil ?_; refine HQ_then ?_; refine hK4 _ _ _ _ ?_; clear hK4 K4; refine HC_block ?_; refine HC_loop (σ := Nat × Int) (fun s => s.1 ≤ ins.length ∧ 0 ≤ s.2 ∧ nTL (ins.drop s.1) ≤ nTL ins ∧ s.2 ≤ 2000000000 ∧ weightL (ins.drop s.1) s.2 = weightL ins 0) (fun s => [(1, pt0 r1), (3, .int .i64 s.2), (4, .int .i64 (s.1 : Int))]) (fun _ => [tBlk r1 (.mk k n p ins)]) (fun _ _ _ => True) (fun s => ins.length - s.1) (0, 0) ⟨Nat.zero_le _, Int.le_refl _, Nat.le_refl _, by decide, rfl⟩ (.cons rfl (.cons rfl (.cons rfl .nil))) (List.Sublist.refl _) (fun _ _ h => h) ?_; rintro ⟨i, m⟩ ⟨hi1, hm2, hbd, hm3, hinv⟩; simp only at hi1 hm2 hbd hm3 hinv; change HC _ _ [(1, _), (3, .int .i64 m), (4, .int .i64 (i : Int))] ((r1, _) :: []) _ _ _; refine HC_seq fun K5 hK5 => ?_; refine HC_seq fun K6 hK6 => ?_; refine HC_region ?_; refine HL_r rfl rfl rfl rfl (R_move rfl) ?_
  refine HL_r rfl rfl rfl rfl (R_fieldAddr rfl rfl (by first | (simp only [Nat.zero_add, Nat.reduceAdd, Nat.reduceMul, Nat.zero_mul, Nat.mul_one, Nat.add_zero]; exact rfl) | exact rfl)) ?_; refine HL_r rfl rfl rfl rfl (R_load rfl (known_L (k := 0) rfl) rfl rfl) ?_; refine HL_r rfl rfl rfl rfl (R_lenPl rfl hs rfl) ?_; refine HL_r rfl rfl rfl rfl (R_pure rfl rfl rfl) ?_; refine HL_r rfl rfl rfl rfl (R_move rfl) ?_
  refine HL_case 10 rfl (fun hb7 => ?_) (fun hb7 => ?_) <;> (try simp only [Z1, Z2, Z3, Z4, Z5, Z6, Z7, Z8, Z9, Z10, Z11, Z12, Z13] at hb7) <;> first | (refine HL_r rfl rfl rfl rfl (R_move rfl) ?_) | (refine HL_skip rfl rfl rfl ?_)
  all_goals first
    | (refine HL_r rfl rfl rfl rfl (R_pure rfl rfl rfl) ?_)
    | (refine HL_skip rfl rfl rfl ?_)
  all_goals first
    | (refine HL_r rfl rfl rfl rfl (R_pickT rfl rfl) ?_)
    | (refine HL_r rfl rfl rfl rfl (R_pickF rfl rfl) ?_)
  all_goals refine HL_nil ?_
  all_goals (
   refine HQ_then ?_; refine hK6 _ _ _ _ ?_; clear hK6 K6; refine HC_cond rfl (fun h9 => ?_) (fun h9 => ?_)
   · try exact Bool.noConfusion h9
     all_goals try simp only [Z1, Z2, Z3, Z4, Z5, Z6, Z7, Z8, Z9, Z10, Z11, Z12, Z13] at h9
     all_goals (
      refine HC_skip ?_; refine HQ_then ?_; refine hK5 _ _ _ _ ?_; clear hK5 K5; refine HC_seq fun K10 hK10 => ?_; refine HC_block ?_
      obtain ⟨y, hy, hmem⟩ := getTy (show i < ins.length by omega)
      have hyb := weight_le y
      rw [dropTy hy, weightL, if_pos (by omega)] at hinv; rw [dropTy hy, nTL] at hbd; refine HC_region ?_; refine HL_r rfl rfl rfl rfl (R_move rfl) ?_
      refine HL_r rfl rfl rfl rfl (R_fieldAddr rfl rfl (by first | (simp only [Nat.zero_add, Nat.reduceAdd, Nat.reduceMul, Nat.zero_mul, Nat.mul_one, Nat.add_zero]; exact rfl) | exact rfl)) ?_; refine HL_r rfl rfl rfl rfl (R_load rfl (known_L (k := 0) rfl) rfl rfl) ?_; refine HL_r rfl rfl rfl rfl (R_move rfl) ?_
      refine HL_r rfl rfl rfl rfl (R_indexPl (j := i) rfl hs rfl rfl rfl (by first | rfl | omega) (by omega)) ?_; refine HL_r rfl rfl rfl rfl (R_loadTy (fun q hq => Or.inr hq) rfl hs hy rfl rfl) ?_; refine HL_callR rfl rfl rfl (enters_of Tryz.func36 (by kernel_rfl) rfl) (ih y hmem (by omega)) (fun q hq => Or.inr hq) ?_; refine HL_r rfl rfl rfl rfl (R_pure rfl rfl rfl) ?_; refine HL_as (show _ = Value.int .i64 (m + weightT y) from congrArg (Value.int .i64) (wrap_i64 (by omega) (by omega))) ?_; refine HL_r rfl rfl rfl rfl (R_assign rfl) ?_; refine HL_nil ?_; refine HQ_blockN ?_; refine HQ_then ?_; refine hK10 _ _ _ _ ?_; clear hK10 K10; refine HC_region ?_; refine HL_r rfl rfl rfl rfl (R_move rfl) ?_
      refine HL_r rfl rfl rfl rfl (R_pure rfl rfl rfl) ?_; refine HL_as (show _ = Value.int .i64 ((i + 1 : Nat) : Int) from by rw [wrap_i64 (by omega) (by omega)]; congr 1 <;> omega) ?_; refine HL_r rfl rfl rfl rfl (R_assign rfl) ?_; refine HL_nil ?_; refine HQ_then ?_; exact HQ_again (i + 1, m + weightT y) ⟨by simp only; omega, by simp only; omega, by simp only; omega, by simp only; omega, hinv⟩ (by simp only; omega) (.cons rfl (.cons rfl (.cons rfl .nil))) (List.Sublist.refl _) (fun _ _ h => h)
      skip)
   · try exact Bool.noConfusion h9
     try simp only [Z1, Z2, Z3, Z4, Z5, Z6, Z7, Z8, Z9, Z10, Z11, Z12, Z13] at h9
     refine HC_exit ?_; refine HQ_thenE ?_; clear hK5 K5; refine HQ_thenE ?_; refine HQ_blockE ?_; refine HQ_then ?_; refine hK3 _ _ _ _ ?_; clear hK3 K3; refine HC_seq fun K11 hK11 => ?_; refine HC_seq fun K12 hK12 => ?_
     have hend : weightL ins 0 = m := by
       rw [← hinv]
       first
       | (rw [List.drop_of_length_le (by omega), weightL])
       | (obtain ⟨y, hy, _⟩ := getTy (show i < ins.length by omega); rw [dropTy hy, weightL, if_neg (by omega)])
       | (by_cases hq : ins.length ≤ i; (rw [List.drop_of_length_le hq, weightL]); (obtain ⟨y, hy, _⟩ := getTy (show i < ins.length by omega); rw [dropTy hy, weightL, if_neg (by omega)]))
     refine HC_region ?_
     refine HL_r rfl rfl rfl rfl (R_fieldAddr rfl rfl (by first | (simp only [Nat.zero_add, Nat.reduceAdd, Nat.reduceMul, Nat.zero_mul, Nat.mul_one, Nat.add_zero]; exact rfl) | exact rfl)) ?_; refine HL_r rfl rfl rfl rfl (R_load rfl (known_L (k := 0) rfl) rfl rfl) ?_; refine HL_r rfl rfl rfl rfl (R_pure rfl rfl rfl) ?_; refine HL_r rfl rfl rfl rfl (R_move rfl) ?_
     refine HL_case 27 rfl (fun hb13 => ?_) (fun hb13 => ?_) <;> (try simp only [Z1, Z2, Z3, Z4, Z5, Z6, Z7, Z8, Z9, Z10, Z11, Z12, Z13] at hb13) <;> first | (refine HL_r rfl rfl rfl rfl (R_fieldAddr rfl rfl (by first | (simp only [Nat.zero_add, Nat.reduceAdd, Nat.reduceMul, Nat.zero_mul, Nat.mul_one, Nat.add_zero]; exact rfl) | exact rfl)) ?_) | (refine HL_skip rfl rfl rfl ?_)
     all_goals first
       | (refine HL_r rfl rfl rfl rfl (R_load rfl (known_L (k := 0) rfl) rfl rfl) ?_)
       | (refine HL_skip rfl rfl rfl ?_)
     all_goals first
       | (refine HL_r rfl rfl rfl rfl (R_pure rfl rfl rfl) ?_)
       | (refine HL_skip rfl rfl rfl ?_)
     all_goals first
       | (refine HL_r rfl rfl rfl rfl (R_pickT rfl rfl) ?_)
       | (refine HL_r rfl rfl rfl rfl (R_pickF rfl rfl) ?_)
     all_goals refine HL_r rfl rfl rfl rfl (R_move rfl) ?_
     all_goals first
       | (refine HL_skip rfl rfl rfl ?_)
       | (refine HL_case 32 rfl (fun hb16 => ?_) (fun hb16 => ?_) <;> (try simp only [Z1, Z2, Z3, Z4, Z5, Z6, Z7, Z8, Z9, Z10, Z11, Z12, Z13] at hb16) <;> first | (refine HL_r rfl rfl rfl rfl (R_fieldAddr rfl rfl (by first | (simp only [Nat.zero_add, Nat.reduceAdd, Nat.reduceMul, Nat.zero_mul, Nat.mul_one, Nat.add_zero]; exact rfl) | exact rfl)) ?_) | (refine HL_skip rfl rfl rfl ?_))
     all_goals first
       | (refine HL_r rfl rfl rfl rfl (R_load rfl (known_L (k := 0) rfl) rfl rfl) ?_)
       | (refine HL_skip rfl rfl rfl ?_)
     all_goals first
       | (refine HL_r rfl rfl rfl rfl (R_pure rfl rfl rfl) ?_)
       | (refine HL_skip rfl rfl rfl ?_)
     all_goals first
       | (refine HL_r rfl rfl rfl rfl (R_pickT rfl rfl) ?_)
       | (refine HL_r rfl rfl rfl rfl (R_pickF rfl rfl) ?_)
     all_goals refine HL_r rfl rfl rfl rfl (R_move rfl) ?_
     all_goals first
       | (refine HL_skip rfl rfl rfl ?_)
       | (refine HL_case 37 rfl (fun hb19 => ?_) (fun hb19 => ?_) <;> (try simp only [Z1, Z2, Z3, Z4, Z5, Z6, Z7, Z8, Z9, Z10, Z11, Z12, Z13] at hb19) <;> first | (refine HL_r rfl rfl rfl rfl (R_move rfl) ?_) | (refine HL_skip rfl rfl rfl ?_))
     all_goals first
       | (refine HL_r rfl rfl rfl rfl (R_pure rfl rfl rfl) ?_)
       | (refine HL_skip rfl rfl rfl ?_)
     all_goals first
       | (refine HL_r rfl rfl rfl rfl (R_pickT rfl rfl) ?_)
       | (refine HL_r rfl rfl rfl rfl (R_pickF rfl rfl) ?_)
     all_goals refine HL_nil ?_
     all_goals (
      refine HQ_then ?_; refine hK12 _ _ _ _ ?_; clear hK12 K12; refine HC_cond rfl (fun h21 => ?_) (fun h21 => ?_)
      · try exact Bool.noConfusion h21
        all_goals try simp only [Z1, Z2, Z3, Z4, Z5, Z6, Z7, Z8, Z9, Z10, Z11, Z12, Z13] at h21
        all_goals (
         have hmn1 : m * n ≤ 3000 * 512 := Int.mul_le_mul (by omega) (by omega) (by omega) (by omega)
         have hmn0 : 0 ≤ m * n := Int.mul_nonneg (by omega) (by omega)
         refine HC_region ?_; refine HL_r rfl rfl rfl rfl (R_move rfl) ?_
         refine HL_r rfl rfl rfl rfl (R_fieldAddr rfl rfl (by first | (simp only [Nat.zero_add, Nat.reduceAdd, Nat.reduceMul, Nat.zero_mul, Nat.mul_one, Nat.add_zero]; exact rfl) | exact rfl)) ?_; refine HL_r rfl rfl rfl rfl (R_load rfl (known_L (k := 0) rfl) rfl rfl) ?_; refine HL_r rfl rfl rfl rfl (R_pure rfl rfl rfl) ?_; refine HL_wrap_i64 (by omega) (by omega) ?_; refine HL_r rfl rfl rfl rfl (R_assign rfl) ?_; refine HL_nil ?_; refine HQ_then ?_; refine hK11 _ _ _ _ ?_; clear hK11 K11; refine HC_seq fun K22 hK22 => ?_; refine HC_region ?_; refine HL_r rfl rfl rfl rfl (R_move rfl) ?_; refine HL_r rfl rfl rfl rfl (R_pure rfl rfl rfl) ?_; refine HL_wrap_i64 (by omega) (by omega) ?_; refine HL_r rfl rfl rfl rfl (R_assign rfl) ?_; refine HL_nil ?_; refine HQ_then ?_; refine hK22 _ _ _ _ ?_; clear hK22 K22; refine HC_ret ?_; refine HQ_post rfl rfl (.cons (res_tmp rfl) .nil) (fun w1 hs1 => ?_); refine ⟨?_, hs1.keep⟩; rw [weightT, hend]; rw [if_pos ⟨by omega, by omega, by omega, by omega⟩]; rfl
         skip)
      · try exact Bool.noConfusion h21
        try simp only [Z1, Z2, Z3, Z4, Z5, Z6, Z7, Z8, Z9, Z10, Z11, Z12, Z13] at h21
        refine HC_skip ?_; refine HQ_then ?_; refine hK11 _ _ _ _ ?_; clear hK11 K11; refine HC_seq fun K23 hK23 => ?_; refine HC_region ?_; refine HL_r rfl rfl rfl rfl (R_move rfl) ?_; refine HL_r rfl rfl rfl rfl (R_pure rfl rfl rfl) ?_; refine HL_wrap_i64 (by omega) (by omega) ?_; refine HL_r rfl rfl rfl rfl (R_assign rfl) ?_; refine HL_nil ?_; refine HQ_then ?_; refine hK23 _ _ _ _ ?_; clear hK23 K23; refine HC_ret ?_; refine HQ_post rfl rfl (.cons (res_tmp rfl) .nil) (fun w1 hs1 => ?_); refine ⟨?_, hs1.keep⟩; rw [weightT, hend]; rw [if_neg (by omega)]; rfl
      skip)
   skip)
def few8 (t : Ty) (v : Vl) : Bool := fewB t v && decide (weightT t ≤ 3000)
set_option maxRecDepth 10000 in
theorem S_few8 {R : List (Nat × Obj)} {t : Ty} {v : Vl} (ht : t.In R) (hv : v.In R) : PureR Tryz.prog 16 [t.val, v.val].toArray (.bool (few8 t v)) R := by
  have h1 := S_Few ht hv
  have h2 := fun h : fewB t v = true => S_weight ht (by have := few_n h; omega)
  unfold few8
  generalize fewB t v = f at h1 h2 ⊢
  generalize weightT t = z at h2 ⊢
  obtain ⟨k, n, p, ins⟩ := t
  obtain ⟨a, b, c, d, bits, pb, items, pi, pick⟩ := v
  refine pureR_of_HC Tryz.func16 rfl rfl fun w => ?_; refine HC_seq fun K1 hK1 => ?_; refine HC_region ?_; refine HL_box (cs := #[_, _, _]) rfl rfl rfl rfl fun r1 => ?_; refine HL_box (cs := #[_, _, _, _, _, _, _]) rfl rfl rfl rfl fun r2 => ?_; refine HL_r rfl rfl rfl rfl (R_assign rfl) ?_; refine HL_nil ?_; refine HQ_then ?_; refine hK1 _ _ _ _ ?_; clear hK1 K1; refine HC_seq fun K2 hK2 => ?_; refine HC_region ?_; refine HL_r rfl rfl rfl rfl (R_loadA (vs := [_, _, _]) rfl (known_L (k := 1) rfl) rfl rfl rfl rfl) ?_; refine HL_r rfl rfl rfl rfl (R_loadA (vs := [_, _, _, _, _, _, _]) rfl (known_L (k := 0) rfl) rfl rfl rfl rfl) ?_; refine HL_callR rfl rfl rfl (enters_of Tryz.func35 (by kernel_rfl) rfl) h1 (fun q hq => Or.inr hq) ?_; refine HL_r rfl rfl rfl rfl (R_assign rfl) ?_; refine HL_nil ?_; refine HQ_then ?_; refine hK2 _ _ _ _ ?_; clear hK2 K2; refine HC_seq fun K3 hK3 => ?_; refine HC_seq fun K4 hK4 => ?_; refine HC_region ?_; refine HL_r rfl rfl rfl rfl (R_move rfl) ?_; refine HL_r rfl rfl rfl rfl (R_pure rfl rfl rfl) ?_; refine HL_nil ?_; refine HQ_then ?_; refine hK4 _ _ _ _ ?_; clear hK4 K4; refine HC_cond rfl (fun h5 => ?_) (fun h5 => ?_)
  · try exact Bool.noConfusion h5
    try simp only [Z1, Z2, Z3, Z4, Z5, Z6, Z7, Z8, Z9, Z10, Z11, Z12, Z13] at h5
    refine HC_seq fun K6 hK6 => ?_; refine HC_region ?_; refine HL_r rfl rfl rfl rfl (R_assign rfl) ?_; refine HL_nil ?_; refine HQ_then ?_; refine hK6 _ _ _ _ ?_; clear hK6 K6; refine HC_ret ?_; refine HQ_thenR ?_; clear hK3 K3; refine HQ_post rfl rfl (.cons (res_tmp rfl) .nil) (fun w1 hs1 => ?_); refine ⟨?_, hs1.keep⟩
    simp_all [resVal]
  · try exact Bool.noConfusion h5
    try simp only [Z1, Z2, Z3, Z4, Z5, Z6, Z7, Z8, Z9, Z10, Z11, Z12, Z13] at h5
    refine HC_skip ?_; refine HQ_then ?_; refine hK3 _ _ _ _ ?_; clear hK3 K3; refine HC_seq fun K7 hK7 => ?_; refine HC_region ?_; refine HL_r rfl rfl rfl rfl (R_loadA (vs := [_, _, _]) rfl (known_L (k := 1) rfl) rfl rfl rfl rfl) ?_; refine HL_callR rfl rfl rfl (enters_of Tryz.func36 (by kernel_rfl) rfl) (h2 (by assumption)) (fun q hq => Or.inr hq) ?_; refine HL_r rfl rfl rfl rfl (R_pure rfl rfl rfl) ?_; refine HL_r rfl rfl rfl rfl (R_assign rfl) ?_; refine HL_nil ?_; refine HQ_then ?_; refine hK7 _ _ _ _ ?_; clear hK7 K7; refine HC_ret ?_; refine HQ_post rfl rfl (.cons (res_tmp rfl) .nil) (fun w1 hs1 => ?_); refine ⟨?_, hs1.keep⟩
    simp_all [resVal]
/-! what 'works' looks at -/
def t8b : Ty := .mk 6 8 none []
def v8b (r2 : Nat) : Vl := .mk 0 0 0 0 [true, false, true] (some (⟨r2, 0, none⟩, 3)) [] none 0
def t8c (r3 : Nat) : Ty := .mk 7 0 (some (⟨r3, 0, none⟩, 3)) [.mk 1 2 none [], t8b, .mk 2 0 none []]
def v8c (r5 : Nat) : Vl := .mk 0 0 0 0 [] none [.mk 258 0 0 0 [] none [] none 0, v0L, .mk 1 0 0 0 [] none [] none 0] (some (⟨r5, 0, none⟩, 3)) 0
theorem k8_a (r2 : Nat) : putR t8b (v8b r2) = ([13], 0) := by kernel_rfl
theorem k8_b (r3 r5 : Nat) : putR (t8c r3) (v8c r5) = ([2, 1, 7, 0, 0, 0, 1, 1], 0) := by kernel_rfl
theorem k8_c (r3 r5 : Nat) : getR (t8c r3) [2, 1, 7, 0, 0, 0, 1, 1] = (erV (v8c r5), 0) := by kernel_rfl
theorem k8_d (r3 : Nat) : getR (t8c r3) ([2, 1, 7, 0, 0, 0, 1, 1] ++ [120]) = (v0L, 5) := by kernel_rfl
theorem k8_e : getR t8b [] = (v0L, 2) := by kernel_rfl
theorem k8_f : getR (.mk 0 0 none []) [] = (v0L, 9) := by kernel_rfl
end Go.Proofs.YtlcbfphioeppaaaGreatDoor
namespace Go.Proofs.YtlcbfphioeppaaaGreatDoor
set_option linter.all false
open Go.SL Go.RowKit Go.Shelf
open Go.Proofs (Enters enters_of)
/-! ### works -/
theorem in_8b {R : List (Nat × Obj)} : t8b.In R := in_ty0 (iz 6) (iz 8)
theorem in_v8b {r2 : Nat} {e : TypeId} : (v8b r2).In [(r2, .cells #[.bool true, .bool false, .bool true] e (0, 0))] := .mk u0 u0 u0 u0 (by decide) ⟨by decide, fun _ => ⟨rfl, _, _, _, List.mem_singleton_self _, rfl⟩⟩ (by decide) rfl i0 (fun x hx => nomatch hx)
abbrev b8c (r3 : Nat) : Nat × Obj := (r3, .cells #[.int .i64 1, .int .i64 2, .slice none 0 0, .int .i64 6, .int .i64 8, .slice none 0 0, .int .i64 2, .int .i64 0, .slice none 0 0] 24 (0, 0))
abbrev d8c (r5 : Nat) : Nat × Obj := (r5, .cells #[.int .u64 258, .int .u64 0, .int .u64 0, .int .u64 0, .slice none 0 0, .slice none 0 0, .int .i64 0, .int .u64 0, .int .u64 0, .int .u64 0, .int .u64 0, .slice none 0 0, .slice none 0 0, .int .i64 0, .int .u64 1, .int .u64 0, .int .u64 0, .int .u64 0, .slice none 0 0, .slice none 0 0, .int .i64 0] 31 (0, 0))
theorem in_8c {r3 : Nat} {R : List (Nat × Obj)} (h : b8c r3 ∈ R) : (t8c r3).In R := .mk (iz 7) (iz 0) (by simp) ⟨by simp, fun _ => ⟨rfl, _, _, _, h, rfl⟩⟩ (fun x hx => by
  rcases List.mem_cons.1 hx with rfl | hx
  · exact in_ty0 (iz 1) (iz 2)
  rcases List.mem_cons.1 hx with rfl | hx
  · exact in_8b
  · rw [List.mem_singleton.1 hx]; exact in_ty0 (iz 2) (iz 0))
theorem in_v8c {r5 : Nat} {R : List (Nat × Obj)} (h : d8c r5 ∈ R) : (v8c r5).In R := .mk u0 u0 u0 u0 (by simp) rfl (by simp) ⟨by simp, fun _ => ⟨rfl, _, _, _, h, rfl⟩⟩ i0 (fun x hx => by
  rcases List.mem_cons.1 hx with rfl | hx
  · exact in_num 258 (by decide)
  rcases List.mem_cons.1 hx with rfl | hx
  · exact v0_in.mono (fun q hq => absurd hq List.not_mem_nil)
  · rw [List.mem_singleton.1 hx]; exact in_num 1 (by decide))
set_option maxRecDepth 20000 in
set_option maxHeartbeats 1000000 in
theorem P_works08 : Pure Tryz.prog 15 [].toArray (.bool true) := by
  refine pure_of_HC Tryz.func15 rfl rfl fun w => ?_; refine HC_seq fun K1 hK1 => ?_; refine HC_region ?_; refine HL_r rfl rfl rfl rfl (R_assign rfl) ?_; refine HL_nil ?_; refine HQ_then ?_; refine hK1 _ _ _ _ ?_; clear hK1 K1; refine HC_seq fun K2 hK2 => ?_; refine HC_region ?_; refine HL_r rfl rfl rfl rfl (R_build (r := [_, _, _]) rfl rfl) ?_; refine HL_alloc (cs := #[_, _, _]) rfl rfl rfl rfl fun r1 => ?_
  refine HL_storeA (k := 0) (n := 3) (cs' := #[_, _, _]) (vs := #[_, _, _]) rfl rfl rfl rfl rfl rfl rfl (by exact Nat.le_of_ble_eq_true rfl) rfl (by first | (simp only [List.set_cons_zero, List.set_cons_succ]; exact rfl) | exact rfl) ?_; refine HL_nil ?_; refine HQ_then ?_; refine hK2 _ _ _ _ ?_; clear hK2 K2; refine HC_seq fun K3 hK3 => ?_; refine HC_region ?_; refine HL_r rfl rfl rfl rfl (R_loadA (vs := [_, _, _]) rfl (known_L (k := 0) rfl) rfl rfl rfl rfl) ?_; refine HL_buildSlice (vs := [_, _, _]) (zs := [_, _, _]) (r := [_, _, _]) rfl rfl rfl rfl rfl rfl rfl rfl rfl (by show (madeCells #[_] _).toList = _; rw [made_one]; exact rfl) rfl fun r2 => ?_; refine HL_r rfl rfl rfl rfl (R_build (r := [_, _, _, _, _, _, _]) rfl rfl) ?_; refine HL_callR (Rl := [(r2, .cells #[.bool true, .bool false, .bool true] 4 (0, 0))]) rfl rfl rfl (enters_of Tryz.func17 (by kernel_rfl) rfl) (S_sPut in_8b (in_v8b (r2 := r2)) (Nat.le_of_ble_eq_true (by kernel_rfl))) (fun q hq => .inl (by rw [List.mem_singleton.1 hq]; exact mem_nth (n := 0) rfl)) ?_; refine HL_as (congrArg resS (k8_a r2)) ?_; refine HL_r rfl rfl rfl rfl (R_move rfl) ?_; refine HL_r rfl rfl rfl rfl (R_extract rfl rfl) ?_; refine HL_r rfl rfl rfl rfl (R_extract rfl rfl) ?_; refine HL_r rfl rfl rfl rfl (R_assign rfl) ?_; refine HL_r rfl rfl rfl rfl (R_assign rfl) ?_; refine HL_nil ?_; refine HQ_then ?_; refine hK3 _ _ _ _ ?_; clear hK3 K3; refine HC_seq fun K4 hK4 => ?_; refine HC_region ?_; refine HL_r rfl rfl rfl rfl (R_build (r := [_, _, _]) rfl rfl) ?_; refine HL_r rfl rfl rfl rfl (R_loadA (vs := [_, _, _]) rfl (known_L (k := 1) rfl) rfl rfl rfl rfl) ?_; refine HL_r rfl rfl rfl rfl (R_build (r := [_, _, _]) rfl rfl) ?_; refine HL_buildSlice (vs := [_, _, _]) (zs := [_, _, _, _, _, _, _, _, _]) (r := [_, _, _, _, _, _, _, _, _]) rfl rfl rfl rfl rfl rfl rfl rfl rfl (by rw [made_list]; exact rfl) rfl fun r3 => ?_; refine HL_r rfl rfl rfl rfl (R_build (r := [_, _, _]) rfl rfl) ?_; refine HL_alloc (cs := #[_, _, _]) rfl rfl rfl rfl fun r4 => ?_
  refine HL_storeA (k := 0) (n := 3) (cs' := #[_, _, _]) (vs := #[_, _, _]) rfl rfl rfl rfl rfl rfl rfl (by exact Nat.le_of_ble_eq_true rfl) rfl (by first | (simp only [List.set_cons_zero, List.set_cons_succ]; exact rfl) | exact rfl) ?_; refine HL_nil ?_; refine HQ_then ?_; refine hK4 _ _ _ _ ?_; clear hK4 K4; refine HC_seq fun K5 hK5 => ?_; refine HC_region ?_; refine HL_r rfl rfl rfl rfl (R_build (r := [_, _, _, _]) rfl rfl) ?_; refine HL_r rfl rfl rfl rfl (R_build (r := [_, _, _, _, _, _, _]) rfl rfl) ?_; refine HL_r rfl rfl rfl rfl (R_build (r := [_, _, _, _, _, _, _]) rfl rfl) ?_; refine HL_r rfl rfl rfl rfl (R_build (r := [_, _, _, _]) rfl rfl) ?_; refine HL_r rfl rfl rfl rfl (R_build (r := [_, _, _, _, _, _, _]) rfl rfl) ?_; refine HL_buildSlice (vs := [_, _, _]) (zs := [_, _, _, _, _, _, _, _, _, _, _, _, _, _, _, _, _, _, _, _, _]) (r := [_, _, _, _, _, _, _, _, _, _, _, _, _, _, _, _, _, _, _, _, _]) rfl rfl rfl rfl rfl rfl rfl rfl rfl (by rw [made_list]; exact rfl) rfl fun r5 => ?_; refine HL_r rfl rfl rfl rfl (R_build (r := [_, _, _, _, _, _, _]) rfl rfl) ?_; refine HL_alloc (cs := #[_, _, _, _, _, _, _]) rfl rfl rfl rfl fun r6 => ?_
  refine HL_storeA (k := 0) (n := 7) (cs' := #[_, _, _, _, _, _, _]) (vs := #[_, _, _, _, _, _, _]) rfl rfl rfl rfl rfl rfl rfl (by exact Nat.le_of_ble_eq_true rfl) rfl (by first | (simp only [List.set_cons_zero, List.set_cons_succ]; exact rfl) | exact rfl) ?_; refine HL_nil ?_; refine HQ_then ?_; refine hK5 _ _ _ _ ?_; clear hK5 K5; refine HC_seq fun K6 hK6 => ?_; refine HC_region ?_; refine HL_r rfl rfl rfl rfl (R_loadA (vs := [_, _, _]) rfl (known_L (k := 2) rfl) rfl rfl rfl rfl) ?_; refine HL_r rfl rfl rfl rfl (R_loadA (vs := [_, _, _, _, _, _, _]) rfl (known_L (k := 0) rfl) rfl rfl rfl rfl) ?_
  refine HL_callR (Rl := [b8c r3, d8c r5]) rfl rfl rfl (enters_of Tryz.func17 (by kernel_rfl) rfl) (S_sPut (in_8c (r3 := r3) (R := [b8c r3, d8c r5]) List.mem_cons_self) (in_v8c (r5 := r5) (List.mem_cons_of_mem _ List.mem_cons_self)) (Nat.le_of_ble_eq_true (by kernel_rfl))) (fun q hq => .inl (by rcases List.mem_cons.1 hq with rfl | hq; exact mem_nth (n := 3) rfl; rw [List.mem_singleton.1 hq]; exact mem_nth (n := 1) rfl)) ?_; refine HL_as (congrArg resS (k8_b r3 r5)) ?_; refine HL_r rfl rfl rfl rfl (R_move rfl) ?_; refine HL_r rfl rfl rfl rfl (R_extract rfl rfl) ?_; refine HL_r rfl rfl rfl rfl (R_extract rfl rfl) ?_; refine HL_r rfl rfl rfl rfl (R_assign rfl) ?_; refine HL_r rfl rfl rfl rfl (R_assign rfl) ?_; refine HL_nil ?_; refine HQ_then ?_; refine hK6 _ _ _ _ ?_; clear hK6 K6; refine HC_seq fun K7 hK7 => ?_; refine HC_region ?_; refine HL_r rfl rfl rfl rfl (R_loadA (vs := [_, _, _]) rfl (known_L (k := 2) rfl) rfl rfl rfl rfl) ?_; refine HL_r rfl rfl rfl rfl (R_move rfl) ?_; refine HL_callRE (Rl := [b8c r3]) rfl rfl rfl (enters_of Tryz.func19 (by kernel_rfl) rfl) (T_Get (in_8c (r3 := r3) (R := [b8c r3]) List.mem_cons_self) _) (fun q hq => .inl (by rw [List.mem_singleton.1 hq]; exact mem_nth (n := 3) rfl)) fun y1 => ?_; refine HL_as (congrArg (fun z => Value.tuple #[y1.x.val, .int .i64 z]) (congrArg Prod.snd (k8_c r3 r5))) ?_; refine HL_perm List.perm_append_comm ?_
  obtain ⟨⟨y1a, y1b, y1c, y1d, y1bits, y1pb, y1it, y1pi, y1pk⟩, y1L, y1ok, y1er⟩ := y1
  refine HL_r rfl rfl rfl rfl (R_move rfl) ?_; refine HL_r rfl rfl rfl rfl (R_extract rfl rfl) ?_; refine HL_r rfl rfl rfl rfl (R_extract rfl rfl) ?_; refine HL_alloc (cs := #[_, _, _, _, _, _, _]) rfl rfl rfl rfl fun r7 => ?_
  refine HL_storeA (k := 0) (n := 7) (cs' := #[_, _, _, _, _, _, _]) (vs := #[_, _, _, _, _, _, _]) rfl rfl rfl rfl rfl rfl rfl (by exact Nat.le_of_ble_eq_true rfl) rfl (by first | (simp only [List.set_cons_zero, List.set_cons_succ]; exact rfl) | exact rfl) ?_; refine HL_r rfl rfl rfl rfl (R_assign rfl) ?_; refine HL_nil ?_; refine HQ_then ?_; refine hK7 _ _ _ _ ?_; clear hK7 K7; refine HC_seq fun K8 hK8 => ?_; refine HC_region ?_; refine HL_r rfl rfl rfl rfl (R_loadA (vs := [_, _, _]) rfl (known_L (k := 3) rfl) rfl rfl rfl rfl) ?_; refine HL_r rfl rfl rfl rfl (R_move rfl) ?_; refine HL_r rfl rfl rfl rfl (R_concat (a := [2, 1, 7, 0, 0, 0, 1, 1]) (b := [120]) rfl rfl (by decide)) ?_; refine HL_callRE (Rl := [b8c r3]) rfl rfl rfl (enters_of Tryz.func19 (by kernel_rfl) rfl) (T_Get (in_8c (r3 := r3) (R := [b8c r3]) List.mem_cons_self) ([2, 1, 7, 0, 0, 0, 1, 1] ++ [120])) (fun q hq => .inl (by rw [List.mem_singleton.1 hq]; exact mem_nth (n := 4) rfl)) fun y2 => ?_; refine HL_as (congrArg (fun z => Value.tuple #[y2.x.val, .int .i64 z]) (congrArg Prod.snd (k8_d r3))) ?_; refine HL_perm List.perm_append_comm ?_
  obtain ⟨⟨y2a, y2b, y2c, y2d, y2bits, y2pb, y2it, y2pi, y2pk⟩, y2L, y2ok, y2er⟩ := y2
  refine HL_r rfl rfl rfl rfl (R_move rfl) ?_; refine HL_r rfl rfl rfl rfl (R_extract rfl rfl) ?_; refine HL_r rfl rfl rfl rfl (R_extract rfl rfl) ?_; refine HL_alloc (cs := #[_, _, _, _, _, _, _]) rfl rfl rfl rfl fun r8 => ?_
  refine HL_storeA (k := 0) (n := 7) (cs' := #[_, _, _, _, _, _, _]) (vs := #[_, _, _, _, _, _, _]) rfl rfl rfl rfl rfl rfl rfl (by exact Nat.le_of_ble_eq_true rfl) rfl (by first | (simp only [List.set_cons_zero, List.set_cons_succ]; exact rfl) | exact rfl) ?_; refine HL_r rfl rfl rfl rfl (R_assign rfl) ?_; refine HL_nil ?_; refine HQ_then ?_; refine hK8 _ _ _ _ ?_; clear hK8 K8; refine HC_seq fun K9 hK9 => ?_; refine HC_region ?_; refine HL_r rfl rfl rfl rfl (R_loadA (vs := [_, _, _]) rfl (known_L (k := 7) rfl) rfl rfl rfl rfl) ?_; refine HL_callRE (Rl := []) rfl rfl rfl (enters_of Tryz.func19 (by kernel_rfl) rfl) (T_Get in_8b []) (fun q hq => nomatch hq) fun y3 => ?_; refine HL_as (congrArg (fun z => Value.tuple #[y3.x.val, .int .i64 z]) (congrArg Prod.snd (k8_e))) ?_; refine HL_perm List.perm_append_comm ?_
  obtain ⟨⟨y3a, y3b, y3c, y3d, y3bits, y3pb, y3it, y3pi, y3pk⟩, y3L, y3ok, y3er⟩ := y3
  refine HL_r rfl rfl rfl rfl (R_move rfl) ?_; refine HL_r rfl rfl rfl rfl (R_extract rfl rfl) ?_; refine HL_r rfl rfl rfl rfl (R_extract rfl rfl) ?_; refine HL_alloc (cs := #[_, _, _, _, _, _, _]) rfl rfl rfl rfl fun r9 => ?_
  refine HL_storeA (k := 0) (n := 7) (cs' := #[_, _, _, _, _, _, _]) (vs := #[_, _, _, _, _, _, _]) rfl rfl rfl rfl rfl rfl rfl (by exact Nat.le_of_ble_eq_true rfl) rfl (by first | (simp only [List.set_cons_zero, List.set_cons_succ]; exact rfl) | exact rfl) ?_; refine HL_r rfl rfl rfl rfl (R_assign rfl) ?_; refine HL_nil ?_; refine HQ_then ?_; refine hK9 _ _ _ _ ?_; clear hK9 K9; refine HC_seq fun K10 hK10 => ?_; refine HC_region ?_; refine HL_r rfl rfl rfl rfl (R_build (r := [_, _, _]) rfl rfl) ?_; refine HL_callRE (Rl := []) rfl rfl rfl (enters_of Tryz.func19 (by kernel_rfl) rfl) (T_Get (in_ty0 (iz 0) (iz 0)) []) (fun q hq => nomatch hq) fun y4 => ?_; refine HL_as (congrArg (fun z => Value.tuple #[y4.x.val, .int .i64 z]) (congrArg Prod.snd (k8_f))) ?_; refine HL_perm List.perm_append_comm ?_
  obtain ⟨⟨y4a, y4b, y4c, y4d, y4bits, y4pb, y4it, y4pi, y4pk⟩, y4L, y4ok, y4er⟩ := y4
  refine HL_r rfl rfl rfl rfl (R_move rfl) ?_; refine HL_r rfl rfl rfl rfl (R_extract rfl rfl) ?_; refine HL_r rfl rfl rfl rfl (R_extract rfl rfl) ?_; refine HL_alloc (cs := #[_, _, _, _, _, _, _]) rfl rfl rfl rfl fun r10 => ?_
  refine HL_storeA (k := 0) (n := 7) (cs' := #[_, _, _, _, _, _, _]) (vs := #[_, _, _, _, _, _, _]) rfl rfl rfl rfl rfl rfl rfl (by exact Nat.le_of_ble_eq_true rfl) rfl (by first | (simp only [List.set_cons_zero, List.set_cons_succ]; exact rfl) | exact rfl) ?_; refine HL_r rfl rfl rfl rfl (R_assign rfl) ?_; refine HL_nil ?_; refine HQ_then ?_; refine hK10 _ _ _ _ ?_; clear hK10 K10; refine HC_seq fun K11 hK11 => ?_; refine HC_region ?_; refine HL_r rfl rfl rfl rfl (R_move rfl) ?_; refine HL_r rfl rfl rfl rfl (R_strEq rfl rfl) ?_; refine HL_as (show _ = Value.bool true from bool_eq' (decide_eq_true rfl)) ?_; refine HL_r rfl rfl rfl rfl (R_move rfl) ?_; refine HL_r rfl rfl rfl rfl (R_move rfl) ?_; refine HL_r rfl rfl rfl rfl (R_pure rfl rfl rfl) ?_; refine HL_as (show _ = Value.bool true from bool_eq' (ieqT rfl)) ?_; refine HL_r rfl rfl rfl rfl (R_pickT rfl rfl) ?_; refine HL_r rfl rfl rfl rfl (R_move rfl) ?_; refine HL_r rfl rfl rfl rfl (R_move rfl) ?_; refine HL_r rfl rfl rfl rfl (R_strEq rfl rfl) ?_; refine HL_as (show _ = Value.bool true from bool_eq' (decide_eq_true rfl)) ?_; refine HL_r rfl rfl rfl rfl (R_pickT rfl rfl) ?_; refine HL_r rfl rfl rfl rfl (R_move rfl) ?_; refine HL_r rfl rfl rfl rfl (R_move rfl) ?_; refine HL_r rfl rfl rfl rfl (R_pure rfl rfl rfl) ?_; refine HL_as (show _ = Value.bool true from bool_eq' (ieqT rfl)) ?_; refine HL_r rfl rfl rfl rfl (R_pickT rfl rfl) ?_; refine HL_r rfl rfl rfl rfl (R_move rfl) ?_; refine HL_r rfl rfl rfl rfl (R_loadA (vs := [_, _, _, _, _, _, _]) rfl (known_L (k := 4) rfl) rfl rfl rfl rfl) ?_; refine HL_r rfl rfl rfl rfl (R_loadA (vs := [_, _, _, _, _, _, _]) rfl (known_L (k := 3) rfl) rfl rfl rfl rfl) ?_
  refine HL_callR (Rl := d8c r5 :: y1L) rfl rfl rfl (enters_of Tryz.func23 (by kernel_rfl) rfl) (S_Same (in_v8c (R := d8c r5 :: y1L) List.mem_cons_self) _ (y1ok.mono (fun q hq => List.mem_cons_of_mem _ hq))) (fun q hq => .inl (by rcases List.mem_cons.1 hq with rfl | hq; exact mem_nth (n := 5) rfl; simp only [List.cons_append, List.mem_cons, List.mem_append, hq, true_or, or_true])) ?_; refine HL_as (congrArg Value.bool ((same_er _ _).2 (by rw [y1er, k8_c r3 r5]))) ?_; refine HL_r rfl rfl rfl rfl (R_pickT rfl rfl) ?_; refine HL_r rfl rfl rfl rfl (R_move rfl) ?_; refine HL_r rfl rfl rfl rfl (R_move rfl) ?_; refine HL_r rfl rfl rfl rfl (R_pure rfl rfl rfl) ?_; refine HL_as (show _ = Value.bool true from bool_eq' (ieqT rfl)) ?_; refine HL_r rfl rfl rfl rfl (R_pickT rfl rfl) ?_; refine HL_r rfl rfl rfl rfl (R_move rfl) ?_; refine HL_r rfl rfl rfl rfl (R_move rfl) ?_; refine HL_r rfl rfl rfl rfl (R_pure rfl rfl rfl) ?_; refine HL_as (show _ = Value.bool true from bool_eq' (ieqT rfl)) ?_; refine HL_r rfl rfl rfl rfl (R_pickT rfl rfl) ?_; refine HL_r rfl rfl rfl rfl (R_move rfl) ?_; refine HL_r rfl rfl rfl rfl (R_move rfl) ?_; refine HL_r rfl rfl rfl rfl (R_pure rfl rfl rfl) ?_; refine HL_as (show _ = Value.bool true from bool_eq' (ieqT rfl)) ?_; refine HL_r rfl rfl rfl rfl (R_pickT rfl rfl) ?_; refine HL_r rfl rfl rfl rfl (R_move rfl) ?_; refine HL_r rfl rfl rfl rfl (R_move rfl) ?_; refine HL_r rfl rfl rfl rfl (R_pure rfl rfl rfl) ?_; refine HL_as (show _ = Value.bool true from bool_eq' (ieqT rfl)) ?_; refine HL_r rfl rfl rfl rfl (R_pickT rfl rfl) ?_; refine HL_r rfl rfl rfl rfl (R_assign rfl) ?_; refine HL_nil ?_; refine HQ_then ?_; refine hK11 _ _ _ _ ?_; clear hK11 K11; refine HC_ret ?_; refine HQ_post rfl rfl (.cons (res_tmp rfl) .nil) (fun w1 hs1 => ?_); exact ⟨rfl, hs1.keep⟩
end Go.Proofs.YtlcbfphioeppaaaGreatDoor
namespace Go.Proofs.YtlcbfphioeppaaaGreatDoor
set_option linter.all false
open Go.SL Go.RowKit Go.Shelf
open Go.Proofs (Enters enters_of)
end Go.Proofs.YtlcbfphioeppaaaGreatDoor
