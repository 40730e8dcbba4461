import Derived.Test.YtlcbfphioeppaaaGreatDoorPbd
namespace Go.Proofs.YtlcbfphioeppaaaGreatDoor
set_option linter.all false
open Go.SL Go.RowKit Go.Shelf
/-! ### How many chunks a type's roots need; the laws of roots -/
mutual
def wideT : Ty → Int
  | .mk k n _ ins => wideL ins (if k = 3 ∨ k = 4 then min (max n 0) 601 else 1)
def wideL : List Ty → Int → Int
  | [], n => n
  | x :: xs, n => if n ≤ 600 then wideL xs (n + wideT x) else n
end
mutual
def nT : Ty → Nat
  | .mk _ _ _ ins => 1 + nTL ins
def nTL : List Ty → Nat
  | [] => 0
  | x :: xs => nT x + nTL xs
end
theorem typL_ge : ∀ (l : List Ty) (most deep n : Int), n ≤ typL l most deep n
  | [], _, _, n => by rw [typL]; exact Int.le_refl _
  | x :: xs, most, deep, n => by
    rw [typL]
    split
    · have h1 := (typN_le x (most - n) (deep - 1) (by omega)).1
      have h2 := typL_ge xs most deep (n + typN x (most - n) (deep - 1))
      omega
    · exact Int.le_refl _
theorem typN_n (t : Ty) : ∀ most deep : Int, typN t most deep ≤ most → typN t most deep = (nT t : Nat) := by
  induction t using Ty.ind with
  | h k n p ins ih =>
    intro most deep h; rw [typN] at h ⊢
    split at h
    · omega
    · rename_i h1
      rw [if_neg h1]
      have key : ∀ l : List Ty, (∀ x ∈ l, x ∈ ins) → ∀ n : Int, typL l most deep n ≤ most → typL l most deep n = n + (nTL l : Nat) := by
        intro l
        induction l with
        | nil => intro _ n _; rw [typL, nTL]; simp
        | cons x xs ihl =>
          intro hs n hn
          have hnm : n ≤ most := Int.le_trans (typL_ge (x :: xs) most deep n) hn
          rw [typL] at hn ⊢; rw [if_pos hnm] at hn ⊢
          have h3 := ihl (fun y hy => hs y (List.mem_cons_of_mem _ hy)) _ hn
          have h4 := typL_ge xs most deep (n + typN x (most - n) (deep - 1))
          have h5 := ih x (hs x List.mem_cons_self) (most - n) (deep - 1) (by omega)
          rw [h3, h5, nTL]
          first | omega | (push_cast; omega)
      rw [key ins (fun _ h => h) _ h, nT]
      first | omega | (push_cast; omega)
theorem few_n {t : Ty} {v : Vl} (h : fewB t v = true) : nT t ≤ 60 := by
  unfold fewB at h
  rw [Bool.and_eq_true, decide_eq_true_eq, decide_eq_true_eq] at h
  have := typN_n t 60 9 h.1
  omega
theorem wide_le (t : Ty) : 0 ≤ wideT t ∧ wideT t ≤ 601 * (nT t : Nat) := by
  induction t using Ty.ind with
  | h k n p ins ih =>
    have key : ∀ l : List Ty, (∀ x ∈ l, x ∈ ins) → ∀ m : Int, 0 ≤ m → 0 ≤ wideL l m ∧ wideL l m ≤ m + 601 * (nTL l : Nat) := by
      intro l
      induction l with
      | nil => intro _ m hm; rw [wideL, nTL]; omega
      | cons x xs ihl =>
        intro hs m hm
        have h1 := ih x (hs x List.mem_cons_self)
        rw [wideL, nTL]
        split
        · have h2 := ihl (fun y hy => hs y (List.mem_cons_of_mem _ hy)) (m + wideT x) (by omega)
          omega
        · omega
    have h2 := key ins (fun _ h => h) (if k = 3 ∨ k = 4 then min (max n 0) 601 else 1) (by split <;> omega)
    rw [wideT, nT]
    have h3 : (if k = 3 ∨ k = 4 then min (max n 0) 601 else 1 : Int) ≤ 601 := by split <;> omega
    omega
section
variable {c : Cx} {l : List (Nat × Value)} {L : List (Nat × Obj)} {X : XP} {d : List Deferred} {i : Nat} {ps : String} {af : Array Edge} {gd : Option (Nat × Bool)} {ty : TypeId}
theorem R_max2 {x y : Operand} {k k' : IntKind} {a b r : Int} {ats : Array TypeId} (hx : evl l x = some (.int k a)) (hy : evl l y = some (.int k' b)) (hr : (if b > a then b else a) = r) :
    RunsTo c d l L X ⟨some i, .call ⟨.builtin .max, #[x, y], ats⟩, ty, ps, af, gd⟩ (.int k r) := fun a' w hf _ => by
  subst hr; simp only [execOp, Sem.run_bind, resolve]
  have h1 := hf.eval hx
  have h2 := hf.eval hy
  have h3 := run_max_int2 (P := c.P) (w := w) ats ty k k' a b
  simp [h1, h2, invoke, builtin, Result.andThen, h3]
end
theorem getTy {ins : List Ty} {i : Nat} (h : i < ins.length) : ∃ y, ins[i]? = some y ∧ y ∈ ins := ⟨ins[i], List.getElem?_eq_getElem h, List.getElem_mem h⟩
theorem dropTy {ins : List Ty} {i : Nat} {y : Ty} (h : ins[i]? = some y) : ins.drop i = y :: ins.drop (i + 1) := by
  obtain ⟨h1, h2⟩ := List.getElem?_eq_some_iff.1 h
  rw [List.drop_eq_getElem_cons h1, h2]
set_option maxRecDepth 10000 in
theorem S_wide {R : List (Nat × Obj)} {t : Ty} (ht : t.In R) : nT t ≤ 100000 → PureR Tryz.prog 59 [t.val].toArray (.int .i64 (wideT t)) R := by
  induction ht with
  | @mk k n p ins hk hn hl hs hi ih =>
  intro hnt; rw [nT] at hnt
  obtain ⟨S0, hS0⟩ : ∃ s, s = (if k = 3 ∨ k = 4 then min (max n 0) 601 else 1 : Int) := ⟨_, rfl⟩
  have hS1 : 0 ≤ S0 ∧ S0 ≤ 601 := by rw [hS0]; split <;> omega
  have hW : wideT (.mk k n p ins) = wideL ins S0 := by rw [wideT, hS0]
  rw [hW]; refine pureR_of_HC Tryz.func59 rfl rfl fun w => ?_; refine HC_seq fun K1 hK1 => ?_; refine HC_region ?_; refine HL_box (cs := #[_, _, _]) rfl rfl rfl rfl fun r1 => ?_; refine HL_r rfl rfl rfl rfl (R_assign rfl) ?_; refine HL_nil ?_; refine HQ_then ?_; refine hK1 _ _ _ _ ?_; clear hK1 K1; refine HC_seq fun K2 hK2 => ?_; refine HC_region ?_; refine HL_r rfl rfl rfl rfl (R_assign rfl) ?_; refine HL_nil ?_; refine HQ_then ?_; refine hK2 _ _ _ _ ?_; clear hK2 K2; refine HC_seq fun K3 hK3 => ?_; refine HC_seq fun K4 hK4 => ?_; refine HC_region ?_
  refine HL_r rfl rfl rfl rfl (R_fieldAddr rfl rfl (by first | (simp only [Nat.zero_add, Nat.reduceAdd, Nat.reduceMul, Nat.zero_mul, Nat.mul_one, Nat.add_zero]; exact rfl) | exact rfl)) ?_; refine HL_r rfl rfl rfl rfl (R_load rfl (known_L (k := 0) rfl) rfl rfl) ?_; refine HL_r rfl rfl rfl rfl (R_pure rfl rfl rfl) ?_; refine HL_r rfl rfl rfl rfl (R_move rfl) ?_
  refine HL_case 8 rfl (fun hb5 => ?_) (fun hb5 => ?_) <;> (try simp only [Z1, Z2, Z3, Z4, Z5, Z6, Z7, Z8, Z9, Z10, Z11, Z12, Z13] at hb5) <;> first | (refine HL_r rfl rfl rfl rfl (R_fieldAddr rfl rfl (by first | (simp only [Nat.zero_add, Nat.reduceAdd, Nat.reduceMul, Nat.zero_mul, Nat.mul_one, Nat.add_zero]; exact rfl) | exact rfl)) ?_) | (refine HL_skip rfl rfl rfl ?_)
  all_goals first
    | (refine HL_r rfl rfl rfl rfl (R_load rfl (known_L (k := 0) rfl) rfl rfl) ?_)
    | (refine HL_skip rfl rfl rfl ?_)
  all_goals first
    | (refine HL_r rfl rfl rfl rfl (R_pure rfl rfl rfl) ?_)
    | (refine HL_skip rfl rfl rfl ?_)
  all_goals first
    | (refine HL_r rfl rfl rfl rfl (R_pickT rfl rfl) ?_)
    | (refine HL_r rfl rfl rfl rfl (R_pickF rfl rfl) ?_)
  all_goals refine HL_nil ?_
  all_goals (
   refine HQ_then ?_; refine hK4 _ _ _ _ ?_; clear hK4 K4; refine HC_cond rfl (fun h8 => ?_) (fun h8 => ?_)
   · try exact Bool.noConfusion h8
     try simp only [Z1, Z2, Z3, Z4, Z5, Z6, Z7, Z8, Z9, Z10, Z11, Z12, Z13] at h8
     refine HC_region ?_
     refine HL_r rfl rfl rfl rfl (R_fieldAddr rfl rfl (by first | (simp only [Nat.zero_add, Nat.reduceAdd, Nat.reduceMul, Nat.zero_mul, Nat.mul_one, Nat.add_zero]; exact rfl) | exact rfl)) ?_; refine HL_r rfl rfl rfl rfl (R_load rfl (known_L (k := 0) rfl) rfl rfl) ?_
     refine HL_r rfl rfl rfl rfl (R_max2 (r := max n 0) rfl rfl (by split <;> omega)) ?_
     refine HL_r rfl rfl rfl rfl (R_min2 (r := min (max n 0) 601) rfl rfl (by split <;> omega)) ?_; refine HL_r rfl rfl rfl rfl (R_assign rfl) ?_; refine HL_nil ?_; refine HQ_then ?_; refine hK3 _ _ _ _ ?_; clear hK3 K3; refine HC_seq fun K9 hK9 => ?_; refine HC_seq fun K10 hK10 => ?_
     (have hS2 : S0 = min (max n 0) 601 := by rw [hS0, if_pos (by omega)]
      skip)
     refine HC_region ?_; refine HL_r rfl rfl rfl rfl (R_assign rfl) ?_; refine HL_nil ?_; refine HQ_then ?_; refine hK10 _ _ _ _ ?_; clear hK10 K10; refine HC_block ?_; refine HC_loop (σ := Nat × Int) (fun s => s.1 ≤ ins.length ∧ 0 ≤ s.2 ∧ s.2 + 601 * (nTL (ins.drop s.1) : Nat) ≤ 601 + 601 * (nTL ins : Nat) ∧ wideL (ins.drop s.1) s.2 = wideL ins S0) (fun s => [(1, pt0 r1), (3, .int .i64 s.2), (4, .int .i64 (s.1 : Int))]) (fun _ => [tBlk r1 (.mk k n p ins)]) (fun _ _ _ => True) (fun s => ins.length - s.1) (0, S0) ⟨Nat.zero_le _, hS1.1, by show S0 + 601 * (nTL ins : Nat) ≤ _; omega, rfl⟩ (.cons rfl (.cons (by simp only; rw [hS2]; rfl) (.cons rfl .nil))) (List.Sublist.refl _) (fun _ _ h => h) ?_; rintro ⟨i, m⟩ ⟨hi1, hm2, hbd, hinv⟩; simp only at hi1 hm2 hbd hinv; change HC _ _ [(1, _), (3, .int .i64 m), (4, .int .i64 (i : Int))] ((r1, _) :: []) _ _ _; refine HC_seq fun K11 hK11 => ?_; refine HC_seq fun K12 hK12 => ?_; refine HC_region ?_; refine HL_r rfl rfl rfl rfl (R_move rfl) ?_
     refine HL_r rfl rfl rfl rfl (R_fieldAddr rfl rfl (by first | (simp only [Nat.zero_add, Nat.reduceAdd, Nat.reduceMul, Nat.zero_mul, Nat.mul_one, Nat.add_zero]; exact rfl) | exact rfl)) ?_; refine HL_r rfl rfl rfl rfl (R_load rfl (known_L (k := 0) rfl) rfl rfl) ?_; refine HL_r rfl rfl rfl rfl (R_lenPl rfl hs rfl) ?_; refine HL_r rfl rfl rfl rfl (R_pure rfl rfl rfl) ?_; refine HL_r rfl rfl rfl rfl (R_move rfl) ?_
     refine HL_case 22 rfl (fun hb13 => ?_) (fun hb13 => ?_) <;> (try simp only [Z1, Z2, Z3, Z4, Z5, Z6, Z7, Z8, Z9, Z10, Z11, Z12, Z13] at hb13) <;> first | (refine HL_r rfl rfl rfl rfl (R_move rfl) ?_) | (refine HL_skip rfl rfl rfl ?_)
     all_goals first
       | (refine HL_r rfl rfl rfl rfl (R_pure rfl rfl rfl) ?_)
       | (refine HL_skip rfl rfl rfl ?_)
     all_goals first
       | (refine HL_r rfl rfl rfl rfl (R_pickT rfl rfl) ?_)
       | (refine HL_r rfl rfl rfl rfl (R_pickF rfl rfl) ?_)
     all_goals refine HL_nil ?_
     all_goals (
      refine HQ_then ?_; refine hK12 _ _ _ _ ?_; clear hK12 K12; refine HC_cond rfl (fun h15 => ?_) (fun h15 => ?_)
      · try exact Bool.noConfusion h15
        all_goals try simp only [Z1, Z2, Z3, Z4, Z5, Z6, Z7, Z8, Z9, Z10, Z11, Z12, Z13] at h15
        all_goals (
         refine HC_skip ?_; refine HQ_then ?_; refine hK11 _ _ _ _ ?_; clear hK11 K11; refine HC_seq fun K16 hK16 => ?_; refine HC_block ?_
         obtain ⟨y, hy, hmem⟩ := getTy (show i < ins.length by omega)
         have hyb := wide_le y
         rw [dropTy hy, wideL, if_pos (by omega)] at hinv; rw [dropTy hy, nTL] at hbd; refine HC_region ?_; refine HL_r rfl rfl rfl rfl (R_move rfl) ?_
         refine HL_r rfl rfl rfl rfl (R_fieldAddr rfl rfl (by first | (simp only [Nat.zero_add, Nat.reduceAdd, Nat.reduceMul, Nat.zero_mul, Nat.mul_one, Nat.add_zero]; exact rfl) | exact rfl)) ?_; refine HL_r rfl rfl rfl rfl (R_load rfl (known_L (k := 0) rfl) rfl rfl) ?_; refine HL_r rfl rfl rfl rfl (R_move rfl) ?_
         refine HL_r rfl rfl rfl rfl (R_indexPl (j := i) rfl hs rfl rfl rfl (by first | rfl | omega) (by omega)) ?_; refine HL_r rfl rfl rfl rfl (R_loadTy (fun q hq => Or.inr hq) rfl hs hy rfl rfl) ?_; refine HL_callR rfl rfl rfl (enters_of Tryz.func59 (by kernel_rfl) rfl) (ih y hmem (by omega)) (fun q hq => Or.inr hq) ?_; refine HL_r rfl rfl rfl rfl (R_pure rfl rfl rfl) ?_; refine HL_as (show _ = Value.int .i64 (m + wideT y) from congrArg (Value.int .i64) (wrap_i64 (by omega) (by omega))) ?_; refine HL_r rfl rfl rfl rfl (R_assign rfl) ?_; refine HL_nil ?_; refine HQ_blockN ?_; refine HQ_then ?_; refine hK16 _ _ _ _ ?_; clear hK16 K16; refine HC_region ?_; refine HL_r rfl rfl rfl rfl (R_move rfl) ?_
         refine HL_r rfl rfl rfl rfl (R_pure rfl rfl rfl) ?_; refine HL_as (show _ = Value.int .i64 ((i + 1 : Nat) : Int) from by rw [wrap_i64 (by omega) (by omega)]; congr 1 <;> omega) ?_; refine HL_r rfl rfl rfl rfl (R_assign rfl) ?_; refine HL_nil ?_; refine HQ_then ?_; exact HQ_again (i + 1, m + wideT y) ⟨by simp only; omega, by simp only; omega, by simp only; omega, hinv⟩ (by simp only; omega) (.cons rfl (.cons rfl (.cons rfl .nil))) (List.Sublist.refl _) (fun _ _ h => h)
         skip)
      · try exact Bool.noConfusion h15
        try simp only [Z1, Z2, Z3, Z4, Z5, Z6, Z7, Z8, Z9, Z10, Z11, Z12, Z13] at h15
        refine HC_exit ?_; refine HQ_thenE ?_; clear hK11 K11; refine HQ_thenE ?_; refine HQ_blockE ?_; refine HQ_then ?_; refine hK9 _ _ _ _ ?_; clear hK9 K9; refine HC_seq fun K17 hK17 => ?_; refine HC_region ?_; refine HL_r rfl rfl rfl rfl (R_move rfl) ?_; refine HL_r rfl rfl rfl rfl (R_assign rfl) ?_; refine HL_nil ?_; refine HQ_then ?_; refine hK17 _ _ _ _ ?_; clear hK17 K17; refine HC_ret ?_; refine HQ_post rfl rfl (.cons (res_tmp rfl) .nil) (fun w1 hs1 => ?_); refine ⟨?_, hs1.keep⟩; rw [← hinv]
        first
          | (rw [List.drop_of_length_le (by omega), wideL]; rfl)
          | (obtain ⟨y, hy, _⟩ := getTy (show i < ins.length by omega); rw [dropTy hy, wideL, if_neg (by omega)]; rfl)
      skip)
   · try exact Bool.noConfusion h8
     all_goals try simp only [Z1, Z2, Z3, Z4, Z5, Z6, Z7, Z8, Z9, Z10, Z11, Z12, Z13] at h8
     all_goals (
      refine HC_skip ?_; refine HQ_then ?_; refine hK3 _ _ _ _ ?_; clear hK3 K3; refine HC_seq fun K18 hK18 => ?_; refine HC_seq fun K19 hK19 => ?_
      (have hS2 : S0 = 1 := by rw [hS0, if_neg (by omega)]
       skip)
      refine HC_region ?_; refine HL_r rfl rfl rfl rfl (R_assign rfl) ?_; refine HL_nil ?_; refine HQ_then ?_; refine hK19 _ _ _ _ ?_; clear hK19 K19; refine HC_block ?_; refine HC_loop (σ := Nat × Int) (fun s => s.1 ≤ ins.length ∧ 0 ≤ s.2 ∧ s.2 + 601 * (nTL (ins.drop s.1) : Nat) ≤ 601 + 601 * (nTL ins : Nat) ∧ wideL (ins.drop s.1) s.2 = wideL ins S0) (fun s => [(1, pt0 r1), (3, .int .i64 s.2), (4, .int .i64 (s.1 : Int))]) (fun _ => [tBlk r1 (.mk k n p ins)]) (fun _ _ _ => True) (fun s => ins.length - s.1) (0, S0) ⟨Nat.zero_le _, hS1.1, by show S0 + 601 * (nTL ins : Nat) ≤ _; omega, rfl⟩ (.cons rfl (.cons (by simp only; rw [hS2]; rfl) (.cons rfl .nil))) (List.Sublist.refl _) (fun _ _ h => h) ?_; rintro ⟨i, m⟩ ⟨hi1, hm2, hbd, hinv⟩; simp only at hi1 hm2 hbd hinv; change HC _ _ [(1, _), (3, .int .i64 m), (4, .int .i64 (i : Int))] ((r1, _) :: []) _ _ _; refine HC_seq fun K20 hK20 => ?_; refine HC_seq fun K21 hK21 => ?_; refine HC_region ?_; refine HL_r rfl rfl rfl rfl (R_move rfl) ?_
      refine HL_r rfl rfl rfl rfl (R_fieldAddr rfl rfl (by first | (simp only [Nat.zero_add, Nat.reduceAdd, Nat.reduceMul, Nat.zero_mul, Nat.mul_one, Nat.add_zero]; exact rfl) | exact rfl)) ?_; refine HL_r rfl rfl rfl rfl (R_load rfl (known_L (k := 0) rfl) rfl rfl) ?_; refine HL_r rfl rfl rfl rfl (R_lenPl rfl hs rfl) ?_; refine HL_r rfl rfl rfl rfl (R_pure rfl rfl rfl) ?_; refine HL_r rfl rfl rfl rfl (R_move rfl) ?_
      refine HL_case 22 rfl (fun hb22 => ?_) (fun hb22 => ?_) <;> (try simp only [Z1, Z2, Z3, Z4, Z5, Z6, Z7, Z8, Z9, Z10, Z11, Z12, Z13] at hb22) <;> first | (refine HL_r rfl rfl rfl rfl (R_move rfl) ?_) | (refine HL_skip rfl rfl rfl ?_)
      all_goals first
        | (refine HL_r rfl rfl rfl rfl (R_pure rfl rfl rfl) ?_)
        | (refine HL_skip rfl rfl rfl ?_)
      all_goals first
        | (refine HL_r rfl rfl rfl rfl (R_pickT rfl rfl) ?_)
        | (refine HL_r rfl rfl rfl rfl (R_pickF rfl rfl) ?_)
      all_goals refine HL_nil ?_
      all_goals (
       refine HQ_then ?_; refine hK21 _ _ _ _ ?_; clear hK21 K21; refine HC_cond rfl (fun h24 => ?_) (fun h24 => ?_)
       · try exact Bool.noConfusion h24
         all_goals try simp only [Z1, Z2, Z3, Z4, Z5, Z6, Z7, Z8, Z9, Z10, Z11, Z12, Z13] at h24
         all_goals (
          refine HC_skip ?_; refine HQ_then ?_; refine hK20 _ _ _ _ ?_; clear hK20 K20; refine HC_seq fun K25 hK25 => ?_; refine HC_block ?_
          obtain ⟨y, hy, hmem⟩ := getTy (show i < ins.length by omega)
          have hyb := wide_le y
          rw [dropTy hy, wideL, if_pos (by omega)] at hinv; rw [dropTy hy, nTL] at hbd; refine HC_region ?_; refine HL_r rfl rfl rfl rfl (R_move rfl) ?_
          refine HL_r rfl rfl rfl rfl (R_fieldAddr rfl rfl (by first | (simp only [Nat.zero_add, Nat.reduceAdd, Nat.reduceMul, Nat.zero_mul, Nat.mul_one, Nat.add_zero]; exact rfl) | exact rfl)) ?_; refine HL_r rfl rfl rfl rfl (R_load rfl (known_L (k := 0) rfl) rfl rfl) ?_; refine HL_r rfl rfl rfl rfl (R_move rfl) ?_
          refine HL_r rfl rfl rfl rfl (R_indexPl (j := i) rfl hs rfl rfl rfl (by first | rfl | omega) (by omega)) ?_; refine HL_r rfl rfl rfl rfl (R_loadTy (fun q hq => Or.inr hq) rfl hs hy rfl rfl) ?_; refine HL_callR rfl rfl rfl (enters_of Tryz.func59 (by kernel_rfl) rfl) (ih y hmem (by omega)) (fun q hq => Or.inr hq) ?_; refine HL_r rfl rfl rfl rfl (R_pure rfl rfl rfl) ?_; refine HL_as (show _ = Value.int .i64 (m + wideT y) from congrArg (Value.int .i64) (wrap_i64 (by omega) (by omega))) ?_; refine HL_r rfl rfl rfl rfl (R_assign rfl) ?_; refine HL_nil ?_; refine HQ_blockN ?_; refine HQ_then ?_; refine hK25 _ _ _ _ ?_; clear hK25 K25; refine HC_region ?_; refine HL_r rfl rfl rfl rfl (R_move rfl) ?_
          refine HL_r rfl rfl rfl rfl (R_pure rfl rfl rfl) ?_; refine HL_as (show _ = Value.int .i64 ((i + 1 : Nat) : Int) from by rw [wrap_i64 (by omega) (by omega)]; congr 1 <;> omega) ?_; refine HL_r rfl rfl rfl rfl (R_assign rfl) ?_; refine HL_nil ?_; refine HQ_then ?_; exact HQ_again (i + 1, m + wideT y) ⟨by simp only; omega, by simp only; omega, by simp only; omega, hinv⟩ (by simp only; omega) (.cons rfl (.cons rfl (.cons rfl .nil))) (List.Sublist.refl _) (fun _ _ h => h)
          skip)
       · try exact Bool.noConfusion h24
         try simp only [Z1, Z2, Z3, Z4, Z5, Z6, Z7, Z8, Z9, Z10, Z11, Z12, Z13] at h24
         refine HC_exit ?_; refine HQ_thenE ?_; clear hK20 K20; refine HQ_thenE ?_; refine HQ_blockE ?_; refine HQ_then ?_; refine hK18 _ _ _ _ ?_; clear hK18 K18; refine HC_seq fun K26 hK26 => ?_; refine HC_region ?_; refine HL_r rfl rfl rfl rfl (R_move rfl) ?_; refine HL_r rfl rfl rfl rfl (R_assign rfl) ?_; refine HL_nil ?_; refine HQ_then ?_; refine hK26 _ _ _ _ ?_; clear hK26 K26; refine HC_ret ?_; refine HQ_post rfl rfl (.cons (res_tmp rfl) .nil) (fun w1 hs1 => ?_); refine ⟨?_, hs1.keep⟩; rw [← hinv]
         first
           | (rw [List.drop_of_length_le (by omega), wideL]; rfl)
           | (obtain ⟨y, hy, _⟩ := getTy (show i < ins.length by omega); rw [dropTy hy, wideL, if_neg (by omega)]; rfl)
       skip)
      skip)
   skip)
def fewM (t : Ty) (v : Vl) : Bool := fewB t v && decide (wideT t ≤ 600)
theorem fewM_w {t : Ty} {v : Vl} (h : fewM t v = true) : wV v ≤ 20000 := by
  unfold fewM at h
  rw [Bool.and_eq_true] at h
  have := few_w h.1
  omega
set_option maxRecDepth 10000 in
theorem S_few9 {R : List (Nat × Obj)} {t : Ty} {v : Vl} (ht : t.In R) (hv : v.In R) : PureR Tryz.prog 31 [t.val, v.val].toArray (.bool (fewM t v)) R := by
  have h1 := S_Few ht hv
  have h2 := fun h : fewB t v = true => S_wide ht (by have := few_n h; omega)
  unfold fewM
  generalize fewB t v = f at h1 h2 ⊢
  generalize wideT t = z at h2 ⊢
  obtain ⟨k, n, p, ins⟩ := t
  obtain ⟨a, b, c, d, bits, pb, items, pi, pick⟩ := v
  refine pureR_of_HC Tryz.func31 rfl rfl fun w => ?_; refine HC_seq fun K1 hK1 => ?_; refine HC_region ?_; refine HL_box (cs := #[_, _, _]) rfl rfl rfl rfl fun r1 => ?_; refine HL_box (cs := #[_, _, _, _, _, _, _]) rfl rfl rfl rfl fun r2 => ?_; refine HL_r rfl rfl rfl rfl (R_assign rfl) ?_; refine HL_nil ?_; refine HQ_then ?_; refine hK1 _ _ _ _ ?_; clear hK1 K1; refine HC_seq fun K2 hK2 => ?_; refine HC_region ?_; refine HL_r rfl rfl rfl rfl (R_loadA (vs := [_, _, _]) rfl (known_L (k := 1) rfl) rfl rfl rfl rfl) ?_; refine HL_r rfl rfl rfl rfl (R_loadA (vs := [_, _, _, _, _, _, _]) rfl (known_L (k := 0) rfl) rfl rfl rfl rfl) ?_; refine HL_callR rfl rfl rfl (enters_of Tryz.func35 (by kernel_rfl) rfl) h1 (fun q hq => Or.inr hq) ?_; refine HL_r rfl rfl rfl rfl (R_assign rfl) ?_; refine HL_nil ?_; refine HQ_then ?_; refine hK2 _ _ _ _ ?_; clear hK2 K2; refine HC_seq fun K3 hK3 => ?_; refine HC_region ?_; refine HL_r rfl rfl rfl rfl (R_move rfl) ?_; refine HL_r rfl rfl rfl rfl (R_move rfl) ?_
  refine HL_case 10 rfl (fun hb4 => ?_) (fun hb4 => ?_) <;> (try simp only [Z1, Z2, Z3, Z4, Z5, Z6, Z7, Z8, Z9, Z10, Z11, Z12, Z13] at hb4) <;> first | (refine HL_r rfl rfl rfl rfl (R_loadA (vs := [_, _, _]) rfl (known_L (k := 0) rfl) rfl rfl rfl rfl) ?_) | (refine HL_r rfl rfl rfl rfl (R_loadA (vs := [_, _, _]) rfl (known_L (k := 1) rfl) rfl rfl rfl rfl) ?_) | (refine HL_skip rfl rfl rfl ?_)
  all_goals first
    | (refine HL_callR rfl rfl rfl (enters_of Tryz.func59 (by kernel_rfl) rfl) (h2 (by assumption)) (fun q hq => Or.inr hq) ?_)
    | (refine HL_skip rfl rfl rfl ?_)
  all_goals first
    | (refine HL_r rfl rfl rfl rfl (R_pure rfl rfl rfl) ?_)
    | (refine HL_skip rfl rfl rfl ?_)
  all_goals first
    | (refine HL_r rfl rfl rfl rfl (R_pickT rfl rfl) ?_)
    | (refine HL_r rfl rfl rfl rfl (R_pickF rfl rfl) ?_)
  all_goals refine HL_r rfl rfl rfl rfl (R_assign rfl) ?_
  all_goals refine HL_nil ?_
  all_goals (
   refine HQ_then ?_; refine hK3 _ _ _ _ ?_; clear hK3 K3; refine HC_ret ?_; refine HQ_post rfl rfl (.cons (res_tmp rfl) .nil) (fun w1 hs1 => ?_); refine ⟨?_, hs1.keep⟩
   simp_all [resVal]
   skip)
end Go.Proofs.YtlcbfphioeppaaaGreatDoor
