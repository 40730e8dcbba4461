import Derived.Test.YtlcbfphioeppaaaGreatDoorQgb
import Derived.Lib.Overlaps
import Derived.Lib.AppendZerosOnto
import Derived.Laws.StructEq
import Derived.Lib.AppendStr
import Derived.Lib.UnsafeStr
import Derived.Lib.Builder
namespace Go.Proofs.YtlcbfphioeppaaaGreatDoor
set_option linter.all false
open Go.SL Go.RowKit Go.Shelf
theorem kCells_one (k : Int) : (kCells k).all oneB = true := by
  unfold kCells fnV
  cases isK k <;> cases varB k <;> rfl
theorem isK_false {k : Int} (h : isK k = false) : k < 1 ∨ 8 < k := by unfold isK at h; simp at h; omega
theorem fnV_t {b : Bool} {f : FuncId} (h : b = true) : fnV b f = .func (.func f) #[] #[] := by rw [h]; rfl
theorem varB_eq {k : Int} (h : isK k = true) : varB k = (decide (k = 4) || decide (k = 6) || decide (k = 8)) := by
  have := isK_iff.1 h
  have : k = 1 ∨ k = 2 ∨ k = 3 ∨ k = 4 ∨ k = 5 ∨ k = 6 ∨ k = 7 ∨ k = 8 := by omega
  rcases this with rfl | rfl | rfl | rfl | rfl | rfl | rfl | rfl <;> rfl
set_option maxRecDepth 10000 in
theorem S_check {R : List (Nat × Obj)} {t : Ty} (ht : t.In R) : ∀ d : Int, 0 ≤ d → d ≤ 1000 → PureR Tryz.prog 80 [t.val, .int .i64 d].toArray (.int .i64 (chk t d)) R := by
  induction ht with
  | @mk k n p ins hk hn hl hs hi ih =>
  intro d hd0 hd1
  have hF := fun h => F_all (.mk hk hn hl hs hi : Ty.In R (.mk k n p ins)) h
  refine pureR_of_HC Tryz.func80 rfl rfl fun w => ?_; refine HC_seq fun K1 hK1 => HC_region ?_; refine HL_box (cs := #[_, _, _]) rfl rfl rfl rfl fun r1 => ?_; refine HLm rfl ?_; refine HL_nil (hK1 _ _ _ _ ?_); clear hK1 K1; refine HC_seq fun K2 hK2 => ?_
  refine HC_drawB [] [(0, .grow (geCall 0 (fun r : Nat => Value.map (some r)) (fun r => [(r, kObj)]))), (1, .pure), (4, .pure), (5, .pure), (6, .pure), (7, .grow (geNew ptrV (.cells #[.nilFunc, .nilFunc, .nilFunc, .bool false] 97 (0, 0)))), (8, .turn), (9, .pure)] 10 [1, 2, 0, 3, 4, 5, 6, 7, 8, 9] (by kernel_rfl) (by kernel_rfl) (by first | exact (fun _ h => nomatch h) | simp [SubS] | (intro p hp; simp [hp])) ?_
  refine HB_p (k := 1) rfl rfl rfl rfl rfl (fun _ hS => (R_fieldAddr rfl rfl (by first | (simp only [Nat.zero_add, Nat.reduceAdd, Nat.reduceMul, Nat.zero_mul, Nat.mul_one, Nat.add_zero]; exact rfl) | exact rfl))) ?_; refine HB_r (k := 2) rfl rfl rfl rfl rfl (R_load rfl (known_L (k := 0) rfl) rfl rfl) ?_; refine HB_callPE (k := 0) rfl rfl rfl rfl rfl (enters_of Tryz.func91 (by kernel_rfl) rfl) E_kinds fun mr => ?_; refine HB_r (k := 3) rfl rfl rfl rfl rfl (R_lookup (keyI (t := 3) (by kernel_rfl)) rfl rfl (known_L (k := 0) rfl) rfl rfl ⟨_, rfl⟩ kMap_dom (kMap_val k)) ?_; refine HB_p (k := 4) rfl rfl rfl rfl rfl (fun _ hS => (R_move rfl)) ?_; refine HB_p (k := 5) rfl rfl rfl rfl rfl (fun _ hS => (R_extract rfl rfl)) ?_; refine HB_p (k := 6) rfl rfl rfl rfl rfl (fun _ hS => (R_extract rfl rfl)) ?_; refine HB_alloc (k := 7) (cs := #[_, _, _, _]) rfl rfl rfl rfl rfl rfl fun r2 => ?_
  refine HB_storeArr (k := 8) (q := 0) (n := 4) (ys := kCells k) rfl rfl rfl rfl rfl rfl rfl rfl rfl (kCells_one k) (by first | (simp only [List.set_cons_zero, List.set_cons_succ]; exact rfl) | exact rfl) (by first | exact (fun _ h => nomatch h) | simp [SubS]) ?_; refine HB_p (k := 9) rfl rfl rfl rfl rfl (fun _ hS => (R_assign rfl)) ?_; refine HB_end ?_; refine HL_nil (hK2 _ _ _ _ ?_); clear hK2 K2; refine HC_seq fun K3 hK3 => HC_block ?_; refine HC_seq fun K4 hK4 => HC_region ?_; refine HLm rfl (HLp rfl (HLm rfl ?_)); refine HL_nil (hK4 _ _ _ _ ?_); clear hK4 K4; refine HC_cond rfl (fun h5 => ?_) (fun h5 => ?_)
  · try exact Bool.noConfusion h5
    try simp only [ZZ] at h5
    refine HC_seq fun K6 hK6 => HC_region ?_; refine HLm rfl ?_; refine HL_nil (hK6 _ _ _ _ ?_); clear hK6 K6; refine HC_ret (HQ_blockR (HQ_thenR ?_)); clear hK3 K3; refine HQ_post rfl rfl (.cons (res_tmp rfl) .nil) (fun w1 hs1 => ?_); refine ⟨?_, hs1.keep⟩; rw [chk, if_pos (isK_false (by assumption))]; rfl
  · try exact Bool.noConfusion h5
    try simp only [ZZ] at h5
    refine HC_seq fun K7 hK7 => HC_region ?_
    refine HL_r rfl rfl rfl rfl (R_fieldAddr rfl rfl (by first | (simp only [Nat.zero_add, Nat.reduceAdd, Nat.reduceMul, Nat.zero_mul, Nat.mul_one, Nat.add_zero]; exact rfl) | exact rfl)) ?_; refine HL_r rfl rfl rfl rfl (R_load rfl (known_L (k := 0) rfl) rfl rfl) ?_; refine HL_as (fnV_t (by assumption)) ?_; refine HL_r rfl rfl rfl rfl (R_loadA (vs := [_, _, _]) rfl (known_L (k := 2) rfl) rfl rfl rfl rfl) ?_; refine HL_callR rfl rfl rfl (hF (by assumption)).1 (hF (by assumption)).2 (fun q hq => Or.inr hq) ?_; refine HLp rfl (HLm rfl ?_); refine HL_nil (hK7 _ _ _ _ ?_); clear hK7 K7; refine HC_cond rfl (fun h8 => ?_) (fun h8 => ?_)
    · try exact Bool.noConfusion h8
      try simp only [ZZ] at h8
      refine HC_seq fun K9 hK9 => HC_region ?_; refine HLm rfl ?_; refine HL_nil (hK9 _ _ _ _ ?_); clear hK9 K9; refine HC_ret (HQ_blockR (HQ_thenR ?_)); clear hK3 K3; refine HQ_post rfl rfl (.cons (res_tmp rfl) .nil) (fun w1 hs1 => ?_); refine ⟨?_, hs1.keep⟩
      first
        | (rw [chk, if_pos (isK_false (by assumption))]; rfl)
        | (have hkk := isK_iff.1 (by assumption)
           rw [chk, if_neg (by omega)]
           first
           | (rw [if_pos (by assumption)]; rfl)
           | (rw [if_neg (by simp_all), if_pos (by omega)]; rfl)
           | (rw [if_neg (by simp_all), if_neg (by omega), ← hinv, if_neg (by assumption)]; rfl)
           | (rw [if_neg (by simp_all), if_neg (by omega), ← hinv, List.drop_of_length_le (by omega), chkL]; rfl))
    · try exact Bool.noConfusion h8
      try simp only [ZZ] at h8
      refine HC_seq fun K10 hK10 => HC_region ?_; refine HLm rfl (HLp rfl (HLm rfl ?_)); refine HL_nil (hK10 _ _ _ _ ?_); clear hK10 K10; refine HC_cond rfl (fun h11 => ?_) (fun h11 => ?_)
      · try exact Bool.noConfusion h11
        try simp only [ZZ] at h11
        refine HC_seq fun K12 hK12 => HC_region ?_; refine HLm rfl ?_; refine HL_nil (hK12 _ _ _ _ ?_); clear hK12 K12; refine HC_ret (HQ_blockR (HQ_thenR ?_)); clear hK3 K3; refine HQ_post rfl rfl (.cons (res_tmp rfl) .nil) (fun w1 hs1 => ?_); refine ⟨?_, hs1.keep⟩
        first
          | (rw [chk, if_pos (isK_false (by assumption))]; rfl)
          | (have hkk := isK_iff.1 (by assumption)
             rw [chk, if_neg (by omega)]
             first
             | (rw [if_pos (by assumption)]; rfl)
             | (rw [if_neg (by simp_all), if_pos (by omega)]; rfl)
             | (rw [if_neg (by simp_all), if_neg (by omega), ← hinv, if_neg (by assumption)]; rfl)
             | (rw [if_neg (by simp_all), if_neg (by omega), ← hinv, List.drop_of_length_le (by omega), chkL]; rfl))
      · try exact Bool.noConfusion h11
        try simp only [ZZ] at h11
        refine HC_skip (HQ_blockN (hK3 _ _ _ _ ?_)); clear hK3 K3; refine HC_seq fun K13 hK13 => ?_; refine HC_seq fun K14 hK14 => HC_region ?_
        refine HL_r rfl rfl rfl rfl (R_fieldAddr rfl rfl (by first | (simp only [Nat.zero_add, Nat.reduceAdd, Nat.reduceMul, Nat.zero_mul, Nat.mul_one, Nat.add_zero]; exact rfl) | exact rfl)) ?_; refine HL_r rfl rfl rfl rfl (R_load rfl (known_L (k := 2) rfl) rfl rfl) ?_; refine HL_r rfl rfl rfl rfl (R_lenPl rfl hs rfl) ?_; refine HLm rfl ?_; refine HL_nil (hK14 _ _ _ _ ?_); clear hK14 K14; refine HC_block (HC_loop (σ := Nat) (fun i => i ≤ ins.length ∧ chkL (ins.drop i) (d + 1) = chkL ins (d + 1)) (fun i => [(1, .int .i64 d), (30, plV ins.length p), (31, .int .i64 (ins.length : Int)), (32, .int .i64 (i : Int))]) (fun _ => []) (fun _ _ _ => True) (fun i => ins.length - i) 0 ⟨by omega, rfl⟩ (.cons rfl (.cons rfl (.cons rfl (.cons rfl .nil)))) (List.nil_sublist _) (fun _ _ h => h) ?_); rintro i ⟨hi1, hinv⟩; refine HC_seq fun K15 hK15 => HC_region ?_; refine HLp rfl ?_; refine HL_nil (hK15 _ _ _ _ ?_); clear hK15 K15; refine HC_seq fun K16 hK16 => ?_; refine HC_cond rfl (fun h17 => ?_) (fun h17 => ?_)
        · try exact Bool.noConfusion h17
          try simp only [ZZ] at h17
          refine HC_skip (hK16 _ _ _ _ ?_); clear hK16 K16; refine HC_seq fun K18 hK18 => HC_block ?_; refine HC_seq fun K19 hK19 => ?_
          obtain ⟨y, hy, hmem⟩ := getI (show i < ins.length by omega)
          rw [dropI hy, chkL] at hinv; refine HC_region (HL_r rfl rfl rfl rfl (R_indexPl (j := i) rfl hs rfl rfl rfl rfl (by omega)) (HL_r rfl rfl rfl rfl (R_loadTy (fun q hq => Or.inr hq) rfl hs hy rfl rfl) ?_)); refine HL_alloc (cs := #[_, _, _]) rfl rfl rfl rfl fun r3 => ?_; refine HL_storeArr (k := 0) (n := 3) (ys := y.cells) rfl rfl rfl rfl rfl y.len rfl y.one rfl ?_; refine HL_nil (hK19 _ _ _ _ ?_); clear hK19 K19; refine HC_seq fun K20 hK20 => HC_region ?_; refine HL_r rfl rfl rfl rfl (R_loadArr (xs := y.cells) (n := 3) rfl (known_L (k := 0) rfl) rfl rfl y.len) ?_; refine HLm rfl (HLp rfl (HL_wrap_i64 (by omega) (by omega) ?_)); refine HL_callR rfl rfl rfl (enters_of Tryz.func80 (by kernel_rfl) rfl) (ih y hmem (d + 1) (by omega) (by omega)) (fun q hq => Or.inr hq) ?_; refine HLm rfl ?_; refine HL_nil (hK20 _ _ _ _ ?_); clear hK20 K20; refine HC_seq fun K21 hK21 => HC_region ?_; refine HLm rfl (HLp rfl ?_); refine HL_nil (hK21 _ _ _ _ ?_); clear hK21 K21; refine HC_cond rfl (fun h22 => ?_) (fun h22 => ?_)
          · try exact Bool.noConfusion h22
            try simp only [ZZ] at h22
            refine HC_seq fun K23 hK23 => HC_region ?_; refine HLm rfl (HLm rfl ?_); refine HL_nil (hK23 _ _ _ _ ?_); clear hK23 K23; refine HC_ret (HQ_blockR (HQ_thenR ?_)); clear hK18 K18; refine HQ_thenR (HQ_blockR (HQ_thenR ?_)); clear hK13 K13; refine HQ_post rfl rfl (.cons (res_tmp rfl) .nil) (fun w1 hs1 => ?_); refine ⟨?_, hs1.keep⟩
            first
              | (rw [chk, if_pos (isK_false (by assumption))]; rfl)
              | (have hkk := isK_iff.1 (by assumption)
                 rw [chk, if_neg (by omega)]
                 first
                 | (rw [if_pos (by assumption)]; rfl)
                 | (rw [if_neg (by simp_all), if_pos (by omega)]; rfl)
                 | (rw [if_neg (by simp_all), if_neg (by omega), ← hinv, if_neg (by assumption)]; rfl)
                 | (rw [if_neg (by simp_all), if_neg (by omega), ← hinv, List.drop_of_length_le (by omega), chkL]; rfl))
          · try exact Bool.noConfusion h22
            try simp only [ZZ] at h22
            refine HC_skip (HQ_blockN (hK18 _ _ _ _ ?_)); clear hK18 K18; refine HC_region (HLp rfl (HL_wrap_i64 (by omega) (by omega) ?_)); refine HLm rfl (HL_nil (HQ_then ?_)); exact HQ_again (i + 1) ⟨by omega, by rw [if_pos (by assumption)] at hinv; exact hinv⟩ (by omega) (.cons rfl (.cons rfl (.cons rfl (.cons rfl .nil)))) (List.nil_sublist _) (fun _ _ h => h)
        · try exact Bool.noConfusion h17
          try simp only [ZZ] at h17
          refine HC_exit (HQ_thenE ?_); clear hK16 K16; refine HQ_thenE (HQ_blockE (hK13 _ _ _ _ ?_)); clear hK13 K13; refine HC_seq fun K24 hK24 => HC_region ?_; refine HLm rfl ?_; refine HL_nil (hK24 _ _ _ _ ?_); clear hK24 K24; refine HC_ret ?_; refine HQ_post rfl rfl (.cons (res_tmp rfl) .nil) (fun w1 hs1 => ?_); refine ⟨?_, hs1.keep⟩
          (have hkk := isK_iff.1 (by assumption)
           rw [chk, if_neg (by omega)]
           first
           | (rw [if_pos (by assumption)]; rfl)
           | (rw [if_neg (by simp_all), if_pos (by omega)]; rfl)
           | (rw [if_neg (by simp_all), if_neg (by omega), ← hinv, if_neg (by assumption)]; rfl)
           | (rw [if_neg (by simp_all), if_neg (by omega), ← hinv, List.drop_of_length_le (by omega), chkL]; rfl))
set_option maxRecDepth 10000 in
theorem S_Check {R : List (Nat × Obj)} {t : Ty} (ht : t.In R) : PureR Tryz.prog 41 [t.val].toArray (.int .i64 (chk t 0)) R := by
  have h1 := S_check ht 0 (by omega) (by omega)
  obtain ⟨k, n, p, ins⟩ := t
  refine pureR_of_HC Tryz.func41 rfl rfl fun w => ?_; refine HC_seq fun K1 hK1 => HC_region ?_; refine HL_box (cs := #[_, _, _]) rfl rfl rfl rfl fun r1 => ?_; refine HLm rfl ?_; refine HL_nil (hK1 _ _ _ _ ?_); refine HC_seq fun K2 hK2 => HC_region ?_; refine HL_r rfl rfl rfl rfl (R_loadA (vs := [_, _, _]) rfl (known_L (k := 0) rfl) rfl rfl rfl rfl) ?_; refine HL_callR rfl rfl rfl (enters_of Tryz.func80 (by kernel_rfl) rfl) h1 (fun q hq => Or.inr hq) ?_; refine HLm rfl ?_; refine HL_nil (hK2 _ _ _ _ ?_); refine HC_ret ?_; refine HQ_post rfl rfl (.cons (res_tmp rfl) .nil) (fun w1 hs1 => ?_); exact ⟨rfl, hs1.keep⟩
def idxF {α : Type} (b : α → Bool) : List α → Int → Int
  | [], _ => -1
  | y :: ys, j => if b y = true then j else idxF b ys (j + 1)
theorem idxF_any {α : Type} {b : α → Bool} : ∀ {l : List α} {j : Int}, 0 ≤ j → decide (0 ≤ idxF b l j) = l.any b
  | [], _, _ => rfl
  | y :: ys, j, h => by
    rw [idxF, List.any_cons]
    split
    · rename_i hb; rw [hb]; simp [h]
    · rename_i hb; rw [idxF_any (by omega)]; simp [hb]
set_option maxRecDepth 10000 in
theorem S_IndexFuncT {R : List (Nat × Obj)} {ins : List Ty} {p : Pl} {g : FuncId} {b : Ty → Bool} (eg : Enters Tryz.prog g) (hg : ∀ x ∈ ins, PureR Tryz.prog g [x.val].toArray (.bool (b x)) R) (hl : ins.length ≤ 9223372036854775807) (hs : Seg R ins.length (tysC ins) p) :
    PureR Tryz.prog 174 [plV ins.length p, fV g].toArray (.int .i64 (idxF b ins 0)) R := by
  refine pureR_of_HC Tryz.func174 rfl rfl fun w => ?_; refine HC_seq fun K1 hK1 => HC_region ?_; refine HLm rfl ?_; refine HL_nil (hK1 _ _ _ _ ?_); clear hK1 K1; refine HC_seq fun K2 hK2 => ?_; refine HC_seq fun K3 hK3 => HC_region ?_; refine HLm rfl (HL_r rfl rfl rfl rfl (R_lenPl rfl hs rfl) (HLm rfl ?_)); refine HL_nil (hK3 _ _ _ _ ?_); clear hK3 K3; refine HC_block (HC_loop (σ := Nat) (fun i => i ≤ ins.length ∧ idxF b (ins.drop i) (i : Int) = idxF b ins 0) (fun i => [(0, plV ins.length p), (1, fV g), (7, .int .i64 (ins.length : Int)), (8, .int .i64 (i : Int))]) (fun _ => []) (fun _ _ _ => True) (fun i => ins.length - i) 0 ⟨by omega, rfl⟩ (.cons rfl (.cons rfl (.cons rfl (.cons rfl .nil)))) (List.nil_sublist _) (fun _ _ h => h) ?_); rintro i ⟨hi1, hinv⟩; refine HC_seq fun K4 hK4 => HC_region ?_; refine HLp rfl ?_; refine HL_nil (hK4 _ _ _ _ ?_); clear hK4 K4; refine HC_seq fun K5 hK5 => ?_; refine HC_cond rfl (fun h6 => ?_) (fun h6 => ?_)
  · try exact Bool.noConfusion h6
    try simp only [ZZ] at h6
    refine HC_skip (hK5 _ _ _ _ ?_); clear hK5 K5; refine HC_seq fun K7 hK7 => HC_block ?_; refine HC_seq fun K8 hK8 => HC_region ?_; refine HLm rfl (HLm rfl ?_); refine HL_nil (hK8 _ _ _ _ ?_); clear hK8 K8; refine HC_seq fun K9 hK9 => ?_
    obtain ⟨y, hy, hmem⟩ := getI (show i < ins.length by omega)
    rw [dropI hy, idxF] at hinv; refine HC_region (HLm rfl ?_); refine HLm rfl (HLm rfl (HL_r rfl rfl rfl rfl (R_indexPl (j := i) rfl hs rfl rfl rfl rfl (by omega)) ?_)); refine HL_r rfl rfl rfl rfl (R_loadTy (fun q hq => Or.inr hq) rfl hs hy rfl rfl) ?_; refine HL_callR rfl rfl rfl eg (hg y hmem) (fun q hq => Or.inr hq) ?_; refine HL_nil (hK9 _ _ _ _ ?_); clear hK9 K9; refine HC_cond rfl (fun h10 => ?_) (fun h10 => ?_)
    · try exact Bool.noConfusion h10
      try simp only [ZZ] at h10
      refine HC_seq fun K11 hK11 => HC_region ?_; refine HLm rfl (HLm rfl ?_); refine HL_nil (hK11 _ _ _ _ ?_); clear hK11 K11; refine HC_ret (HQ_blockR (HQ_thenR ?_)); clear hK7 K7; refine HQ_thenR (HQ_blockR (HQ_thenR ?_)); clear hK2 K2; refine HQ_post rfl rfl (.cons (res_tmp rfl) .nil) (fun w1 hs1 => ?_); refine ⟨?_, hs1.keep⟩; rw [← hinv, if_pos (by assumption)]; rfl
    · try exact Bool.noConfusion h10
      try simp only [ZZ] at h10
      refine HC_skip (HQ_blockN (hK7 _ _ _ _ ?_)); clear hK7 K7; refine HC_region (HLp rfl (HL_wrap_i64 (by omega) (by omega) ?_)); refine HLm rfl (HL_nil (HQ_then ?_)); exact HQ_again (i + 1) ⟨by omega, by rw [if_neg (by simp_all)] at hinv; exact hinv⟩ (by omega) (.cons rfl (.cons rfl (.cons rfl (.cons rfl .nil)))) (List.nil_sublist _) (fun _ _ h => h)
  · try exact Bool.noConfusion h6
    try simp only [ZZ] at h6
    refine HC_exit (HQ_thenE ?_); clear hK5 K5; refine HQ_thenE (HQ_blockE (hK2 _ _ _ _ ?_)); clear hK2 K2; refine HC_seq fun K12 hK12 => HC_region ?_; refine HLm rfl ?_; refine HL_nil (hK12 _ _ _ _ ?_); clear hK12 K12; refine HC_ret ?_; refine HQ_post rfl rfl (.cons (res_tmp rfl) .nil) (fun w1 hs1 => ?_); refine ⟨?_, hs1.keep⟩; rw [← hinv, List.drop_of_length_le (by omega), idxF]; rfl
set_option maxRecDepth 10000 in
theorem S_ContainsFuncT {R : List (Nat × Obj)} {ins : List Ty} {p : Pl} {g : FuncId} {b : Ty → Bool} (eg : Enters Tryz.prog g) (hg : ∀ x ∈ ins, PureR Tryz.prog g [x.val].toArray (.bool (b x)) R) (hl : ins.length ≤ 9223372036854775807) (hs : Seg R ins.length (tysC ins) p) :
    PureR Tryz.prog 95 [plV ins.length p, fV g].toArray (.bool (ins.any b)) R := by
  have h := S_IndexFuncT (b := b) eg hg hl hs
  rw [← idxF_any (b := b) (l := ins) (Int.le_refl 0)]; refine pureR_of_HC Tryz.func95 rfl rfl fun w => ?_; refine HC_seq fun K1 hK1 => HC_region ?_; refine HLm rfl ?_; refine HL_nil (hK1 _ _ _ _ ?_); refine HC_seq fun K2 hK2 => HC_region ?_; refine HLm rfl (HLm rfl (HL_callR rfl rfl rfl (enters_of Tryz.func174 (by kernel_rfl) rfl) h (fun q hq => Or.inr hq) ?_)); refine HLp rfl (HLm rfl ?_); refine HL_nil (hK2 _ _ _ _ ?_); refine HC_ret ?_; refine HQ_post rfl rfl (.cons (res_tmp rfl) .nil) (fun w1 hs1 => ?_); exact ⟨rfl, hs1.keep⟩
theorem fix_any : ∀ ins : List Ty, (ins.any fun x => !fixT x) = !fixL ins
  | [] => rfl
  | x :: xs => by rw [List.any_cons, fix_any xs, fixL, Bool.not_and]
set_option maxRecDepth 10000 in
theorem S_still {R : List (Nat × Obj)} {t : Ty} (ht : t.In R) : ∀ d : Int, chk t d = 0 → PureR Tryz.prog 50 [t.val].toArray (.bool (fixT t)) R := by
  induction ht with
  | @mk k n p ins hk hn hl hs hi ih =>
  intro d hc
  obtain ⟨hk8, ho, h6, hci⟩ := chk_mk hc
  have hkk := isK_iff.2 hk8
  have hcl : ∀ x ∈ ins, PureR Tryz.prog 96 [x.val].toArray (.bool (!fixT x)) R := fun x hx => by
    have h1 := ih x hx (d + 1) (hci x hx)
    obtain ⟨xk, xn, xp, xi⟩ := x
    refine pureR_of_HC Tryz.func96 rfl rfl fun w => ?_; refine HC_seq fun K1 hK1 => HC_region ?_; refine HL_box (cs := #[_, _, _]) rfl rfl rfl rfl fun r1 => ?_; refine HLm rfl ?_; refine HL_nil (hK1 _ _ _ _ ?_); clear hK1 K1; refine HC_seq fun K2 hK2 => HC_region ?_; refine HL_r rfl rfl rfl rfl (R_loadA (vs := [_, _, _]) rfl (known_L (k := 0) rfl) rfl rfl rfl rfl) ?_; refine HL_callR rfl rfl rfl (enters_of Tryz.func50 (by kernel_rfl) rfl) h1 (fun q hq => Or.inr hq) ?_; refine HLp rfl (HLm rfl ?_); refine HL_nil (hK2 _ _ _ _ ?_); clear hK2 K2; refine HC_ret ?_; refine HQ_post rfl rfl (.cons (res_tmp rfl) .nil) (fun w1 hs1 => ?_); exact ⟨rfl, hs1.keep⟩
  have hany := S_ContainsFuncT (b := fun x => !fixT x) (enters_of Tryz.func96 (by kernel_rfl) rfl) hcl hl hs
  rw [fix_any] at hany
  have hvb := varB_eq hkk
  rw [fixT]; refine pureR_of_HC Tryz.func50 rfl rfl fun w => ?_; refine HC_seq fun K1 hK1 => HC_region ?_; refine HL_box (cs := #[_, _, _]) rfl rfl rfl rfl fun r1 => ?_; refine HLm rfl ?_; refine HL_nil (hK1 _ _ _ _ ?_); clear hK1 K1; refine HC_seq fun K2 hK2 => ?_
  refine HC_drawB [] [(0, .grow (geCall 0 (fun r : Nat => Value.map (some r)) (fun r => [(r, kObj)]))), (1, .pure), (4, .pure), (5, .pure), (6, .pure), (7, .pure), (10, .pure), (11, .pure), (12, .pure)] 13 [1, 2, 0, 3, 4, 5, 6, 7, 8, 9, 10, 11, 12] (by kernel_rfl) (by kernel_rfl) (by first | exact (fun _ h => nomatch h) | simp [SubS] | (intro p hp; simp [hp])) ?_
  refine HB_p (k := 1) rfl rfl rfl rfl rfl (fun _ hS => (R_fieldAddr rfl rfl (by first | (simp only [Nat.zero_add, Nat.reduceAdd, Nat.reduceMul, Nat.zero_mul, Nat.mul_one, Nat.add_zero]; exact rfl) | exact rfl))) ?_; refine HB_r (k := 2) rfl rfl rfl rfl rfl (R_load rfl (known_L (k := 0) rfl) rfl rfl) ?_; refine HB_callPE (k := 0) rfl rfl rfl rfl rfl (enters_of Tryz.func91 (by kernel_rfl) rfl) E_kinds fun mr => ?_; refine HB_r (k := 3) rfl rfl rfl rfl rfl (R_lookup (keyI (t := 3) (by kernel_rfl)) rfl rfl (known_L (k := 0) rfl) rfl rfl ⟨_, rfl⟩ kMap_dom (kMap_val0 hkk)) ?_; refine HB_p (k := 4) rfl rfl rfl rfl rfl (fun _ hS => (R_pure rfl rfl rfl)) ?_; refine HB_p (k := 5) rfl rfl rfl rfl rfl (fun _ hS => (R_pure rfl rfl rfl)) ?_; refine HB_p (k := 6) rfl rfl rfl rfl rfl (fun _ hS => (R_move rfl)) ?_
  refine HB_case 9 rfl (fun hb3 => ?_) (fun hb3 => ?_) <;> (try simp only [ZZ] at hb3) <;> first | (refine HB_p (k := 7) rfl rfl rfl rfl rfl (fun _ hS => (R_fieldAddr rfl rfl (by first | (simp only [Nat.zero_add, Nat.reduceAdd, Nat.reduceMul, Nat.zero_mul, Nat.mul_one, Nat.add_zero]; exact rfl) | exact rfl))) ?_) | (refine HB_skip (k := 7) rfl rfl rfl rfl ?_)
  all_goals first
    | (refine HB_r (k := 8) rfl rfl rfl rfl rfl (R_load rfl (known_L (k := 1) rfl) rfl rfl) ?_)
    | (refine HB_skip (k := 8) rfl rfl rfl rfl ?_)
  all_goals first
    | (refine HB_callR (k := 9) rfl rfl rfl rfl rfl (enters_of Tryz.func95 (by kernel_rfl) rfl) hany (fun q hq => Or.inr hq) ?_)
    | (refine HB_skip (k := 9) rfl rfl rfl rfl ?_)
  all_goals first
    | (refine HB_p (k := 10) rfl rfl rfl rfl rfl (fun _ hS => (R_pure rfl rfl rfl)) ?_)
    | (refine HB_skip (k := 10) rfl rfl rfl rfl ?_)
  all_goals first
    | (refine HB_p (k := 11) rfl rfl rfl rfl rfl (fun _ hS => (R_pickT rfl rfl)) ?_)
    | (refine HB_p (k := 11) rfl rfl rfl rfl rfl (fun _ hS => (R_pickF rfl rfl)) ?_)
  all_goals refine HB_p (k := 12) rfl rfl rfl rfl rfl (fun _ hS => (R_assign rfl)) ?_
  all_goals refine HB_end ?_
  all_goals refine HL_nil ?_
  all_goals (
   refine hK2 _ _ _ _ ?_; clear hK2 K2; refine HC_ret ?_; refine HQ_post rfl rfl (.cons (res_tmp rfl) .nil) (fun w1 hs1 => ?_); refine ⟨?_, hs1.keep⟩
   simp_all [resVal]
   all_goals first | done | (intros; omega)
   skip)
set_option maxRecDepth 10000 in
theorem S_Fixed {R : List (Nat × Obj)} {t : Ty} (ht : t.In R) : PureR Tryz.prog 24 [t.val].toArray (.bool (isFix t)) R := by
  have h1 := S_Check ht
  have h2 := S_still ht 0
  obtain ⟨k, n, p, ins⟩ := t
  refine pureR_of_HC Tryz.func24 rfl rfl fun w => ?_; refine HC_seq fun K1 hK1 => HC_region ?_; refine HL_box (cs := #[_, _, _]) rfl rfl rfl rfl fun r1 => ?_; refine HLm rfl ?_; refine HL_nil (hK1 _ _ _ _ ?_); clear hK1 K1; refine HC_seq fun K2 hK2 => HC_region ?_; refine HL_r rfl rfl rfl rfl (R_loadA (vs := [_, _, _]) rfl (known_L (k := 0) rfl) rfl rfl rfl rfl) ?_; refine HL_callR rfl rfl rfl (enters_of Tryz.func41 (by kernel_rfl) rfl) h1 (fun q hq => Or.inr hq) ?_; refine HLp rfl (HLm rfl ?_)
  refine HL_case 6 rfl (fun hb3 => ?_) (fun hb3 => ?_) <;> (try simp only [ZZ] at hb3) <;> first | (refine HL_r rfl rfl rfl rfl (R_loadA (vs := [_, _, _]) rfl (known_L (k := 0) rfl) rfl rfl rfl rfl) ?_) | (refine HL_skip rfl rfl rfl ?_)
  all_goals first
    | (refine HL_callR rfl rfl rfl (enters_of Tryz.func50 (by kernel_rfl) rfl) (h2 (by assumption)) (fun q hq => Or.inr hq) ?_)
    | (refine HL_skip rfl rfl rfl ?_)
  all_goals first
    | (refine HL_r rfl rfl rfl rfl (R_pickT rfl rfl) ?_)
    | (refine HL_r rfl rfl rfl rfl (R_pickF rfl rfl) ?_)
  all_goals refine HLm rfl ?_
  all_goals refine HL_nil ?_
  all_goals (
   refine hK2 _ _ _ _ ?_; clear hK2 K2; refine HC_ret ?_; refine HQ_post rfl rfl (.cons (res_tmp rfl) .nil) (fun w1 hs1 => ?_); refine ⟨?_, hs1.keep⟩
   simp_all [isFix, resVal]
   skip)
set_option maxRecDepth 10000 in
theorem S_parts {R : List (Nat × Obj)} {k n : Int} {p : Pl} {ins : List Ty} (ht : Ty.In R (.mk k n p ins)) (hsub : ∀ x ∈ ins, PureR Tryz.prog 51 [x.val].toArray (.int .i64 (sizT x)) R) (hpos : ∀ x ∈ ins, 1 ≤ sizT x) (hb : sizL ins ≤ 2251799813685248) :
    PureR Tryz.prog 158 [Ty.val (.mk k n p ins)].toArray (.int .i64 (sizL ins)) R := by
  cases ht with
  | mk hk hn hl hs hi =>
  have hdp : ∀ i, 0 ≤ sizL (ins.drop i) := fun i => by
    have : ∀ l : List Ty, (∀ x ∈ l, 1 ≤ sizT x) → 0 ≤ sizL l := by
      intro l
      induction l with
      | nil => intro _; rw [sizL]; omega
      | cons x xs ih => intro h; rw [sizL]; have h1 := h x (by simp); have h2 := ih fun y hy => h y (by simp [hy]); omega
    exact this _ fun x hx => hpos x (List.mem_of_mem_drop hx)
  refine pureR_of_HC Tryz.func158 rfl rfl fun w => ?_; refine HC_seq fun K1 hK1 => HC_region ?_; refine HL_box (cs := #[_, _, _]) rfl rfl rfl rfl fun r1 => ?_; refine HLm rfl ?_; refine HL_nil (hK1 _ _ _ _ ?_); refine HC_seq fun K2 hK2 => HC_region ?_; refine HLm rfl ?_; refine HL_nil (hK2 _ _ _ _ ?_); refine HC_seq fun K3 hK3 => ?_; refine HC_seq fun K4 hK4 => HC_region ?_
  refine HL_r rfl rfl rfl rfl (R_fieldAddr rfl rfl (by first | (simp only [Nat.zero_add, Nat.reduceAdd, Nat.reduceMul, Nat.zero_mul, Nat.mul_one, Nat.add_zero]; exact rfl) | exact rfl)) ?_; refine HL_r rfl rfl rfl rfl (R_load rfl (known_L (k := 0) rfl) rfl rfl) ?_; refine HL_r rfl rfl rfl rfl (R_lenPl rfl hs rfl) ?_; refine HLm rfl ?_; refine HL_nil (hK4 _ _ _ _ ?_); refine HC_block (HC_loop (σ := Nat × Int) (fun s => s.1 ≤ ins.length ∧ 0 ≤ s.2 ∧ s.2 + sizL (ins.drop s.1) = sizL ins) (fun s => [(3, .int .i64 s.2), (7, plV ins.length p), (8, .int .i64 (ins.length : Int)), (9, .int .i64 (s.1 : Int))]) (fun _ => []) (fun _ _ _ => True) (fun s => ins.length - s.1) (0, 0) ⟨by omega, by omega, by simp⟩ (.cons rfl (.cons rfl (.cons rfl (.cons rfl .nil)))) (List.nil_sublist _) (fun _ _ h => h) ?_); rintro ⟨i, m⟩ ⟨hi1, hm, hinv⟩; simp only at hinv hi1 hm; refine HC_seq fun K5 hK5 => HC_region ?_; refine HLp rfl ?_; refine HL_nil (hK5 _ _ _ _ ?_); refine HC_seq fun K6 hK6 => ?_; refine HC_cond rfl (fun h7 => ?_) (fun h7 => ?_)
  · try exact Bool.noConfusion h7
    try simp only [ZZ] at h7
    refine HC_skip (hK6 _ _ _ _ ?_); refine HC_seq fun K8 hK8 => HC_block ?_; refine HC_seq fun K9 hK9 => ?_
    obtain ⟨y, hy, hmem⟩ := getI (show i < ins.length by omega)
    have hdi := hdp (i + 1)
    have hyp := hpos y hmem
    rw [dropI hy, sizL] at hinv; refine HC_region (HL_r rfl rfl rfl rfl (R_indexPl (j := i) rfl hs rfl rfl rfl rfl (by omega)) (HL_r rfl rfl rfl rfl (R_loadTy (fun q hq => Or.inr hq) rfl hs hy rfl rfl) ?_)); refine HL_alloc (cs := #[_, _, _]) rfl rfl rfl rfl fun r2 => ?_; refine HL_storeArr (k := 0) (n := 3) (ys := y.cells) rfl rfl rfl rfl rfl y.len rfl y.one rfl ?_; refine HL_nil (hK9 _ _ _ _ ?_); refine HC_region (HLm rfl (HL_r rfl rfl rfl rfl (R_loadArr (xs := y.cells) (n := 3) rfl (known_L (k := 0) rfl) rfl rfl y.len) ?_)); refine HL_callR rfl rfl rfl (enters_of Tryz.func51 (by kernel_rfl) rfl) (hsub y hmem) (fun q hq => Or.inr hq) ?_; refine HLp rfl (HL_wrap_i64 (by omega) (by omega) ?_); refine HLm rfl (HL_nil ?_); refine HQ_blockN (hK8 _ _ _ _ ?_); refine HC_region (HLp rfl (HL_wrap_i64 (by omega) (by omega) ?_)); refine HLm rfl (HL_nil (HQ_then ?_)); exact HQ_again (i + 1, m + sizT y) ⟨by omega, by simp only; omega, by simp only; omega⟩ (by simp only; omega) (.cons rfl (.cons rfl (.cons rfl (.cons rfl .nil)))) (List.nil_sublist _) (fun _ _ h => h)
  · try exact Bool.noConfusion h7
    try simp only [ZZ] at h7
    refine HC_exit (HQ_thenE ?_); refine HQ_thenE (HQ_blockE (hK3 _ _ _ _ ?_)); refine HC_seq fun K10 hK10 => HC_region ?_; refine HLm rfl (HLm rfl ?_); refine HL_nil (hK10 _ _ _ _ ?_); refine HC_ret ?_; refine HQ_post rfl rfl (.cons (res_tmp rfl) .nil) (fun w1 hs1 => ?_); refine ⟨?_, hs1.keep⟩; rw [← hinv, List.drop_of_length_le (by omega), sizL, Int.add_zero]; rfl
theorem sizL_le2 {k n : Int} {p : Pl} {ins : List Ty} {d : Int} (hd : 0 ≤ d) (hc : chk (.mk k n p ins) d = 0) (hf : fixT (.mk k n p ins) = true) : (∀ x ∈ ins, 1 ≤ sizT x) ∧ sizL ins ≤ 2251799813685248 ∧ (k = 3 → 0 ≤ n * sizL ins ∧ n * sizL ins ≤ 2251799813685248) := by
  have hsz := siz_le _ d hd hc hf
  have hb5 := bnd_le (show (5 - d).toNat ≤ 5 by omega)
  obtain ⟨hk8, ho, h6, hci⟩ := chk_mk hc
  rw [fixT, Bool.and_eq_true] at hf
  have hfi := fixL_mem.1 hf.2
  have hsub : ∀ x ∈ ins, 1 ≤ sizT x ∧ sizT x ≤ bnd (5 - (d + 1)).toNat := fun x hx => siz_le x (d + 1) (by omega) (hci x hx) (hfi x hx)
  have hL := sizL_le hsub
  refine ⟨fun x hx => (hsub x hx).1, ?_, fun h3 => ?_⟩
  · by_cases he : ins = []
    · subst he; rw [sizL]; omega
    · have hd5 : d < 5 := by
        obtain ⟨x, hx⟩ := List.exists_mem_of_ne_nil _ he
        cases x with
        | mk a b c e => have := (chk_mk (hci _ hx)).2.2.1; omega
      have hlen : ins.length ≤ 16 := by
        have h9 : k = 1 ∨ k = 2 ∨ k = 3 ∨ k = 4 ∨ k = 5 ∨ k = 6 ∨ k = 7 ∨ k = 8 := by omega
        unfold okForm at ho
        rcases h9 with rfl | rfl | rfl | rfl | rfl | rfl | rfl | rfl <;> simp [he] at ho <;> omega
      have e : (5 - d).toNat = (5 - (d + 1)).toNat + 1 := by omega
      rw [e, bnd] at hb5
      have hb2 := bnd_pos (5 - (d + 1)).toNat
      generalize bnd (5 - (d + 1)).toNat = B at *
      have : (ins.length : Int) * B ≤ 16 * B := Int.mul_le_mul_of_nonneg_right (by omega) (by omega)
      omega
  · subst h3
    have : sizT (.mk 3 n p ins) = n * sizL ins := by rw [sizT, if_neg (by decide), if_neg (by decide), if_neg (by decide), if_pos rfl]
    rw [this] at hsz; omega
set_option maxRecDepth 10000 in
theorem Z_all {R : List (Nat × Obj)} {k n : Int} {p : Pl} {ins : List Ty} {d : Int} (ht : Ty.In R (.mk k n p ins)) (hd : 0 ≤ d) (hc : chk (.mk k n p ins) d = 0) (hf : fixT (.mk k n p ins) = true)
    (hsub : ∀ x ∈ ins, PureR Tryz.prog 51 [x.val].toArray (.int .i64 (sizT x)) R) : Enters Tryz.prog (sizeF k) ∧ PureR Tryz.prog (sizeF k) [Ty.val (.mk k n p ins)].toArray (.int .i64 (sizT (.mk k n p ins))) R := by
  obtain ⟨hpos, hb, h3⟩ := sizL_le2 hd hc hf
  have hp := S_parts ht hsub hpos hb
  obtain ⟨hk8, ho, h6, hci⟩ := chk_mk hc
  rw [fixT, Bool.and_eq_true] at hf
  have hne : (k ≠ 4 ∧ k ≠ 6) ∧ k ≠ 8 := by simpa using hf.1
  have h9 : k = 1 ∨ k = 2 ∨ k = 3 ∨ k = 5 ∨ k = 7 := by omega
  rcases h9 with rfl | rfl | rfl | rfl | rfl
  · refine ⟨enters_of Tryz.func145 (by kernel_rfl) rfl, ?_⟩
    show PureR Tryz.prog 145 _ _ R
    rw [sizT, if_pos rfl]; refine pureR_of_HC Tryz.func145 rfl rfl fun w => ?_; refine HC_seq fun K1 hK1 => HC_region ?_; refine HL_box (cs := #[_, _, _]) rfl rfl rfl rfl fun r1 => ?_; refine HLm rfl ?_; refine HL_nil (hK1 _ _ _ _ ?_); refine HC_seq fun K2 hK2 => HC_region ?_
    refine HL_r rfl rfl rfl rfl (R_fieldAddr rfl rfl (by first | (simp only [Nat.zero_add, Nat.reduceAdd, Nat.reduceMul, Nat.zero_mul, Nat.mul_one, Nat.add_zero]; exact rfl) | exact rfl)) ?_; refine HL_r rfl rfl rfl rfl (R_load rfl (known_L (k := 0) rfl) rfl rfl) ?_; refine HLm rfl ?_; refine HL_nil (hK2 _ _ _ _ ?_); refine HC_ret ?_; refine HQ_post rfl rfl (.cons (res_tmp rfl) .nil) (fun w1 hs1 => ?_); exact ⟨rfl, hs1.keep⟩
  · refine ⟨enters_of Tryz.func151 (by kernel_rfl) rfl, ?_⟩
    show PureR Tryz.prog 151 _ _ R
    rw [sizT, if_neg (by decide), if_pos rfl]; refine pureR_of_HC Tryz.func151 rfl rfl fun w => ?_; refine HC_seq fun K1 hK1 => HC_region ?_; refine HL_box (cs := #[_, _, _]) rfl rfl rfl rfl fun r1 => ?_; refine HLm rfl ?_; refine HL_nil (hK1 _ _ _ _ ?_); refine HC_seq fun K2 hK2 => HC_region ?_; refine HLm rfl ?_; refine HL_nil (hK2 _ _ _ _ ?_); refine HC_ret ?_; refine HQ_post rfl rfl (.cons (res_tmp rfl) .nil) (fun w1 hs1 => ?_); exact ⟨rfl, hs1.keep⟩
  · refine ⟨enters_of Tryz.func157 (by kernel_rfl) rfl, ?_⟩
    show PureR Tryz.prog 157 _ _ R
    have h3' := h3 rfl
    rw [sizT, if_neg (by decide), if_neg (by decide), if_neg (by decide), if_pos rfl]; refine pureR_of_HC Tryz.func157 rfl rfl fun w => ?_; refine HC_seq fun K1 hK1 => HC_region ?_; refine HL_box (cs := #[_, _, _]) rfl rfl rfl rfl fun r1 => ?_; refine HLm rfl ?_; refine HL_nil (hK1 _ _ _ _ ?_); refine HC_seq fun K2 hK2 => ?_; refine HC_draw 6 (by kernel_rfl) (by kernel_rfl) ?_
    refine HD_r rfl rfl rfl (R_fieldAddr rfl rfl (by first | (simp only [Nat.zero_add, Nat.reduceAdd, Nat.reduceMul, Nat.zero_mul, Nat.mul_one, Nat.add_zero]; exact rfl) | exact rfl)) ?_; refine HD_r rfl rfl rfl (R_load rfl (known_L (k := 0) rfl) rfl rfl) ?_; refine HD_r rfl rfl rfl (R_loadA (vs := [_, _, _]) rfl (known_L (k := 0) rfl) rfl rfl rfl rfl) ?_; refine HD_callR rfl rfl rfl (enters_of Tryz.func158 (by kernel_rfl) rfl) hp (fun q hq => Or.inr hq) ?_; refine HD_r rfl rfl rfl (R_pure rfl rfl rfl) ?_; refine HD_wrap_i64 (by omega) (by omega) ?_; refine HD_r rfl rfl rfl (R_assign rfl) ?_; refine HD_end ?_; refine HL_nil (hK2 _ _ _ _ ?_); refine HC_ret ?_; refine HQ_post rfl rfl (.cons (res_tmp rfl) .nil) (fun w1 hs1 => ?_); exact ⟨rfl, hs1.keep⟩
  · refine ⟨enters_of Tryz.func164 (by kernel_rfl) rfl, ?_⟩
    show PureR Tryz.prog 164 _ _ R
    have hbit : 1 ≤ n ∧ n ≤ 512 := by simp [okForm] at ho; omega
    rw [sizT, if_neg (by decide), if_neg (by decide), if_pos rfl]; refine pureR_of_HC Tryz.func164 rfl rfl fun w => ?_; refine HC_seq fun K1 hK1 => HC_region ?_; refine HL_box (cs := #[_, _, _]) rfl rfl rfl rfl fun r1 => ?_; refine HLm rfl ?_; refine HL_nil (hK1 _ _ _ _ ?_); refine HC_seq fun K2 hK2 => HC_region ?_
    refine HL_r rfl rfl rfl rfl (R_fieldAddr rfl rfl (by first | (simp only [Nat.zero_add, Nat.reduceAdd, Nat.reduceMul, Nat.zero_mul, Nat.mul_one, Nat.add_zero]; exact rfl) | exact rfl)) ?_; refine HL_r rfl rfl rfl rfl (R_load rfl (known_L (k := 0) rfl) rfl rfl) ?_; refine HLp rfl (HL_wrap_i64 (by omega) (by omega) ?_); refine HLp rfl (HL_wrap_i64 (by omega) (by omega) ?_); refine HLp rfl (HL_quo (by omega) (by omega) (by omega) (HLm rfl ?_)); refine HL_nil (hK2 _ _ _ _ ?_); refine HC_ret ?_; refine HQ_post rfl rfl (.cons (res_tmp rfl) .nil) (fun w1 hs1 => ?_); exact ⟨congrArg (fun z => Ending.returned (Value.int .i64 z)) (by omega), hs1.keep⟩
  · refine ⟨enters_of Tryz.func169 (by kernel_rfl) rfl, ?_⟩
    show PureR Tryz.prog 169 _ _ R
    rw [sizT, if_neg (by decide), if_neg (by decide), if_neg (by decide), if_neg (by decide)]; refine pureR_of_HC Tryz.func169 rfl rfl fun w => ?_; refine HC_seq fun K1 hK1 => HC_region ?_; refine HL_box (cs := #[_, _, _]) rfl rfl rfl rfl fun r1 => ?_; refine HLm rfl ?_; refine HL_nil (hK1 _ _ _ _ ?_); refine HC_seq fun K2 hK2 => HC_region ?_; refine HL_r rfl rfl rfl rfl (R_loadA (vs := [_, _, _]) rfl (known_L (k := 0) rfl) rfl rfl rfl rfl) ?_; refine HL_callR rfl rfl rfl (enters_of Tryz.func158 (by kernel_rfl) rfl) hp (fun q hq => Or.inr hq) ?_; refine HLm rfl ?_; refine HL_nil (hK2 _ _ _ _ ?_); refine HC_ret ?_; refine HQ_post rfl rfl (.cons (res_tmp rfl) .nil) (fun w1 hs1 => ?_); exact ⟨rfl, hs1.keep⟩
set_option maxRecDepth 10000 in
theorem S_size {R : List (Nat × Obj)} {t : Ty} (ht : t.In R) : ∀ d : Int, 0 ≤ d → chk t d = 0 → fixT t = true → PureR Tryz.prog 51 [t.val].toArray (.int .i64 (sizT t)) R := by
  induction ht with
  | @mk k n p ins hk hn hl hs hi ih =>
  intro d hd hc hf
  obtain ⟨hk8, ho, h6, hci⟩ := chk_mk hc
  have hkk := isK_iff.2 hk8
  have hf0 := hf
  rw [fixT, Bool.and_eq_true] at hf0
  have hfi := fixL_mem.1 hf0.2
  have hz := Z_all (.mk hk hn hl hs hi : Ty.In R (.mk k n p ins)) hd hc hf fun x hx => ih x hx (d + 1) (by omega) (hci x hx) (hfi x hx)
  have hvb : (isK k && !varB k) = true := by rw [hkk, varB_eq hkk]; exact hf0.1
  refine pureR_of_HC Tryz.func51 rfl rfl fun w => ?_; refine HC_seq fun K1 hK1 => HC_region ?_; refine HL_box (cs := #[_, _, _]) rfl rfl rfl rfl fun r1 => ?_; refine HLm rfl ?_; refine HL_nil (hK1 _ _ _ _ ?_); refine HC_seq fun K2 hK2 => ?_
  refine HC_drawB [] [(0, .grow (geCall 0 (fun r : Nat => Value.map (some r)) (fun r => [(r, kObj)]))), (1, .pure), (4, .pure), (7, .pure)] 8 [1, 2, 5, 0, 3, 4, 6, 7] (by kernel_rfl) (by kernel_rfl) (by first | exact (fun _ h => nomatch h) | simp [SubS] | (intro p hp; simp [hp])) ?_
  refine HB_p (k := 1) rfl rfl rfl rfl rfl (fun _ hS => (R_fieldAddr rfl rfl (by first | (simp only [Nat.zero_add, Nat.reduceAdd, Nat.reduceMul, Nat.zero_mul, Nat.mul_one, Nat.add_zero]; exact rfl) | exact rfl))) ?_; refine HB_r (k := 2) rfl rfl rfl rfl rfl (R_load rfl (known_L (k := 0) rfl) rfl rfl) ?_; refine HB_r (k := 5) rfl rfl rfl rfl rfl (R_loadA (vs := [_, _, _]) rfl (known_L (k := 0) rfl) rfl rfl rfl rfl) ?_; refine HB_callPE (k := 0) rfl rfl rfl rfl rfl (enters_of Tryz.func91 (by kernel_rfl) rfl) E_kinds fun mr => ?_; refine HB_r (k := 3) rfl rfl rfl rfl rfl (R_lookup (keyI (t := 3) (by kernel_rfl)) rfl rfl (known_L (k := 0) rfl) rfl rfl ⟨_, rfl⟩ kMap_dom (kMap_val0 hkk)) ?_; refine HB_p (k := 4) rfl rfl rfl rfl rfl (fun _ hS => (R_pure rfl rfl rfl)) ?_; refine HB_as (fnV_t hvb) ?_; refine HB_callR (k := 6) rfl rfl rfl rfl rfl hz.1 hz.2 (fun q hq => Or.inr hq) ?_; refine HB_p (k := 7) rfl rfl rfl rfl rfl (fun _ hS => (R_assign rfl)) ?_; refine HB_end ?_; refine HL_nil (hK2 _ _ _ _ ?_); refine HC_ret ?_; refine HQ_post rfl rfl (.cons (res_tmp rfl) .nil) (fun w1 hs1 => ?_); exact ⟨rfl, hs1.keep⟩
set_option maxRecDepth 10000 in
theorem S_Size {R : List (Nat × Obj)} {t : Ty} (ht : t.In R) : PureR Tryz.prog 25 [t.val].toArray (.int .i64 (sizeT t)) R := by
  have h1 := S_Fixed ht
  have h2 := S_size ht 0 (by omega)
  obtain ⟨k, n, p, ins⟩ := t
  refine pureR_of_HC Tryz.func25 rfl rfl fun w => ?_; refine HC_seq fun K1 hK1 => HC_region ?_; refine HL_box (cs := #[_, _, _]) rfl rfl rfl rfl fun r1 => ?_; refine HLm rfl ?_; refine HL_nil (hK1 _ _ _ _ ?_); clear hK1 K1; refine HC_seq fun K2 hK2 => ?_; refine HC_seq fun K3 hK3 => HC_region ?_; refine HL_r rfl rfl rfl rfl (R_loadA (vs := [_, _, _]) rfl (known_L (k := 0) rfl) rfl rfl rfl rfl) ?_; refine HL_callR rfl rfl rfl (enters_of Tryz.func24 (by kernel_rfl) rfl) h1 (fun q hq => Or.inr hq) ?_; refine HLp rfl ?_; refine HL_nil (hK3 _ _ _ _ ?_); clear hK3 K3; refine HC_cond rfl (fun h4 => ?_) (fun h4 => ?_)
  · try exact Bool.noConfusion h4
    try simp only [ZZ] at h4
    refine HC_seq fun K5 hK5 => HC_region ?_; refine HLm rfl ?_; refine HL_nil (hK5 _ _ _ _ ?_); clear hK5 K5; refine HC_ret (HQ_thenR ?_); clear hK2 K2; refine HQ_post rfl rfl (.cons (res_tmp rfl) .nil) (fun w1 hs1 => ?_); refine ⟨?_, hs1.keep⟩
    simp_all [sizeT, resVal]
  · try exact Bool.noConfusion h4
    try simp only [ZZ] at h4
    refine HC_skip (hK2 _ _ _ _ ?_); clear hK2 K2; refine HC_seq fun K6 hK6 => HC_region ?_; refine HL_r rfl rfl rfl rfl (R_loadA (vs := [_, _, _]) rfl (known_L (k := 0) rfl) rfl rfl rfl rfl) ?_; refine HL_callR rfl rfl rfl (enters_of Tryz.func51 (by kernel_rfl) rfl) (h2 (isFix_iff.1 (by assumption)).1 (isFix_iff.1 (by assumption)).2) (fun q hq => Or.inr hq) ?_; refine HLm rfl ?_; refine HL_nil (hK6 _ _ _ _ ?_); clear hK6 K6; refine HC_ret ?_; refine HQ_post rfl rfl (.cons (res_tmp rfl) .nil) (fun w1 hs1 => ?_); refine ⟨?_, hs1.keep⟩
    simp_all [sizeT, resVal]
end Go.Proofs.YtlcbfphioeppaaaGreatDoor
namespace Go.Proofs.YtlcbfphioeppaaaGreatDoor
set_option linter.all false
open Go.SL Go.RowKit Go.Shelf
/-! values of some of their parts alone -/
def vBlk (r : Nat) (v : Vl) : Nat × Obj := (r, .cells v.cells.toArray 31 (0, 0))
def zVl : Vl := .mk 0 0 0 0 [] none [] none 0
def clV (f : FuncId) (r : Nat) : Value := .func (.func f) #[] #[.pointer (some ⟨r, 0, none⟩)]
/-- What a part that is kept owes. -/
def Keeps (f : FuncId) (v out : Vl) : Prop := ∀ r1 rr : Nat, r1 ≠ rr → PureMR Tryz.prog f [.pointer (some ⟨rr, 0, none⟩), .pointer (some ⟨r1, 0, none⟩)].toArray (.tuple #[]) rr (vBlk rr zVl).2 (vBlk rr out).2 [vBlk r1 v]
set_option maxRecDepth 10000 in
theorem K_number (a b c d : Nat) (bits : List Bool) (pb : Pl) (items : List Vl) (pi : Pl) (pick : Int) : Keeps 201 (.mk a b c d bits pb items pi pick) (.mk a b c d [] none [] none 0) := fun r1 rr hne => by
  refine pureMR_of_HC (fun p hp => by rw [List.mem_singleton.1 hp]; exact hne) Tryz.func201 rfl rfl fun w => ?_; refine HC_region (HLm rfl ?_)
  refine HL_r rfl rfl rfl rfl (R_fieldAddr rfl rfl (by first | (simp only [Nat.zero_add, Nat.reduceAdd, Nat.reduceMul, Nat.zero_mul, Nat.mul_one, Nat.add_zero]; exact rfl) | exact rfl)) ?_; refine HL_r rfl rfl rfl rfl (R_loadA (vs := [_, _, _, _]) rfl (known_R (k := 0) rfl) rfl rfl rfl rfl) ?_; refine HLp rfl ?_
  refine HL_r rfl rfl rfl rfl (R_fieldAddr rfl rfl (by first | (simp only [Nat.zero_add, Nat.reduceAdd, Nat.reduceMul, Nat.zero_mul, Nat.mul_one, Nat.add_zero]; exact rfl) | exact rfl)) ?_
  refine HL_storeA (k := 0) (n := 4) (vs := #[_, _, _, _]) rfl rfl rfl rfl rfl rfl rfl (by exact Nat.le_of_ble_eq_true rfl) (by first | (simp only [List.take_zero, List.nil_append, Array.toList_toArray, List.drop_succ_cons, List.drop_zero, List.take_succ_cons, List.cons_append, Nat.zero_add, Nat.reduceAdd, List.append_nil, List.drop_nil]; exact rfl) | exact rfl) (by first | (simp only [List.set_cons_zero, List.set_cons_succ]; exact rfl) | exact rfl) ?_; refine HL_nil ?_; refine HQ_postN rfl rfl .nil (fun w1 hs1 => ?_); exact ⟨rfl, _, List.mem_cons_self, hs1⟩
set_option maxRecDepth 10000 in
theorem K_items (a b c d : Nat) (bits : List Bool) (pb : Pl) (items : List Vl) (pi : Pl) (pick : Int) : Keeps 204 (.mk a b c d bits pb items pi pick) (.mk 0 0 0 0 [] none items pi 0) := fun r1 rr hne => by
  refine pureMR_of_HC (fun p hp => by rw [List.mem_singleton.1 hp]; exact hne) Tryz.func204 rfl rfl fun w => ?_; refine HC_region (HLm rfl ?_)
  refine HL_r rfl rfl rfl rfl (R_fieldAddr rfl rfl (by first | (simp only [Nat.zero_add, Nat.reduceAdd, Nat.reduceMul, Nat.zero_mul, Nat.mul_one, Nat.add_zero]; exact rfl) | exact rfl)) ?_; refine HL_r rfl rfl rfl rfl (R_load rfl (known_R (k := 0) rfl) rfl rfl) ?_; refine HLp rfl ?_
  refine HL_r rfl rfl rfl rfl (R_fieldAddr rfl rfl (by first | (simp only [Nat.zero_add, Nat.reduceAdd, Nat.reduceMul, Nat.zero_mul, Nat.mul_one, Nat.add_zero]; exact rfl) | exact rfl)) ?_
  refine HL_store (k := 0) rfl rfl rfl rfl rfl rfl rfl rfl (by first | (simp only [List.setIfInBounds_toArray, List.set_cons_zero, List.set_cons_succ]; exact rfl) | exact rfl) (by first | (simp only [List.set_cons_zero, List.set_cons_succ]; exact rfl) | exact rfl) ?_; refine HL_nil ?_; refine HQ_postN rfl rfl .nil (fun w1 hs1 => ?_); exact ⟨rfl, _, List.mem_cons_self, hs1⟩
set_option maxRecDepth 10000 in
theorem K_bits (a b c d : Nat) (bits : List Bool) (pb : Pl) (items : List Vl) (pi : Pl) (pick : Int) : Keeps 205 (.mk a b c d bits pb items pi pick) (.mk 0 0 0 0 bits pb [] none 0) := fun r1 rr hne => by
  refine pureMR_of_HC (fun p hp => by rw [List.mem_singleton.1 hp]; exact hne) Tryz.func205 rfl rfl fun w => ?_; refine HC_region (HLm rfl ?_)
  refine HL_r rfl rfl rfl rfl (R_fieldAddr rfl rfl (by first | (simp only [Nat.zero_add, Nat.reduceAdd, Nat.reduceMul, Nat.zero_mul, Nat.mul_one, Nat.add_zero]; exact rfl) | exact rfl)) ?_; refine HL_r rfl rfl rfl rfl (R_load rfl (known_R (k := 0) rfl) rfl rfl) ?_; refine HLp rfl ?_
  refine HL_r rfl rfl rfl rfl (R_fieldAddr rfl rfl (by first | (simp only [Nat.zero_add, Nat.reduceAdd, Nat.reduceMul, Nat.zero_mul, Nat.mul_one, Nat.add_zero]; exact rfl) | exact rfl)) ?_
  refine HL_store (k := 0) rfl rfl rfl rfl rfl rfl rfl rfl (by first | (simp only [List.setIfInBounds_toArray, List.set_cons_zero, List.set_cons_succ]; exact rfl) | exact rfl) (by first | (simp only [List.set_cons_zero, List.set_cons_succ]; exact rfl) | exact rfl) ?_; refine HL_nil ?_; refine HQ_postN rfl rfl .nil (fun w1 hs1 => ?_); exact ⟨rfl, _, List.mem_cons_self, hs1⟩
set_option maxRecDepth 10000 in
theorem K_pick (a b c d : Nat) (bits : List Bool) (pb : Pl) (items : List Vl) (pi : Pl) (pick : Int) : Keeps 206 (.mk a b c d bits pb items pi pick) (.mk 0 0 0 0 [] none items pi pick) := fun r1 rr hne => by
  refine pureMR_of_HC (fun p hp => by rw [List.mem_singleton.1 hp]; exact hne) Tryz.func206 rfl rfl fun w => ?_
  refine HC_drawB [] [(0, .pure), (1, .pure), (2, .pure), (3, .pure), (4, .pure), (5, .pure), (6, .pure), (7, .pure), (8, .turn), (9, .pure), (10, .pure), (11, .turn)] 12 [0, 1, 2, 3, 4, 5, 6, 7, 8, 9, 10, 11] (by kernel_rfl) (by kernel_rfl) (by first | exact (fun _ h => nomatch h) | simp [SubS] | (intro p hp; simp [hp])) ?_; refine HB_p (k := 0) rfl rfl rfl rfl rfl (fun _ hS => (R_move rfl)) ?_; refine HB_p (k := 1) rfl rfl rfl rfl rfl (fun _ hS => (R_move rfl)) ?_
  refine HB_p (k := 2) rfl rfl rfl rfl rfl (fun _ hS => (R_fieldAddr rfl rfl (by first | (simp only [Nat.zero_add, Nat.reduceAdd, Nat.reduceMul, Nat.zero_mul, Nat.mul_one, Nat.add_zero]; exact rfl) | exact rfl))) ?_; refine HB_p (k := 3) rfl rfl rfl rfl rfl (fun _ hS => (R_load rfl (known_R (k := 0) rfl) rfl rfl)) ?_
  refine HB_p (k := 4) rfl rfl rfl rfl rfl (fun _ hS => (R_fieldAddr rfl rfl (by first | (simp only [Nat.zero_add, Nat.reduceAdd, Nat.reduceMul, Nat.zero_mul, Nat.mul_one, Nat.add_zero]; exact rfl) | exact rfl))) ?_; refine HB_p (k := 5) rfl rfl rfl rfl rfl (fun _ hS => (R_load rfl (known_R (k := 0) rfl) rfl rfl)) ?_; refine HB_p (k := 6) rfl rfl rfl rfl rfl (fun _ hS => (R_pure rfl rfl rfl)) ?_
  refine HB_p (k := 7) rfl rfl rfl rfl rfl (fun _ hS => (R_fieldAddr rfl rfl (by first | (simp only [Nat.zero_add, Nat.reduceAdd, Nat.reduceMul, Nat.zero_mul, Nat.mul_one, Nat.add_zero]; exact rfl) | exact rfl))) ?_
  refine HB_store (k := 8) (q := 0) rfl rfl rfl rfl rfl rfl rfl rfl rfl (by first | (simp only [List.setIfInBounds_toArray, List.set_cons_zero, List.set_cons_succ]; exact rfl) | exact rfl) (by first | (simp only [List.set_cons_zero, List.set_cons_succ]; exact rfl) | exact rfl) (by first | exact (fun _ h => nomatch h) | simp [SubS] | (intro p hp; simp [hp])) ?_; refine HB_p (k := 9) rfl rfl rfl rfl rfl (fun _ hS => (R_pure rfl rfl rfl)) ?_
  refine HB_p (k := 10) rfl rfl rfl rfl rfl (fun _ hS => (R_fieldAddr rfl rfl (by first | (simp only [Nat.zero_add, Nat.reduceAdd, Nat.reduceMul, Nat.zero_mul, Nat.mul_one, Nat.add_zero]; exact rfl) | exact rfl))) ?_
  refine HB_store (k := 11) (q := 0) rfl rfl rfl rfl rfl rfl rfl rfl rfl (by first | (simp only [List.setIfInBounds_toArray, List.set_cons_zero, List.set_cons_succ]; exact rfl) | exact rfl) (by first | (simp only [List.set_cons_zero, List.set_cons_succ]; exact rfl) | exact rfl) (by first | exact (fun _ h => nomatch h) | simp [SubS] | (intro p hp; simp [hp])) ?_; refine HB_end ?_; refine HL_nil ?_; refine HQ_postN rfl rfl .nil (fun w1 hs1 => ?_); exact ⟨rfl, _, List.mem_cons_self, hs1⟩
set_option maxRecDepth 10000 in
theorem S_bare {R : List (Nat × Obj)} {v out : Vl} {f : FuncId} {rv : Nat} (ef : Enters Tryz.prog f) (hv : v.In R) (ho : out.In R) (hk : Keeps f v out) (hr : vBlk rv v ∈ R) : PureR Tryz.prog 200 [v.val, clV f rv].toArray (.bool (sameV v out)) R := by
  have hsm := S_Same hv out ho
  obtain ⟨a, b, c, d, bits, pb, items, pi, pick⟩ := v
  obtain ⟨a', b', c', d', bits', pb', items', pi', pick'⟩ := out
  refine pureR_of_HC Tryz.func200 rfl rfl fun w => ?_; refine HC_seq fun K1 hK1 => HC_region ?_; refine HL_box (cs := #[_, _, _, _, _, _, _]) rfl rfl rfl rfl fun r1 => ?_; refine HLm rfl ?_; refine HL_nil (hK1 _ _ _ _ ?_); refine HC_seq fun K2 hK2 => HC_region ?_; refine HL_alloc (cs := #[_, _, _, _, _, _, _]) rfl rfl rfl rfl fun r2 => ?_; refine HL_nil (hK2 _ _ _ _ ?_); refine HC_seq fun K3 hK3 => HC_region ?_; refine HLm rfl ?_; refine HL_callMR (k := 0) rfl rfl rfl ef rfl (fun hne => hk rv r2 (hne _ List.mem_cons_self)) (fun q hq => by rw [List.mem_singleton.1 hq]; exact hr) rfl ?_; refine HL_nil (hK3 _ _ _ _ ?_); refine HC_seq fun K4 hK4 => HC_region ?_; refine HL_r rfl rfl rfl rfl (R_loadA (vs := [_, _, _, _, _, _, _]) rfl (known_L (k := 1) rfl) rfl rfl rfl rfl) ?_; refine HL_r rfl rfl rfl rfl (R_loadA (vs := [_, _, _, _, _, _, _]) rfl (known_L (k := 0) rfl) rfl rfl rfl rfl) ?_; refine HL_callR rfl rfl rfl (enters_of Tryz.func23 (by kernel_rfl) rfl) hsm (fun q hq => Or.inr hq) ?_; refine HLm rfl ?_; refine HL_nil (hK4 _ _ _ _ ?_); refine HC_ret ?_; refine HQ_post rfl rfl (.cons (res_tmp rfl) .nil) (fun w1 hs1 => ?_); exact ⟨rfl, hs1.keep⟩
theorem In_bits {R : List (Nat × Obj)} {a b c d : Nat} {bits : List Bool} {pb : Pl} {items : List Vl} {pi : Pl} {pick : Int} (h : Vl.In R (.mk a b c d bits pb items pi pick)) : Vl.In R (.mk a b c d [] none [] none 0) ∧ Vl.In R (.mk 0 0 0 0 [] none items pi 0) ∧ Vl.In R (.mk 0 0 0 0 bits pb [] none 0) ∧ Vl.In R (.mk 0 0 0 0 [] none items pi pick) := by
  cases h with
  | mk ha hb hc hd hlb hsb hl hs hp hi =>
  have z : U64 0 := by unfold U64; omega
  have i0 : I64 0 := by unfold I64; omega
  refine ⟨.mk ha hb hc hd (by simp) rfl (by simp) rfl i0 (by simp), .mk z z z z (by simp) rfl hl hs i0 hi, .mk z z z z hlb hsb (by simp) rfl i0 (by simp), .mk z z z z (by simp) rfl hl hs hp hi⟩
theorem sameL_refl (l : List Vl) : sameL l l = true := sameL_spec.2 ⟨rfl, fun i x y hx hy => by rw [hx] at hy; cases hy; exact sameV_refl x⟩
theorem sameL_nil (l : List Vl) : sameL l [] = decide (l.length = 0) := by cases l <;> simp [sameL]
theorem bare_number {a b c d : Nat} {bits : List Bool} {pb : Pl} {items : List Vl} {pi : Pl} {pick : Int} : sameV (.mk a b c d bits pb items pi pick) (.mk a b c d [] none [] none 0) = onlyB (.mk a b c d bits pb items pi pick) true false false false := by
  rw [sameV_mk, onlyB_mk, sameL_nil]
  by_cases h1 : bits = [] <;> by_cases h2 : items = [] <;> by_cases h3 : pick = 0 <;> simp [h1, h2, h3]
theorem bare_items {a b c d : Nat} {bits : List Bool} {pb : Pl} {items : List Vl} {pi : Pl} {pick : Int} : sameV (.mk a b c d bits pb items pi pick) (.mk 0 0 0 0 [] none items pi 0) = onlyB (.mk a b c d bits pb items pi pick) false false true false := by
  rw [sameV_mk, onlyB_mk, sameL_refl]
  by_cases h1 : bits = [] <;> by_cases h3 : pick = 0 <;> simp [h1, h3]
theorem bare_bits {a b c d : Nat} {bits : List Bool} {pb : Pl} {items : List Vl} {pi : Pl} {pick : Int} : sameV (.mk a b c d bits pb items pi pick) (.mk 0 0 0 0 bits pb [] none 0) = onlyB (.mk a b c d bits pb items pi pick) false true false false := by
  rw [sameV_mk, onlyB_mk, sameL_nil]
  by_cases h2 : items = [] <;> by_cases h3 : pick = 0 <;> simp [h2, h3]
theorem bare_pick {a b c d : Nat} {bits : List Bool} {pb : Pl} {items : List Vl} {pi : Pl} {pick : Int} : sameV (.mk a b c d bits pb items pi pick) (.mk 0 0 0 0 [] none items pi pick) = onlyB (.mk a b c d bits pb items pi pick) false false true true := by
  rw [sameV_mk, onlyB_mk, sameL_refl]
  by_cases h1 : bits = [] <;> simp [h1]
set_option maxRecDepth 10000 in
theorem S_number {R : List (Nat × Obj)} {v : Vl} (hv : v.In R) : PureR Tryz.prog 143 [v.val].toArray (.bool (onlyB v true false false false)) R := by
  obtain ⟨a, b, c, d, bits, pb, items, pi, pick⟩ := v
  have hb4 := In_bits hv
  refine pureR_of_HC Tryz.func143 rfl rfl fun w => ?_; rw [← bare_number (pb := pb) (pi := pi)]; refine HC_seq fun K1 hK1 => HC_region ?_; refine HL_box (cs := #[_, _, _, _, _, _, _]) rfl rfl rfl rfl fun r1 => ?_; refine HLm rfl ?_; refine HL_nil (hK1 _ _ _ _ ?_); refine HC_seq fun K2 hK2 => HC_region ?_; refine HL_r rfl rfl rfl rfl (R_loadA (vs := [_, _, _, _, _, _, _]) rfl (known_L (k := 0) rfl) rfl rfl rfl rfl) ?_; refine HL_r rfl rfl rfl rfl (R_makeFunc rfl rfl) ?_
  refine HL_callR (Rl := vBlk r1 (.mk a b c d bits pb items pi pick) :: R) rfl rfl rfl (enters_of Tryz.func200 (by kernel_rfl) rfl) (S_bare (enters_of Tryz.func201 (by kernel_rfl) rfl) (hv.mono fun q hq => List.mem_cons_of_mem _ hq) (hb4.1.mono fun q hq => List.mem_cons_of_mem _ hq) (K_number a b c d bits pb items pi pick) List.mem_cons_self) (fun q hq => by rcases List.mem_cons.1 hq with rfl | hq; exact .inl List.mem_cons_self; exact .inr hq) ?_; refine HLm rfl ?_; refine HL_nil (hK2 _ _ _ _ ?_); refine HC_ret ?_; refine HQ_post rfl rfl (.cons (res_tmp rfl) .nil) (fun w1 hs1 => ?_); exact ⟨rfl, hs1.keep⟩
set_option maxRecDepth 10000 in
theorem S_items {R : List (Nat × Obj)} {v : Vl} (hv : v.In R) : PureR Tryz.prog 156 [v.val].toArray (.bool (onlyB v false false true false)) R := by
  obtain ⟨a, b, c, d, bits, pb, items, pi, pick⟩ := v
  have hb4 := In_bits hv
  refine pureR_of_HC Tryz.func156 rfl rfl fun w => ?_; rw [← bare_items (pb := pb) (pi := pi)]; refine HC_seq fun K1 hK1 => HC_region ?_; refine HL_box (cs := #[_, _, _, _, _, _, _]) rfl rfl rfl rfl fun r1 => ?_; refine HLm rfl ?_; refine HL_nil (hK1 _ _ _ _ ?_); refine HC_seq fun K2 hK2 => HC_region ?_; refine HL_r rfl rfl rfl rfl (R_loadA (vs := [_, _, _, _, _, _, _]) rfl (known_L (k := 0) rfl) rfl rfl rfl rfl) ?_; refine HL_r rfl rfl rfl rfl (R_makeFunc rfl rfl) ?_
  refine HL_callR (Rl := vBlk r1 (.mk a b c d bits pb items pi pick) :: R) rfl rfl rfl (enters_of Tryz.func200 (by kernel_rfl) rfl) (S_bare (enters_of Tryz.func204 (by kernel_rfl) rfl) (hv.mono fun q hq => List.mem_cons_of_mem _ hq) (hb4.2.1.mono fun q hq => List.mem_cons_of_mem _ hq) (K_items a b c d bits pb items pi pick) List.mem_cons_self) (fun q hq => by rcases List.mem_cons.1 hq with rfl | hq; exact .inl List.mem_cons_self; exact .inr hq) ?_; refine HLm rfl ?_; refine HL_nil (hK2 _ _ _ _ ?_); refine HC_ret ?_; refine HQ_post rfl rfl (.cons (res_tmp rfl) .nil) (fun w1 hs1 => ?_); exact ⟨rfl, hs1.keep⟩
set_option maxRecDepth 10000 in
theorem S_bits {R : List (Nat × Obj)} {v : Vl} (hv : v.In R) : PureR Tryz.prog 163 [v.val].toArray (.bool (onlyB v false true false false)) R := by
  obtain ⟨a, b, c, d, bits, pb, items, pi, pick⟩ := v
  have hb4 := In_bits hv
  refine pureR_of_HC Tryz.func163 rfl rfl fun w => ?_; rw [← bare_bits (pb := pb) (pi := pi)]; refine HC_seq fun K1 hK1 => HC_region ?_; refine HL_box (cs := #[_, _, _, _, _, _, _]) rfl rfl rfl rfl fun r1 => ?_; refine HLm rfl ?_; refine HL_nil (hK1 _ _ _ _ ?_); refine HC_seq fun K2 hK2 => HC_region ?_; refine HL_r rfl rfl rfl rfl (R_loadA (vs := [_, _, _, _, _, _, _]) rfl (known_L (k := 0) rfl) rfl rfl rfl rfl) ?_; refine HL_r rfl rfl rfl rfl (R_makeFunc rfl rfl) ?_
  refine HL_callR (Rl := vBlk r1 (.mk a b c d bits pb items pi pick) :: R) rfl rfl rfl (enters_of Tryz.func200 (by kernel_rfl) rfl) (S_bare (enters_of Tryz.func205 (by kernel_rfl) rfl) (hv.mono fun q hq => List.mem_cons_of_mem _ hq) (hb4.2.2.1.mono fun q hq => List.mem_cons_of_mem _ hq) (K_bits a b c d bits pb items pi pick) List.mem_cons_self) (fun q hq => by rcases List.mem_cons.1 hq with rfl | hq; exact .inl List.mem_cons_self; exact .inr hq) ?_; refine HLm rfl ?_; refine HL_nil (hK2 _ _ _ _ ?_); refine HC_ret ?_; refine HQ_post rfl rfl (.cons (res_tmp rfl) .nil) (fun w1 hs1 => ?_); exact ⟨rfl, hs1.keep⟩
set_option maxRecDepth 10000 in
theorem S_pick {R : List (Nat × Obj)} {v : Vl} (hv : v.In R) : PureR Tryz.prog 172 [v.val].toArray (.bool (onlyB v false false true true)) R := by
  obtain ⟨a, b, c, d, bits, pb, items, pi, pick⟩ := v
  have hb4 := In_bits hv
  refine pureR_of_HC Tryz.func172 rfl rfl fun w => ?_; rw [← bare_pick (pb := pb) (pi := pi)]; refine HC_seq fun K1 hK1 => HC_region ?_; refine HL_box (cs := #[_, _, _, _, _, _, _]) rfl rfl rfl rfl fun r1 => ?_; refine HLm rfl ?_; refine HL_nil (hK1 _ _ _ _ ?_); refine HC_seq fun K2 hK2 => HC_region ?_; refine HL_r rfl rfl rfl rfl (R_loadA (vs := [_, _, _, _, _, _, _]) rfl (known_L (k := 0) rfl) rfl rfl rfl rfl) ?_; refine HL_r rfl rfl rfl rfl (R_makeFunc rfl rfl) ?_
  refine HL_callR (Rl := vBlk r1 (.mk a b c d bits pb items pi pick) :: R) rfl rfl rfl (enters_of Tryz.func200 (by kernel_rfl) rfl) (S_bare (enters_of Tryz.func206 (by kernel_rfl) rfl) (hv.mono fun q hq => List.mem_cons_of_mem _ hq) (hb4.2.2.2.mono fun q hq => List.mem_cons_of_mem _ hq) (K_pick a b c d bits pb items pi pick) List.mem_cons_self) (fun q hq => by rcases List.mem_cons.1 hq with rfl | hq; exact .inl List.mem_cons_self; exact .inr hq) ?_; refine HLm rfl ?_; refine HL_nil (hK2 _ _ _ _ ?_); refine HC_ret ?_; refine HQ_post rfl rfl (.cons (res_tmp rfl) .nil) (fun w1 hs1 => ?_); exact ⟨rfl, hs1.keep⟩
end Go.Proofs.YtlcbfphioeppaaaGreatDoor
namespace Go.Proofs.YtlcbfphioeppaaaGreatDoor
set_option linter.all false
open Go.SL Go.RowKit Go.Shelf
theorem less1 {l : List Nat} (hl : WOk l) : (!lessB [1, 0, 0, 0] l) = (decide (l = [0, 0, 0, 0]) || decide (l = [1, 0, 0, 0])) := by
  have h0 : WOk [0, 0, 0, 0] := ⟨rfl, fun x hx => by simp at hx; omega⟩
  have h1 : WOk [1, 0, 0, 0] := ⟨rfl, fun x hx => by simp at hx; omega⟩
  rw [lessB_eq h1 hl, show wN [1, 0, 0, 0] = 1 from rfl]
  by_cases e0 : l = [0, 0, 0, 0]
  · subst e0; rfl
  by_cases e1 : l = [1, 0, 0, 0]
  · subst e1; rfl
  have n0 : wN l ≠ 0 := fun h => e0 (wN_inj hl h0 h)
  have n1 : wN l ≠ 1 := fun h => e1 (wN_inj hl h1 h)
  simp [e0, e1]
  omega
set_option maxRecDepth 10000 in
theorem O_1 {R : List (Nat × Obj)} {n : Int} {p : Pl} {ins : List Ty} {v : Vl} (ht : Ty.In R (.mk 1 n p ins)) (hv : v.In R) : PureR Tryz.prog 142 [Ty.val (.mk 1 n p ins), v.val].toArray (.bool (ofT 1 n ins.length v)) R := by
  have hnu := S_number hv
  have hit := S_items hv
  have hbi := S_bits hv
  have hpk := S_pick hv
  cases ht with
  | mk hk hn hlt hst hit0 =>
  cases hv with
  | @mk a b c d bits pb items pi pick ha hb hc hd hlb hsb hl hs hp hi =>
  have hw : WOk [a, b, c, d] := ⟨rfl, fun x hx => by simp at hx; rcases hx with rfl | rfl | rfl | rfl <;> assumption⟩
  have hw1 : WOk [1, 0, 0, 0] := ⟨rfl, fun x hx => by simp at hx; omega⟩
  have hl1 := less1 hw
  rw [ofT_mk _ n ins.length a b c d bits pb items pi pick _ rfl]; refine pureR_of_HC Tryz.func142 rfl rfl fun w => ?_; refine HC_seq fun K1 hK1 => HC_region ?_; refine HL_box (cs := #[_, _, _]) rfl rfl rfl rfl fun r1 => ?_; refine HL_box (cs := #[_, _, _, _, _, _, _]) rfl rfl rfl rfl fun r2 => ?_; refine HLm rfl ?_; refine HL_nil (hK1 _ _ _ _ ?_); clear hK1 K1; refine HC_seq fun K2 hK2 => ?_; refine HC_draw 12 (by kernel_rfl) (by kernel_rfl) ?_; refine HD_r rfl rfl rfl (R_loadA (vs := [_, _, _, _, _, _, _]) rfl (known_L (k := 0) rfl) rfl rfl rfl rfl) ?_; refine HD_callR rfl rfl rfl (enters_of Tryz.func143 (by kernel_rfl) rfl) hnu (fun q hq => Or.inr hq) ?_; refine HD_r rfl rfl rfl (R_move rfl) ?_
  refine HD_case 7 rfl (fun hb3 => ?_) (fun hb3 => ?_) <;> (try simp only [ZZ] at hb3) <;> first | (refine HD_r rfl rfl rfl (R_fieldAddr rfl rfl (by first | (simp only [Nat.zero_add, Nat.reduceAdd, Nat.reduceMul, Nat.zero_mul, Nat.mul_one, Nat.add_zero]; exact rfl) | exact rfl)) ?_) | (refine HD_skip rfl rfl rfl ?_)
  all_goals first
    | (refine HD_r rfl rfl rfl (R_loadA (vs := [_, _, _, _]) rfl (known_L (k := 0) rfl) rfl rfl rfl rfl) ?_)
    | (refine HD_skip rfl rfl rfl ?_)
  all_goals first
    | (refine HD_callP rfl rfl rfl (enters_of Tryz.func144 (by kernel_rfl) rfl) (P_word_Bytes hw) ?_)
    | (refine HD_skip rfl rfl rfl ?_)
  all_goals first
    | (refine HD_r rfl rfl rfl (R_lenBs rfl rfl) ?_)
    | (refine HD_skip rfl rfl rfl ?_)
  all_goals first
    | (refine HD_r rfl rfl rfl (R_fieldAddr rfl rfl (by first | (simp only [Nat.zero_add, Nat.reduceAdd, Nat.reduceMul, Nat.zero_mul, Nat.mul_one, Nat.add_zero]; exact rfl) | exact rfl)) ?_)
    | (refine HD_skip rfl rfl rfl ?_)
  all_goals first
    | (refine HD_r rfl rfl rfl (R_load rfl (known_L (k := 1) rfl) rfl rfl) ?_)
    | (refine HD_skip rfl rfl rfl ?_)
  all_goals first
    | (refine HD_r rfl rfl rfl (R_pure rfl rfl rfl) ?_)
    | (refine HD_skip rfl rfl rfl ?_)
  all_goals first
    | (refine HD_r rfl rfl rfl (R_pickT rfl rfl) ?_)
    | (refine HD_r rfl rfl rfl (R_pickF rfl rfl) ?_)
  all_goals refine HD_r rfl rfl rfl (R_assign rfl) ?_
  all_goals refine HD_end ?_
  all_goals refine HL_nil ?_
  all_goals (
   refine hK2 _ _ _ _ ?_; clear hK2 K2; refine HC_ret ?_; refine HQ_post rfl rfl (.cons (res_tmp rfl) .nil) (fun w1 hs1 => ?_); refine ⟨?_, hs1.keep⟩
   simp_all [resVal]
   skip)
set_option maxRecDepth 10000 in
theorem O_2 {R : List (Nat × Obj)} {n : Int} {p : Pl} {ins : List Ty} {v : Vl} (ht : Ty.In R (.mk 2 n p ins)) (hv : v.In R) : PureR Tryz.prog 148 [Ty.val (.mk 2 n p ins), v.val].toArray (.bool (ofT 2 n ins.length v)) R := by
  have hnu := S_number hv
  have hit := S_items hv
  have hbi := S_bits hv
  have hpk := S_pick hv
  cases ht with
  | mk hk hn hlt hst hit0 =>
  cases hv with
  | @mk a b c d bits pb items pi pick ha hb hc hd hlb hsb hl hs hp hi =>
  have hw : WOk [a, b, c, d] := ⟨rfl, fun x hx => by simp at hx; rcases hx with rfl | rfl | rfl | rfl <;> assumption⟩
  have hw1 : WOk [1, 0, 0, 0] := ⟨rfl, fun x hx => by simp at hx; omega⟩
  have hl1 := less1 hw
  rw [ofT_mk _ n ins.length a b c d bits pb items pi pick _ rfl]; refine pureR_of_HC Tryz.func148 rfl rfl fun w => ?_; refine HC_seq fun K1 hK1 => HC_region ?_; refine HL_box (cs := #[_, _, _]) rfl rfl rfl rfl fun r1 => ?_; refine HL_box (cs := #[_, _, _, _, _, _, _]) rfl rfl rfl rfl fun r2 => ?_; refine HLm rfl ?_; refine HL_nil (hK1 _ _ _ _ ?_); clear hK1 K1; refine HC_seq fun K2 hK2 => ?_; refine HC_draw 10 (by kernel_rfl) (by kernel_rfl) ?_; refine HD_r rfl rfl rfl (R_loadA (vs := [_, _, _, _, _, _, _]) rfl (known_L (k := 0) rfl) rfl rfl rfl rfl) ?_; refine HD_callR rfl rfl rfl (enters_of Tryz.func143 (by kernel_rfl) rfl) hnu (fun q hq => Or.inr hq) ?_; refine HD_r rfl rfl rfl (R_move rfl) ?_
  refine HD_case 7 rfl (fun hb3 => ?_) (fun hb3 => ?_) <;> (try simp only [ZZ] at hb3) <;> first | (refine HD_callP rfl rfl rfl (enters_of Tryz.func150 (by kernel_rfl) rfl) (P_word_Of ..) ?_) | (refine HD_skip rfl rfl rfl ?_)
  all_goals first
    | (refine HD_r rfl rfl rfl (R_fieldAddr rfl rfl (by first | (simp only [Nat.zero_add, Nat.reduceAdd, Nat.reduceMul, Nat.zero_mul, Nat.mul_one, Nat.add_zero]; exact rfl) | exact rfl)) ?_)
    | (refine HD_skip rfl rfl rfl ?_)
  all_goals first
    | (refine HD_r rfl rfl rfl (R_loadA (vs := [_, _, _, _]) rfl (known_L (k := 0) rfl) rfl rfl rfl rfl) ?_)
    | (refine HD_skip rfl rfl rfl ?_)
  all_goals first
    | (refine HD_callP rfl rfl rfl (enters_of Tryz.func149 (by kernel_rfl) rfl) (P_word_Less hw1 hw) ?_)
    | (refine HD_skip rfl rfl rfl ?_)
  all_goals first
    | (refine HD_r rfl rfl rfl (R_pure rfl rfl rfl) ?_)
    | (refine HD_skip rfl rfl rfl ?_)
  all_goals first
    | (refine HD_r rfl rfl rfl (R_pickT rfl rfl) ?_)
    | (refine HD_r rfl rfl rfl (R_pickF rfl rfl) ?_)
  all_goals refine HD_r rfl rfl rfl (R_assign rfl) ?_
  all_goals refine HD_end ?_
  all_goals refine HL_nil ?_
  all_goals (
   refine hK2 _ _ _ _ ?_; clear hK2 K2; refine HC_ret ?_; refine HQ_post rfl rfl (.cons (res_tmp rfl) .nil) (fun w1 hs1 => ?_); refine ⟨?_, hs1.keep⟩
   simp_all [resVal]
   skip)
set_option maxRecDepth 10000 in
theorem O_3 {R : List (Nat × Obj)} {n : Int} {p : Pl} {ins : List Ty} {v : Vl} (ht : Ty.In R (.mk 3 n p ins)) (hv : v.In R) : PureR Tryz.prog 155 [Ty.val (.mk 3 n p ins), v.val].toArray (.bool (ofT 3 n ins.length v)) R := by
  have hnu := S_number hv
  have hit := S_items hv
  have hbi := S_bits hv
  have hpk := S_pick hv
  cases ht with
  | mk hk hn hlt hst hit0 =>
  cases hv with
  | @mk a b c d bits pb items pi pick ha hb hc hd hlb hsb hl hs hp hi =>
  have hw : WOk [a, b, c, d] := ⟨rfl, fun x hx => by simp at hx; rcases hx with rfl | rfl | rfl | rfl <;> assumption⟩
  have hw1 : WOk [1, 0, 0, 0] := ⟨rfl, fun x hx => by simp at hx; omega⟩
  have hl1 := less1 hw
  rw [ofT_mk _ n ins.length a b c d bits pb items pi pick _ rfl]; refine pureR_of_HC Tryz.func155 rfl rfl fun w => ?_; refine HC_seq fun K1 hK1 => HC_region ?_; refine HL_box (cs := #[_, _, _]) rfl rfl rfl rfl fun r1 => ?_; refine HL_box (cs := #[_, _, _, _, _, _, _]) rfl rfl rfl rfl fun r2 => ?_; refine HLm rfl ?_; refine HL_nil (hK1 _ _ _ _ ?_); clear hK1 K1; refine HC_seq fun K2 hK2 => HC_region ?_; refine HL_r rfl rfl rfl rfl (R_loadA (vs := [_, _, _, _, _, _, _]) rfl (known_L (k := 0) rfl) rfl rfl rfl rfl) ?_; refine HL_callR rfl rfl rfl (enters_of Tryz.func156 (by kernel_rfl) rfl) hit (fun q hq => Or.inr hq) ?_; refine HLm rfl ?_
  refine HL_case 7 rfl (fun hb3 => ?_) (fun hb3 => ?_) <;> (try simp only [ZZ] at hb3) <;> first | (refine HL_r rfl rfl rfl rfl (R_fieldAddr rfl rfl (by first | (simp only [Nat.zero_add, Nat.reduceAdd, Nat.reduceMul, Nat.zero_mul, Nat.mul_one, Nat.add_zero]; exact rfl) | exact rfl)) ?_) | (refine HL_skip rfl rfl rfl ?_)
  all_goals first
    | (refine HL_r rfl rfl rfl rfl (R_load rfl (known_L (k := 0) rfl) rfl rfl) ?_)
    | (refine HL_skip rfl rfl rfl ?_)
  all_goals first
    | (refine HL_r rfl rfl rfl rfl (R_lenPl rfl hs rfl) ?_)
    | (refine HL_skip rfl rfl rfl ?_)
  all_goals first
    | (refine HL_r rfl rfl rfl rfl (R_fieldAddr rfl rfl (by first | (simp only [Nat.zero_add, Nat.reduceAdd, Nat.reduceMul, Nat.zero_mul, Nat.mul_one, Nat.add_zero]; exact rfl) | exact rfl)) ?_)
    | (refine HL_skip rfl rfl rfl ?_)
  all_goals first
    | (refine HL_r rfl rfl rfl rfl (R_load rfl (known_L (k := 1) rfl) rfl rfl) ?_)
    | (refine HL_skip rfl rfl rfl ?_)
  all_goals first
    | (refine HLp rfl ?_)
    | (refine HL_skip rfl rfl rfl ?_)
  all_goals first
    | (refine HL_r rfl rfl rfl rfl (R_pickT rfl rfl) ?_)
    | (refine HL_r rfl rfl rfl rfl (R_pickF rfl rfl) ?_)
  all_goals refine HLm rfl ?_
  all_goals refine HL_nil ?_
  all_goals (
   refine hK2 _ _ _ _ ?_; clear hK2 K2; refine HC_ret ?_; refine HQ_post rfl rfl (.cons (res_tmp rfl) .nil) (fun w1 hs1 => ?_); refine ⟨?_, hs1.keep⟩
   simp_all [resVal]
   all_goals first | done | rfl | omega | (rw [Bool.eq_iff_iff]; simp only [Bool.and_eq_true, Bool.or_eq_true, decide_eq_true_eq, beq_iff_eq]; omega) | (simp only [decide_eq_true_eq, decide_eq_false_iff_not]; omega)
   skip)
set_option maxRecDepth 10000 in
theorem O_4 {R : List (Nat × Obj)} {n : Int} {p : Pl} {ins : List Ty} {v : Vl} (ht : Ty.In R (.mk 4 n p ins)) (hv : v.In R) : PureR Tryz.prog 160 [Ty.val (.mk 4 n p ins), v.val].toArray (.bool (ofT 4 n ins.length v)) R := by
  have hnu := S_number hv
  have hit := S_items hv
  have hbi := S_bits hv
  have hpk := S_pick hv
  cases ht with
  | mk hk hn hlt hst hit0 =>
  cases hv with
  | @mk a b c d bits pb items pi pick ha hb hc hd hlb hsb hl hs hp hi =>
  have hw : WOk [a, b, c, d] := ⟨rfl, fun x hx => by simp at hx; rcases hx with rfl | rfl | rfl | rfl <;> assumption⟩
  have hw1 : WOk [1, 0, 0, 0] := ⟨rfl, fun x hx => by simp at hx; omega⟩
  have hl1 := less1 hw
  rw [ofT_mk _ n ins.length a b c d bits pb items pi pick _ rfl]; refine pureR_of_HC Tryz.func160 rfl rfl fun w => ?_; refine HC_seq fun K1 hK1 => HC_region ?_; refine HL_box (cs := #[_, _, _]) rfl rfl rfl rfl fun r1 => ?_; refine HL_box (cs := #[_, _, _, _, _, _, _]) rfl rfl rfl rfl fun r2 => ?_; refine HLm rfl ?_; refine HL_nil (hK1 _ _ _ _ ?_); clear hK1 K1; refine HC_seq fun K2 hK2 => HC_region ?_; refine HL_r rfl rfl rfl rfl (R_loadA (vs := [_, _, _, _, _, _, _]) rfl (known_L (k := 0) rfl) rfl rfl rfl rfl) ?_; refine HL_callR rfl rfl rfl (enters_of Tryz.func156 (by kernel_rfl) rfl) hit (fun q hq => Or.inr hq) ?_; refine HLm rfl ?_; refine HL_nil (hK2 _ _ _ _ ?_); clear hK2 K2; refine HC_ret ?_; refine HQ_post rfl rfl (.cons (res_tmp rfl) .nil) (fun w1 hs1 => ?_); refine ⟨?_, hs1.keep⟩
  simp_all [resVal]
set_option maxRecDepth 10000 in
theorem O_5 {R : List (Nat × Obj)} {n : Int} {p : Pl} {ins : List Ty} {v : Vl} (ht : Ty.In R (.mk 5 n p ins)) (hv : v.In R) : PureR Tryz.prog 162 [Ty.val (.mk 5 n p ins), v.val].toArray (.bool (ofT 5 n ins.length v)) R := by
  have hnu := S_number hv
  have hit := S_items hv
  have hbi := S_bits hv
  have hpk := S_pick hv
  cases ht with
  | mk hk hn hlt hst hit0 =>
  cases hv with
  | @mk a b c d bits pb items pi pick ha hb hc hd hlb hsb hl hs hp hi =>
  have hw : WOk [a, b, c, d] := ⟨rfl, fun x hx => by simp at hx; rcases hx with rfl | rfl | rfl | rfl <;> assumption⟩
  have hw1 : WOk [1, 0, 0, 0] := ⟨rfl, fun x hx => by simp at hx; omega⟩
  have hl1 := less1 hw
  rw [ofT_mk _ n ins.length a b c d bits pb items pi pick _ rfl]; refine pureR_of_HC Tryz.func162 rfl rfl fun w => ?_; refine HC_seq fun K1 hK1 => HC_region ?_; refine HL_box (cs := #[_, _, _]) rfl rfl rfl rfl fun r1 => ?_; refine HL_box (cs := #[_, _, _, _, _, _, _]) rfl rfl rfl rfl fun r2 => ?_; refine HLm rfl ?_; refine HL_nil (hK1 _ _ _ _ ?_); clear hK1 K1; refine HC_seq fun K2 hK2 => HC_region ?_; refine HL_r rfl rfl rfl rfl (R_loadA (vs := [_, _, _, _, _, _, _]) rfl (known_L (k := 0) rfl) rfl rfl rfl rfl) ?_; refine HL_callR rfl rfl rfl (enters_of Tryz.func163 (by kernel_rfl) rfl) hbi (fun q hq => Or.inr hq) ?_; refine HLm rfl ?_
  refine HL_case 7 rfl (fun hb3 => ?_) (fun hb3 => ?_) <;> (try simp only [ZZ] at hb3) <;> first | (refine HL_r rfl rfl rfl rfl (R_fieldAddr rfl rfl (by first | (simp only [Nat.zero_add, Nat.reduceAdd, Nat.reduceMul, Nat.zero_mul, Nat.mul_one, Nat.add_zero]; exact rfl) | exact rfl)) ?_) | (refine HL_skip rfl rfl rfl ?_)
  all_goals first
    | (refine HL_r rfl rfl rfl rfl (R_load rfl (known_L (k := 0) rfl) rfl rfl) ?_)
    | (refine HL_skip rfl rfl rfl ?_)
  all_goals first
    | (refine HL_r rfl rfl rfl rfl (R_lenPl rfl hsb rfl) ?_)
    | (refine HL_skip rfl rfl rfl ?_)
  all_goals first
    | (refine HL_r rfl rfl rfl rfl (R_fieldAddr rfl rfl (by first | (simp only [Nat.zero_add, Nat.reduceAdd, Nat.reduceMul, Nat.zero_mul, Nat.mul_one, Nat.add_zero]; exact rfl) | exact rfl)) ?_)
    | (refine HL_skip rfl rfl rfl ?_)
  all_goals first
    | (refine HL_r rfl rfl rfl rfl (R_load rfl (known_L (k := 1) rfl) rfl rfl) ?_)
    | (refine HL_skip rfl rfl rfl ?_)
  all_goals first
    | (refine HLp rfl ?_)
    | (refine HL_skip rfl rfl rfl ?_)
  all_goals first
    | (refine HL_r rfl rfl rfl rfl (R_pickT rfl rfl) ?_)
    | (refine HL_r rfl rfl rfl rfl (R_pickF rfl rfl) ?_)
  all_goals refine HLm rfl ?_
  all_goals refine HL_nil ?_
  all_goals (
   refine hK2 _ _ _ _ ?_; clear hK2 K2; refine HC_ret ?_; refine HQ_post rfl rfl (.cons (res_tmp rfl) .nil) (fun w1 hs1 => ?_); refine ⟨?_, hs1.keep⟩
   simp_all [resVal]
   all_goals first | done | rfl | omega | (rw [Bool.eq_iff_iff]; simp only [Bool.and_eq_true, Bool.or_eq_true, decide_eq_true_eq, beq_iff_eq]; omega) | (simp only [decide_eq_true_eq, decide_eq_false_iff_not]; omega)
   skip)
set_option maxRecDepth 10000 in
theorem O_6 {R : List (Nat × Obj)} {n : Int} {p : Pl} {ins : List Ty} {v : Vl} (ht : Ty.In R (.mk 6 n p ins)) (hv : v.In R) : PureR Tryz.prog 166 [Ty.val (.mk 6 n p ins), v.val].toArray (.bool (ofT 6 n ins.length v)) R := by
  have hnu := S_number hv
  have hit := S_items hv
  have hbi := S_bits hv
  have hpk := S_pick hv
  cases ht with
  | mk hk hn hlt hst hit0 =>
  cases hv with
  | @mk a b c d bits pb items pi pick ha hb hc hd hlb hsb hl hs hp hi =>
  have hw : WOk [a, b, c, d] := ⟨rfl, fun x hx => by simp at hx; rcases hx with rfl | rfl | rfl | rfl <;> assumption⟩
  have hw1 : WOk [1, 0, 0, 0] := ⟨rfl, fun x hx => by simp at hx; omega⟩
  have hl1 := less1 hw
  rw [ofT_mk _ n ins.length a b c d bits pb items pi pick _ rfl]; refine pureR_of_HC Tryz.func166 rfl rfl fun w => ?_; refine HC_seq fun K1 hK1 => HC_region ?_; refine HL_box (cs := #[_, _, _]) rfl rfl rfl rfl fun r1 => ?_; refine HL_box (cs := #[_, _, _, _, _, _, _]) rfl rfl rfl rfl fun r2 => ?_; refine HLm rfl ?_; refine HL_nil (hK1 _ _ _ _ ?_); clear hK1 K1; refine HC_seq fun K2 hK2 => HC_region ?_; refine HL_r rfl rfl rfl rfl (R_loadA (vs := [_, _, _, _, _, _, _]) rfl (known_L (k := 0) rfl) rfl rfl rfl rfl) ?_; refine HL_callR rfl rfl rfl (enters_of Tryz.func163 (by kernel_rfl) rfl) hbi (fun q hq => Or.inr hq) ?_; refine HLm rfl ?_; refine HL_nil (hK2 _ _ _ _ ?_); clear hK2 K2; refine HC_ret ?_; refine HQ_post rfl rfl (.cons (res_tmp rfl) .nil) (fun w1 hs1 => ?_); refine ⟨?_, hs1.keep⟩
  simp_all [resVal]
set_option maxRecDepth 10000 in
theorem O_7 {R : List (Nat × Obj)} {n : Int} {p : Pl} {ins : List Ty} {v : Vl} (ht : Ty.In R (.mk 7 n p ins)) (hv : v.In R) : PureR Tryz.prog 168 [Ty.val (.mk 7 n p ins), v.val].toArray (.bool (ofT 7 n ins.length v)) R := by
  have hnu := S_number hv
  have hit := S_items hv
  have hbi := S_bits hv
  have hpk := S_pick hv
  cases ht with
  | mk hk hn hlt hst hit0 =>
  cases hv with
  | @mk a b c d bits pb items pi pick ha hb hc hd hlb hsb hl hs hp hi =>
  have hw : WOk [a, b, c, d] := ⟨rfl, fun x hx => by simp at hx; rcases hx with rfl | rfl | rfl | rfl <;> assumption⟩
  have hw1 : WOk [1, 0, 0, 0] := ⟨rfl, fun x hx => by simp at hx; omega⟩
  have hl1 := less1 hw
  rw [ofT_mk _ n ins.length a b c d bits pb items pi pick _ rfl]; refine pureR_of_HC Tryz.func168 rfl rfl fun w => ?_; refine HC_seq fun K1 hK1 => HC_region ?_; refine HL_box (cs := #[_, _, _]) rfl rfl rfl rfl fun r1 => ?_; refine HL_box (cs := #[_, _, _, _, _, _, _]) rfl rfl rfl rfl fun r2 => ?_; refine HLm rfl ?_; refine HL_nil (hK1 _ _ _ _ ?_); clear hK1 K1; refine HC_seq fun K2 hK2 => HC_region ?_; refine HL_r rfl rfl rfl rfl (R_loadA (vs := [_, _, _, _, _, _, _]) rfl (known_L (k := 0) rfl) rfl rfl rfl rfl) ?_; refine HL_callR rfl rfl rfl (enters_of Tryz.func156 (by kernel_rfl) rfl) hit (fun q hq => Or.inr hq) ?_; refine HLm rfl ?_
  refine HL_case 7 rfl (fun hb3 => ?_) (fun hb3 => ?_) <;> (try simp only [ZZ] at hb3) <;> first | (refine HL_r rfl rfl rfl rfl (R_fieldAddr rfl rfl (by first | (simp only [Nat.zero_add, Nat.reduceAdd, Nat.reduceMul, Nat.zero_mul, Nat.mul_one, Nat.add_zero]; exact rfl) | exact rfl)) ?_) | (refine HL_skip rfl rfl rfl ?_)
  all_goals first
    | (refine HL_r rfl rfl rfl rfl (R_load rfl (known_L (k := 0) rfl) rfl rfl) ?_)
    | (refine HL_skip rfl rfl rfl ?_)
  all_goals first
    | (refine HL_r rfl rfl rfl rfl (R_lenPl rfl hs rfl) ?_)
    | (refine HL_skip rfl rfl rfl ?_)
  all_goals first
    | (refine HL_r rfl rfl rfl rfl (R_fieldAddr rfl rfl (by first | (simp only [Nat.zero_add, Nat.reduceAdd, Nat.reduceMul, Nat.zero_mul, Nat.mul_one, Nat.add_zero]; exact rfl) | exact rfl)) ?_)
    | (refine HL_skip rfl rfl rfl ?_)
  all_goals first
    | (refine HL_r rfl rfl rfl rfl (R_load rfl (known_L (k := 1) rfl) rfl rfl) ?_)
    | (refine HL_skip rfl rfl rfl ?_)
  all_goals first
    | (refine HL_r rfl rfl rfl rfl (R_lenPl rfl hst rfl) ?_)
    | (refine HL_skip rfl rfl rfl ?_)
  all_goals first
    | (refine HLp rfl ?_)
    | (refine HL_skip rfl rfl rfl ?_)
  all_goals first
    | (refine HL_r rfl rfl rfl rfl (R_pickT rfl rfl) ?_)
    | (refine HL_r rfl rfl rfl rfl (R_pickF rfl rfl) ?_)
  all_goals refine HLm rfl ?_
  all_goals refine HL_nil ?_
  all_goals (
   refine hK2 _ _ _ _ ?_; clear hK2 K2; refine HC_ret ?_; refine HQ_post rfl rfl (.cons (res_tmp rfl) .nil) (fun w1 hs1 => ?_); refine ⟨?_, hs1.keep⟩
   simp_all [resVal]
   all_goals first | done | rfl | omega | (rw [Bool.eq_iff_iff]; simp only [Bool.and_eq_true, Bool.or_eq_true, decide_eq_true_eq, beq_iff_eq]; omega) | (simp only [decide_eq_true_eq, decide_eq_false_iff_not]; omega)
   skip)
set_option maxRecDepth 10000 in
theorem O_8 {R : List (Nat × Obj)} {n : Int} {p : Pl} {ins : List Ty} {v : Vl} (ht : Ty.In R (.mk 8 n p ins)) (hv : v.In R) : PureR Tryz.prog 171 [Ty.val (.mk 8 n p ins), v.val].toArray (.bool (ofT 8 n ins.length v)) R := by
  have hnu := S_number hv
  have hit := S_items hv
  have hbi := S_bits hv
  have hpk := S_pick hv
  cases ht with
  | mk hk hn hlt hst hit0 =>
  cases hv with
  | @mk a b c d bits pb items pi pick ha hb hc hd hlb hsb hl hs hp hi =>
  have hw : WOk [a, b, c, d] := ⟨rfl, fun x hx => by simp at hx; rcases hx with rfl | rfl | rfl | rfl <;> assumption⟩
  have hw1 : WOk [1, 0, 0, 0] := ⟨rfl, fun x hx => by simp at hx; omega⟩
  have hl1 := less1 hw
  rw [ofT_mk _ n ins.length a b c d bits pb items pi pick _ rfl]; refine pureR_of_HC Tryz.func171 rfl rfl fun w => ?_; refine HC_seq fun K1 hK1 => HC_region ?_; refine HL_box (cs := #[_, _, _]) rfl rfl rfl rfl fun r1 => ?_; refine HL_box (cs := #[_, _, _, _, _, _, _]) rfl rfl rfl rfl fun r2 => ?_; refine HLm rfl ?_; refine HL_nil (hK1 _ _ _ _ ?_); clear hK1 K1; refine HC_seq fun K2 hK2 => HC_region ?_; refine HL_r rfl rfl rfl rfl (R_loadA (vs := [_, _, _, _, _, _, _]) rfl (known_L (k := 0) rfl) rfl rfl rfl rfl) ?_; refine HL_callR rfl rfl rfl (enters_of Tryz.func172 (by kernel_rfl) rfl) hpk (fun q hq => Or.inr hq) ?_; refine HLm rfl ?_
  refine HL_case 7 rfl (fun hb3 => ?_) (fun hb3 => ?_) <;> (try simp only [ZZ] at hb3) <;> first | (refine HL_r rfl rfl rfl rfl (R_fieldAddr rfl rfl (by first | (simp only [Nat.zero_add, Nat.reduceAdd, Nat.reduceMul, Nat.zero_mul, Nat.mul_one, Nat.add_zero]; exact rfl) | exact rfl)) ?_) | (refine HL_skip rfl rfl rfl ?_)
  all_goals first
    | (refine HL_r rfl rfl rfl rfl (R_load rfl (known_L (k := 0) rfl) rfl rfl) ?_)
    | (refine HL_skip rfl rfl rfl ?_)
  all_goals first
    | (refine HL_r rfl rfl rfl rfl (R_lenPl rfl hs rfl) ?_)
    | (refine HL_skip rfl rfl rfl ?_)
  all_goals first
    | (refine HLp rfl ?_)
    | (refine HL_skip rfl rfl rfl ?_)
  all_goals first
    | (refine HL_r rfl rfl rfl rfl (R_pickT rfl rfl) ?_)
    | (refine HL_r rfl rfl rfl rfl (R_pickF rfl rfl) ?_)
  all_goals refine HLm rfl ?_
  all_goals first
    | (refine HL_skip rfl rfl rfl ?_)
    | (refine HL_case 13 rfl (fun hb7 => ?_) (fun hb7 => ?_) <;> (try simp only [ZZ] at hb7) <;> first | (refine HL_r rfl rfl rfl rfl (R_fieldAddr rfl rfl (by first | (simp only [Nat.zero_add, Nat.reduceAdd, Nat.reduceMul, Nat.zero_mul, Nat.mul_one, Nat.add_zero]; exact rfl) | exact rfl)) ?_) | (refine HL_skip rfl rfl rfl ?_))
  all_goals first
    | (refine HL_r rfl rfl rfl rfl (R_load rfl (known_L (k := 0) rfl) rfl rfl) ?_)
    | (refine HL_skip rfl rfl rfl ?_)
  all_goals first
    | (refine HLp rfl ?_)
    | (refine HL_skip rfl rfl rfl ?_)
  all_goals first
    | (refine HL_r rfl rfl rfl rfl (R_pickT rfl rfl) ?_)
    | (refine HL_r rfl rfl rfl rfl (R_pickF rfl rfl) ?_)
  all_goals refine HLm rfl ?_
  all_goals first
    | (refine HL_skip rfl rfl rfl ?_)
    | (refine HL_case 18 rfl (fun hb10 => ?_) (fun hb10 => ?_) <;> (try simp only [ZZ] at hb10) <;> first | (refine HL_r rfl rfl rfl rfl (R_fieldAddr rfl rfl (by first | (simp only [Nat.zero_add, Nat.reduceAdd, Nat.reduceMul, Nat.zero_mul, Nat.mul_one, Nat.add_zero]; exact rfl) | exact rfl)) ?_) | (refine HL_skip rfl rfl rfl ?_))
  all_goals first
    | (refine HL_r rfl rfl rfl rfl (R_load rfl (known_L (k := 0) rfl) rfl rfl) ?_)
    | (refine HL_skip rfl rfl rfl ?_)
  all_goals first
    | (refine HL_r rfl rfl rfl rfl (R_fieldAddr rfl rfl (by first | (simp only [Nat.zero_add, Nat.reduceAdd, Nat.reduceMul, Nat.zero_mul, Nat.mul_one, Nat.add_zero]; exact rfl) | exact rfl)) ?_)
    | (refine HL_skip rfl rfl rfl ?_)
  all_goals first
    | (refine HL_r rfl rfl rfl rfl (R_load rfl (known_L (k := 1) rfl) rfl rfl) ?_)
    | (refine HL_skip rfl rfl rfl ?_)
  all_goals first
    | (refine HL_r rfl rfl rfl rfl (R_lenPl rfl hst rfl) ?_)
    | (refine HL_skip rfl rfl rfl ?_)
  all_goals first
    | (refine HLp rfl ?_)
    | (refine HL_skip rfl rfl rfl ?_)
  all_goals first
    | (refine HL_r rfl rfl rfl rfl (R_pickT rfl rfl) ?_)
    | (refine HL_r rfl rfl rfl rfl (R_pickF rfl rfl) ?_)
  all_goals refine HLm rfl ?_
  all_goals refine HL_nil ?_
  all_goals (
   refine hK2 _ _ _ _ ?_; clear hK2 K2; refine HC_ret ?_; refine HQ_post rfl rfl (.cons (res_tmp rfl) .nil) (fun w1 hs1 => ?_); refine ⟨?_, hs1.keep⟩
   simp_all [resVal]
   all_goals first | done | rfl | omega | (rw [Bool.eq_iff_iff]; simp only [Bool.and_eq_true, Bool.or_eq_true, decide_eq_true_eq, beq_iff_eq]; omega) | (simp only [decide_eq_true_eq, decide_eq_false_iff_not]; omega)
   skip)
theorem O_all {R : List (Nat × Obj)} {k n : Int} {p : Pl} {ins : List Ty} {v : Vl} (ht : Ty.In R (.mk k n p ins)) (hv : v.In R) (h : isK k = true) : Enters Tryz.prog (ofF k) ∧ PureR Tryz.prog (ofF k) [Ty.val (.mk k n p ins), v.val].toArray (.bool (ofT k n ins.length v)) R := by
  have := isK_iff.1 h
  have : k = 1 ∨ k = 2 ∨ k = 3 ∨ k = 4 ∨ k = 5 ∨ k = 6 ∨ k = 7 ∨ k = 8 := by omega
  rcases this with rfl | rfl | rfl | rfl | rfl | rfl | rfl | rfl
  · exact ⟨enters_of Tryz.func142 (by kernel_rfl) rfl, O_1 ht hv⟩
  · exact ⟨enters_of Tryz.func148 (by kernel_rfl) rfl, O_2 ht hv⟩
  · exact ⟨enters_of Tryz.func155 (by kernel_rfl) rfl, O_3 ht hv⟩
  · exact ⟨enters_of Tryz.func160 (by kernel_rfl) rfl, O_4 ht hv⟩
  · exact ⟨enters_of Tryz.func162 (by kernel_rfl) rfl, O_5 ht hv⟩
  · exact ⟨enters_of Tryz.func166 (by kernel_rfl) rfl, O_6 ht hv⟩
  · exact ⟨enters_of Tryz.func168 (by kernel_rfl) rfl, O_7 ht hv⟩
  · exact ⟨enters_of Tryz.func171 (by kernel_rfl) rfl, O_8 ht hv⟩
end Go.Proofs.YtlcbfphioeppaaaGreatDoor
namespace Go.Proofs.YtlcbfphioeppaaaGreatDoor
set_option linter.all false
open Go.SL Go.RowKit Go.Shelf
def tBlk (r : Nat) (t : Ty) : Nat × Obj := (r, .cells t.cells.toArray 24 (0, 0))
instance : Inhabited Vl := ⟨zVl⟩
def itm (l : List Vl) (i : Nat) : Vl := l.getD i default
theorem itm_get {l : List Vl} {i : Nat} (h : i < l.length) : l[i]? = some (itm l i) ∧ itm l i ∈ l := by
  unfold itm
  rw [List.getD_eq_getElem?_getD, List.getElem?_eq_getElem h]; exact ⟨rfl, List.getElem_mem h⟩
set_option maxRecDepth 10000 in
theorem E_within (t : Ty) (v : Vl) : PureE (α := Nat × Nat) Tryz.prog 92 [t.val, v.val].toArray (fun p => .func (.func 173) #[] #[.pointer (some ⟨p.2, 0, none⟩), .pointer (some ⟨p.1, 0, none⟩)])
    (fun p => [vBlk p.2 v, tBlk p.1 t]) := by
  obtain ⟨k, n, p, ins⟩ := t
  obtain ⟨a, b, c, d, bits, pb, items, pi, pick⟩ := v
  refine pureE_of_HC Tryz.func92 rfl rfl fun w => ?_; refine HC_seq fun K1 hK1 => HC_region ?_; refine HL_box (cs := #[_, _, _]) rfl rfl rfl rfl fun r1 => ?_; refine HL_box (cs := #[_, _, _, _, _, _, _]) rfl rfl rfl rfl fun r2 => ?_; refine HLm rfl ?_; refine HL_nil (hK1 _ _ _ _ ?_); refine HC_seq fun K2 hK2 => HC_region ?_; refine HL_r rfl rfl rfl rfl (R_makeFunc rfl rfl) ?_; refine HLm rfl ?_; refine HL_nil (hK2 _ _ _ _ ?_); refine HC_ret ?_; refine HQ_post rfl rfl (.cons (res_tmp rfl) .nil) (fun w1 hs1 => ?_); exact ⟨(r1, r2), rfl, hs1⟩
def wVals (k pick : Int) (ins : List Ty) (items : List Vl) (i : Nat) : List Value := [(inTy k pick ins i).val, (itm items i).val]
set_option maxRecDepth 10000 in
theorem I_within {R : List (Nat × Obj)} {k n : Int} {p : Pl} {ins : List Ty} {a b c d : Nat} {bits : List Bool} {pb : Pl} {items : List Vl} {pi : Pl} {pick : Int} (hl : items.length ≤ 9223372036854775807) (hlt : ins.length ≤ 9223372036854775807) (hs : Seg R items.length (vlsC items) pi) (hst : Seg R ins.length (tysC ins) p)
    (hx : ∀ i, i < items.length → inX k pick i < ins.length) (hp8 : k = 8 → 0 ≤ pick) (rt rv : Nat) :
    Iter Tryz.prog 173 [.pointer (some ⟨rv, 0, none⟩), .pointer (some ⟨rt, 0, none⟩)] (vBlk rv (.mk a b c d bits pb items pi pick) :: tBlk rt (.mk k n p ins) :: R) 0 (nxN (wVals k pick ins items) items.length) (finN items.length) := by
  have hs := hs.mono (R' := vBlk rv (.mk a b c d bits pb items pi pick) :: tBlk rt (.mk k n p ins) :: R) fun q hq => List.mem_cons_of_mem _ (List.mem_cons_of_mem _ hq)
  have hst := hst.mono (R' := vBlk rv (.mk a b c d bits pb items pi pick) :: tBlk rt (.mk k n p ins) :: R) fun q hq => List.mem_cons_of_mem _ (List.mem_cons_of_mem _ hq)
  refine iter_of_HC Tryz.func173 rfl rfl fun q xids w2 XI XF hY => ?_; refine HC_seq fun K1 hK1 => HC_region ?_
  refine HL_r rfl rfl rfl rfl (R_fieldAddr rfl rfl (by first | (simp only [Nat.zero_add, Nat.reduceAdd, Nat.reduceMul, Nat.zero_mul, Nat.mul_one, Nat.add_zero]; exact rfl) | exact rfl)) ?_; refine HL_r rfl rfl rfl rfl (R_load rfl (known_R (k := 0) rfl) rfl rfl) ?_; refine HL_r rfl rfl rfl rfl (R_lenPl rfl hs rfl) ?_; refine HLm rfl ?_; refine HL_nil (hK1 _ _ _ _ ?_); refine HC_block (HC_loop (σ := Nat) (fun i => i ≤ items.length) (fun i => [(0, .func (.yield q) #[] #[]), (1, .pointer (some ⟨rv, 0, none⟩)), (2, .pointer (some ⟨rt, 0, none⟩)), (8, plV items.length pi), (9, .int .i64 (items.length : Int)), (10, .int .i64 (i : Int))]) (fun _ => []) (fun i => XI i) (fun i => items.length - i) 0 (Nat.zero_le _) (.cons rfl (.cons rfl (.cons rfl (.cons rfl (.cons rfl (.cons rfl .nil)))))) (List.nil_sublist _) (fun _ _ h => h) ?_); intro i hi; refine HC_seq fun K2 hK2 => HC_region ?_; refine HLp rfl ?_; refine HL_nil (hK2 _ _ _ _ ?_); refine HC_seq fun K3 hK3 => ?_; refine HC_cond rfl (fun h4 => ?_) (fun h4 => ?_)
  · try exact Bool.noConfusion h4
    try simp only [ZZ] at h4
    refine HC_skip (hK3 _ _ _ _ ?_); refine HC_seq fun K5 hK5 => HC_block ?_; refine HC_seq fun K6 hK6 => ?_
    have hil : i < items.length := by omega
    have hix := itm_get hil
    have hty := inTy_get (hx i hil)
    refine HC_region (HLm rfl (HL_r rfl rfl rfl rfl (R_indexPl (j := i) rfl hs rfl rfl rfl rfl (by omega)) ?_)); refine HL_r rfl rfl rfl rfl (R_loadVl (fun q hq => Or.inr hq) rfl hs hix.1 rfl rfl) ?_; refine HL_alloc (cs := #[_, _, _, _, _, _, _]) rfl rfl rfl rfl fun r1 => ?_; refine HLm rfl (HL_storeArr (k := 0) (n := 7) (ys := (itm items i).cells) rfl rfl rfl rfl rfl (itm items i).len rfl (itm items i).one rfl ?_); refine HL_nil (hK6 _ _ _ _ ?_); refine HC_seq fun K7 hK7 => HC_region ?_; refine HLm rfl ?_; refine HL_nil (hK7 _ _ _ _ ?_); refine HC_seq fun K8 hK8 => ?_; refine HC_seq fun K9 hK9 => HC_region ?_
    refine HL_r rfl rfl rfl rfl (R_fieldAddr rfl rfl (by first | (simp only [Nat.zero_add, Nat.reduceAdd, Nat.reduceMul, Nat.zero_mul, Nat.mul_one, Nat.add_zero]; exact rfl) | exact rfl)) ?_; refine HL_r rfl rfl rfl rfl (R_load rfl (known_R (k := 1) rfl) rfl rfl) ?_; refine HL_nil (hK9 _ _ _ _ ?_); refine HC_block (HC_seq fun K10 hK10 => HC_region ?_); refine HLp rfl (HLm rfl ?_); refine HL_nil (hK10 _ _ _ _ ?_); refine HC_cond rfl (fun h11 => ?_) (fun h11 => ?_)
    · try exact Bool.noConfusion h11
      try simp only [ZZ] at h11
      refine HC_region (HLm rfl ?_); refine HLm rfl (HL_nil ?_); refine HQ_blockN (hK8 _ _ _ _ ?_); refine HC_seq fun K12 hK12 => ?_; refine HC_draw 7 (by kernel_rfl) (by kernel_rfl) ?_; refine HD_r rfl rfl rfl (R_move rfl) ?_
      refine HD_r rfl rfl rfl (R_fieldAddr rfl rfl (by first | (simp only [Nat.zero_add, Nat.reduceAdd, Nat.reduceMul, Nat.zero_mul, Nat.mul_one, Nat.add_zero]; exact rfl) | exact rfl)) ?_; refine HD_r rfl rfl rfl (R_load rfl (known_R (k := 1) rfl) rfl rfl) ?_; refine HD_r rfl rfl rfl (R_move rfl) ?_
      refine HD_r rfl rfl rfl (R_indexPl (j := inX k pick i) rfl hst rfl rfl rfl (by unfold inX; first | (rw [if_pos (by assumption)]) | (rw [if_neg (by assumption), if_pos (by assumption)]; have := hp8 (by assumption); omega) | (rw [if_neg (by assumption), if_neg (by assumption)]; rfl)) (hx i hil)) ?_; refine HD_r rfl rfl rfl (R_loadTy (fun q hq => Or.inr hq) rfl hst hty.1 rfl rfl) ?_; refine HD_r rfl rfl rfl (R_loadArr (xs := (itm items i).cells) (n := 7) rfl (known_L (k := 0) rfl) rfl rfl (itm items i).len) ?_; refine HD_end ?_; refine HL_yield (XT := XI (i + 1)) (XF := XF) rfl rfl rfl rfl (hY i (wVals k pick ins items i) (i + 1) ⟨hil, rfl, rfl⟩) ?_ ?_
      all_goals refine HLp rfl ?_
      all_goals refine HL_nil ?_
      all_goals (
       refine hK12 _ _ _ _ ?_; refine HC_cond rfl (fun h13 => ?_) (fun h13 => ?_)
       · try exact Bool.noConfusion h13
         all_goals try simp only [ZZ] at h13
         all_goals (
          refine HC_ret (HQ_blockR (HQ_thenR ?_)); refine HQ_thenR (HQ_blockR ?_); refine HQ_post rfl rfl .nil (fun w1 hs1 => ?_)
          obtain ⟨xs1, hx1⟩ := hs1.now
          exact ⟨⟨_, rfl⟩, hs1.keep, .inr ⟨_, hx1⟩⟩
          skip)
       · try exact Bool.noConfusion h13
         all_goals try simp only [ZZ] at h13
         all_goals (
          refine HC_skip (HQ_blockN (hK5 _ _ _ _ ?_)); refine HC_region (HLp rfl (HL_wrap_i64 (by omega) (by omega) ?_)); refine HLm rfl (HL_nil (HQ_then ?_)); exact HQ_again (i + 1) (by omega) (by omega) (.cons rfl (.cons rfl (.cons rfl (.cons rfl (.cons rfl (.cons rfl .nil)))))) (List.nil_sublist _) (fun _ _ h => h)
          skip)
       skip)
    · try exact Bool.noConfusion h11
      try simp only [ZZ] at h11
      refine HC_seq fun K14 hK14 => HC_region ?_; refine HLp rfl (HLm rfl ?_); refine HL_nil (hK14 _ _ _ _ ?_); refine HC_cond rfl (fun h15 => ?_) (fun h15 => ?_)
      · try exact Bool.noConfusion h15
        try simp only [ZZ] at h15
        refine HC_region ?_
        refine HL_r rfl rfl rfl rfl (R_fieldAddr rfl rfl (by first | (simp only [Nat.zero_add, Nat.reduceAdd, Nat.reduceMul, Nat.zero_mul, Nat.mul_one, Nat.add_zero]; exact rfl) | exact rfl)) ?_; refine HL_r rfl rfl rfl rfl (R_load rfl (known_R (k := 0) rfl) rfl rfl) ?_; refine HLm rfl (HL_nil ?_); refine HQ_blockN (hK8 _ _ _ _ ?_); refine HC_seq fun K16 hK16 => ?_; refine HC_draw 7 (by kernel_rfl) (by kernel_rfl) ?_; refine HD_r rfl rfl rfl (R_move rfl) ?_
        refine HD_r rfl rfl rfl (R_fieldAddr rfl rfl (by first | (simp only [Nat.zero_add, Nat.reduceAdd, Nat.reduceMul, Nat.zero_mul, Nat.mul_one, Nat.add_zero]; exact rfl) | exact rfl)) ?_; refine HD_r rfl rfl rfl (R_load rfl (known_R (k := 1) rfl) rfl rfl) ?_; refine HD_r rfl rfl rfl (R_move rfl) ?_
        refine HD_r rfl rfl rfl (R_indexPl (j := inX k pick i) rfl hst rfl rfl rfl (by unfold inX; first | (rw [if_pos (by assumption)]) | (rw [if_neg (by assumption), if_pos (by assumption)]; have := hp8 (by assumption); omega) | (rw [if_neg (by assumption), if_neg (by assumption)]; rfl)) (hx i hil)) ?_; refine HD_r rfl rfl rfl (R_loadTy (fun q hq => Or.inr hq) rfl hst hty.1 rfl rfl) ?_; refine HD_r rfl rfl rfl (R_loadArr (xs := (itm items i).cells) (n := 7) rfl (known_L (k := 0) rfl) rfl rfl (itm items i).len) ?_; refine HD_end ?_; refine HL_yield (XT := XI (i + 1)) (XF := XF) rfl rfl rfl rfl (hY i (wVals k pick ins items i) (i + 1) ⟨hil, rfl, rfl⟩) ?_ ?_
        all_goals refine HLp rfl ?_
        all_goals refine HL_nil ?_
        all_goals (
         refine hK16 _ _ _ _ ?_; refine HC_cond rfl (fun h17 => ?_) (fun h17 => ?_)
         · try exact Bool.noConfusion h17
           all_goals try simp only [ZZ] at h17
           all_goals (
            refine HC_ret (HQ_blockR (HQ_thenR ?_)); refine HQ_thenR (HQ_blockR ?_); refine HQ_post rfl rfl .nil (fun w1 hs1 => ?_)
            obtain ⟨xs1, hx1⟩ := hs1.now
            exact ⟨⟨_, rfl⟩, hs1.keep, .inr ⟨_, hx1⟩⟩
            skip)
         · try exact Bool.noConfusion h17
           all_goals try simp only [ZZ] at h17
           all_goals (
            refine HC_skip (HQ_blockN (hK5 _ _ _ _ ?_)); refine HC_region (HLp rfl (HL_wrap_i64 (by omega) (by omega) ?_)); refine HLm rfl (HL_nil (HQ_then ?_)); exact HQ_again (i + 1) (by omega) (by omega) (.cons rfl (.cons rfl (.cons rfl (.cons rfl (.cons rfl (.cons rfl .nil)))))) (List.nil_sublist _) (fun _ _ h => h)
            skip)
         skip)
      · try exact Bool.noConfusion h15
        try simp only [ZZ] at h15
        refine HC_skip (HQ_blockN (hK8 _ _ _ _ ?_)); refine HC_seq fun K18 hK18 => ?_; refine HC_draw 7 (by kernel_rfl) (by kernel_rfl) ?_; refine HD_r rfl rfl rfl (R_move rfl) ?_
        refine HD_r rfl rfl rfl (R_fieldAddr rfl rfl (by first | (simp only [Nat.zero_add, Nat.reduceAdd, Nat.reduceMul, Nat.zero_mul, Nat.mul_one, Nat.add_zero]; exact rfl) | exact rfl)) ?_; refine HD_r rfl rfl rfl (R_load rfl (known_R (k := 1) rfl) rfl rfl) ?_; refine HD_r rfl rfl rfl (R_move rfl) ?_
        refine HD_r rfl rfl rfl (R_indexPl (j := inX k pick i) rfl hst rfl rfl rfl (by unfold inX; first | (rw [if_pos (by assumption)]) | (rw [if_neg (by assumption), if_pos (by assumption)]; have := hp8 (by assumption); omega) | (rw [if_neg (by assumption), if_neg (by assumption)]; rfl)) (hx i hil)) ?_; refine HD_r rfl rfl rfl (R_loadTy (fun q hq => Or.inr hq) rfl hst hty.1 rfl rfl) ?_; refine HD_r rfl rfl rfl (R_loadArr (xs := (itm items i).cells) (n := 7) rfl (known_L (k := 0) rfl) rfl rfl (itm items i).len) ?_; refine HD_end ?_; refine HL_yield (XT := XI (i + 1)) (XF := XF) rfl rfl rfl rfl (hY i (wVals k pick ins items i) (i + 1) ⟨hil, rfl, rfl⟩) ?_ ?_
        all_goals refine HLp rfl ?_
        all_goals refine HL_nil ?_
        all_goals (
         refine hK18 _ _ _ _ ?_; refine HC_cond rfl (fun h19 => ?_) (fun h19 => ?_)
         · try exact Bool.noConfusion h19
           all_goals try simp only [ZZ] at h19
           all_goals (
            refine HC_ret (HQ_blockR (HQ_thenR ?_)); refine HQ_thenR (HQ_blockR ?_); refine HQ_post rfl rfl .nil (fun w1 hs1 => ?_)
            obtain ⟨xs1, hx1⟩ := hs1.now
            exact ⟨⟨_, rfl⟩, hs1.keep, .inr ⟨_, hx1⟩⟩
            skip)
         · try exact Bool.noConfusion h19
           all_goals try simp only [ZZ] at h19
           all_goals (
            refine HC_skip (HQ_blockN (hK5 _ _ _ _ ?_)); refine HC_region (HLp rfl (HL_wrap_i64 (by omega) (by omega) ?_)); refine HLm rfl (HL_nil (HQ_then ?_)); exact HQ_again (i + 1) (by omega) (by omega) (.cons rfl (.cons rfl (.cons rfl (.cons rfl (.cons rfl (.cons rfl .nil)))))) (List.nil_sublist _) (fun _ _ h => h)
            skip)
         skip)
  · try exact Bool.noConfusion h4
    try simp only [ZZ] at h4
    refine HC_exit (HQ_thenE ?_); refine HQ_thenE (HQ_blockE ?_); refine HQ_postN rfl rfl .nil (fun w1 hs1 => ?_)
    obtain ⟨xs1, hx1⟩ := hs1.now
    exact ⟨⟨_, rfl⟩, hs1.keep, .inl ⟨i, _, (by show i = items.length; omega), hx1⟩⟩
theorem fit_ok {a b c d : Nat} {bits : List Bool} {pb : Pl} {items : List Vl} {pi : Pl} {pick k n : Int} {p : Pl} {ins : List Ty} (h1 : ¬ ((k = 4 ∧ n < items.length) ∨ (k = 6 ∧ n < bits.length))) (h2 : ofT k n ins.length (.mk a b c d bits pb items pi pick) = true) : fitT (.mk a b c d bits pb items pi pick) (.mk k n p ins) = fitL items k pick ins 0 := by
  rw [fitT, if_neg h1, if_neg (by rw [h2]; simp)]
set_option maxRecDepth 10000 in
theorem S_fits {R : List (Nat × Obj)} {v : Vl} (hv : v.In R) : ∀ (t : Ty) (dp : Int), t.In R → chk t dp = 0 → PureR Tryz.prog 46 [t.val, v.val].toArray (.int .i64 (fitT v t)) R := by
  have hv0 := hv
  induction hv with
  | @mk a b c d bits pb items pi pick ha hb hc hd hlb hsb hl hs hp hi ih =>
  intro t dp ht hck
  have ht0 := ht
  cases ht with
  | @mk k n p ins hk hn hlt hst hit =>
  obtain ⟨hk8, ho, h6, hci⟩ := chk_mk hck
  have hkk := isK_iff.2 hk8
  have hO := O_all ht0 hv0 hkk
  refine pureR_of_HC Tryz.func46 rfl rfl fun w => ?_; refine HC_seq fun K1 hK1 => HC_region ?_; refine HL_box (cs := #[_, _, _]) rfl rfl rfl rfl fun r1 => ?_; refine HL_box (cs := #[_, _, _, _, _, _, _]) rfl rfl rfl rfl fun r2 => ?_; refine HL_alloc (cs := #[_]) rfl rfl rfl rfl fun r3 => ?_; refine HL_nil (hK1 _ _ _ _ ?_); refine HC_seq fun K2 hK2 => HC_block ?_; refine HC_seq fun K3 hK3 => ?_; refine HC_seq fun K4 hK4 => HC_region ?_
  refine HL_r rfl rfl rfl rfl (R_fieldAddr rfl rfl (by first | (simp only [Nat.zero_add, Nat.reduceAdd, Nat.reduceMul, Nat.zero_mul, Nat.mul_one, Nat.add_zero]; exact rfl) | exact rfl)) ?_; refine HL_r rfl rfl rfl rfl (R_load rfl (known_L (k := 2) rfl) rfl rfl) ?_; refine HLp rfl (HLm rfl ?_)
  refine HL_case 12 rfl (fun hb5 => ?_) (fun hb5 => ?_) <;> (try simp only [ZZ] at hb5) <;> first | (refine HL_r rfl rfl rfl rfl (R_fieldAddr rfl rfl (by first | (simp only [Nat.zero_add, Nat.reduceAdd, Nat.reduceMul, Nat.zero_mul, Nat.mul_one, Nat.add_zero]; exact rfl) | exact rfl)) ?_) | (refine HL_skip rfl rfl rfl ?_)
  all_goals first
    | (refine HL_r rfl rfl rfl rfl (R_load rfl (known_L (k := 1) rfl) rfl rfl) ?_)
    | (refine HL_skip rfl rfl rfl ?_)
  all_goals first
    | (refine HL_r rfl rfl rfl rfl (R_lenPl rfl hs rfl) ?_)
    | (refine HL_skip rfl rfl rfl ?_)
  all_goals first
    | (refine HL_r rfl rfl rfl rfl (R_fieldAddr rfl rfl (by first | (simp only [Nat.zero_add, Nat.reduceAdd, Nat.reduceMul, Nat.zero_mul, Nat.mul_one, Nat.add_zero]; exact rfl) | exact rfl)) ?_)
    | (refine HL_skip rfl rfl rfl ?_)
  all_goals first
    | (refine HL_r rfl rfl rfl rfl (R_load rfl (known_L (k := 2) rfl) rfl rfl) ?_)
    | (refine HL_skip rfl rfl rfl ?_)
  all_goals first
    | (refine HLp rfl ?_)
    | (refine HL_skip rfl rfl rfl ?_)
  all_goals first
    | (refine HL_r rfl rfl rfl rfl (R_pickT rfl rfl) ?_)
    | (refine HL_r rfl rfl rfl rfl (R_pickF rfl rfl) ?_)
  all_goals refine HLm rfl ?_
  all_goals refine HL_nil ?_
  all_goals (
   refine hK4 _ _ _ _ ?_; refine HC_cond rfl (fun h11 => ?_) (fun h11 => ?_)
   · try exact Bool.noConfusion h11
     all_goals try simp only [ZZ] at h11
     all_goals (
      refine HC_skip (hK3 _ _ _ _ ?_); refine HC_cond rfl (fun h12 => ?_) (fun h12 => ?_)
      · try exact Bool.noConfusion h12
        try simp only [ZZ] at h12
        refine HC_seq fun K13 hK13 => HC_region ?_
        refine HL_store (k := 0) rfl rfl rfl rfl rfl rfl rfl rfl (by first | (simp only [List.setIfInBounds_toArray, List.set_cons_zero, List.set_cons_succ]; exact rfl) | exact rfl) (by first | (simp only [List.set_cons_zero, List.set_cons_succ]; exact rfl) | exact rfl) ?_; refine HL_nil (hK13 _ _ _ _ ?_); refine HC_ret (HQ_blockR (HQ_thenR ?_))
        first
          | (refine HQ_mark (k := 0) rfl rfl ?_
             refine HQ_post rfl rfl (.cons (res_cell rfl (known_L (k := 1) rfl) rfl rfl) .nil) (fun w1 hs1 => ?_)
             first | exact ⟨by rw [hfo, ← he]; rfl, hs1.keep⟩ | exact ⟨by rw [hfo, hz]; rfl, hs1.keep⟩)
          | (refine HQ_post rfl rfl (.cons (res_cell rfl (known_L (k := 0) rfl) rfl rfl) .nil) (fun w1 hs1 => ?_)
             first | exact ⟨by rw [fitT, if_pos (by omega)]; rfl, hs1.keep⟩ | exact ⟨by rw [fitT, if_neg (by omega), if_pos (by assumption)]; rfl, hs1.keep⟩)
          | (refine HQ_post rfl rfl (.cons (res_cell rfl (known_L (k := 1) rfl) rfl rfl) .nil) (fun w1 hs1 => ?_)
             first | exact ⟨by rw [fitT, if_pos (by omega)]; rfl, hs1.keep⟩ | exact ⟨by rw [fitT, if_neg (by omega), if_pos (by assumption)]; rfl, hs1.keep⟩)
      · try exact Bool.noConfusion h12
        try simp only [ZZ] at h12
        refine HC_seq fun K14 hK14 => ?_
        refine HC_drawB [] [(0, .grow (geCall 0 (fun r : Nat => Value.map (some r)) (fun r => [(r, kObj)]))), (1, .pure), (4, .pure), (8, .pure), (9, .pure)] 10 [1, 2, 5, 6, 0, 3, 4, 7, 8, 9] (by kernel_rfl) (by kernel_rfl) (by first | exact (fun _ h => nomatch h) | simp [SubS] | (intro p hp; simp [hp])) ?_
        refine HB_p (k := 1) rfl rfl rfl rfl rfl (fun _ hS => (R_fieldAddr rfl rfl (by first | (simp only [Nat.zero_add, Nat.reduceAdd, Nat.reduceMul, Nat.zero_mul, Nat.mul_one, Nat.add_zero]; exact rfl) | exact rfl))) ?_; refine HB_r (k := 2) rfl rfl rfl rfl rfl (R_load rfl (known_L (k := 2) rfl) rfl rfl) ?_; refine HB_r (k := 5) rfl rfl rfl rfl rfl (R_loadA (vs := [_, _, _]) rfl (known_L (k := 2) rfl) rfl rfl rfl rfl) ?_; refine HB_r (k := 6) rfl rfl rfl rfl rfl (R_loadA (vs := [_, _, _, _, _, _, _]) rfl (known_L (k := 1) rfl) rfl rfl rfl rfl) ?_; refine HB_callPE (k := 0) rfl rfl rfl rfl rfl (enters_of Tryz.func91 (by kernel_rfl) rfl) E_kinds fun mr => ?_; refine HB_r (k := 3) rfl rfl rfl rfl rfl (R_lookup (keyI (t := 3) (by kernel_rfl)) rfl rfl (known_L (k := 0) rfl) rfl rfl ⟨_, rfl⟩ kMap_dom (kMap_val0 hkk)) ?_; refine HB_p (k := 4) rfl rfl rfl rfl rfl (fun _ hS => (R_pure rfl rfl rfl)) ?_; refine HB_as (fnV_t hkk) ?_; refine HB_callR (k := 7) rfl rfl rfl rfl rfl hO.1 hO.2 (fun q hq => Or.inr hq) ?_; refine HB_p (k := 8) rfl rfl rfl rfl rfl (fun _ hS => (R_pure rfl rfl rfl)) ?_; refine HB_p (k := 9) rfl rfl rfl rfl rfl (fun _ hS => (R_assign rfl)) ?_; refine HB_end ?_; refine HL_nil (hK14 _ _ _ _ ?_); refine HC_cond rfl (fun h15 => ?_) (fun h15 => ?_)
        · try exact Bool.noConfusion h15
          try simp only [ZZ] at h15
          refine HC_seq fun K16 hK16 => HC_region ?_
          refine HL_store (k := 1) rfl rfl rfl rfl rfl rfl rfl rfl (by first | (simp only [List.setIfInBounds_toArray, List.set_cons_zero, List.set_cons_succ]; exact rfl) | exact rfl) (by first | (simp only [List.set_cons_zero, List.set_cons_succ]; exact rfl) | exact rfl) ?_; refine HL_nil (hK16 _ _ _ _ ?_); refine HC_ret (HQ_blockR (HQ_thenR ?_))
          (refine HQ_post rfl rfl (.cons (res_cell rfl (known_L (k := 1) rfl) rfl rfl) .nil) (fun w1 hs1 => ?_)
           first | exact ⟨by rw [fitT, if_pos (by omega)]; rfl, hs1.keep⟩ | exact ⟨by rw [fitT, if_neg (by omega), if_pos (by assumption)]; rfl, hs1.keep⟩)
        · try exact Bool.noConfusion h15
          try simp only [ZZ] at h15
          refine HC_skip (HQ_blockN (hK2 _ _ _ _ ?_)); refine HC_seq fun K17 hK17 => ?_; refine HC_seq fun K18 hK18 => ?_
          have hfo := fit_ok (a := a) (b := b) (c := c) (d := d) (pb := pb) (pi := pi) (p := p) (show ¬ ((k = 4 ∧ n < items.length) ∨ (k = 6 ∧ n < bits.length)) by omega) (by assumption)
          have hxl : ∀ i, i < items.length → inX k pick i < ins.length := fun i hi => inX_lt (v := .mk a b c d bits pb items pi pick) hck (by assumption) hi
          have hp8 : k = 8 → 0 ≤ pick := fun h => by subst h; exact ofT_8 (v := .mk a b c d bits pb items pi pick) (by assumption)
          refine HC_region (HL_r rfl rfl rfl rfl (R_loadA (vs := [_, _, _]) rfl (known_L (k := 3) rfl) rfl rfl rfl rfl) (HL_r rfl rfl rfl rfl (R_loadA (vs := [_, _, _, _, _, _, _]) rfl (known_L (k := 2) rfl) rfl rfl rfl rfl) ?_)); refine HL_callPE rfl rfl rfl (enters_of Tryz.func92 (by kernel_rfl) rfl) (E_within (.mk k n p ins) (.mk a b c d bits pb items pi pick)) fun pp => ?_
          obtain ⟨rt, rv⟩ := pp
          change HL _ _ _ (vBlk rv (.mk a b c d bits pb items pi pick) :: tBlk rt (.mk k n p ins) :: _) _ _ _ _; refine HL_nil (hK18 _ _ _ _ ?_); refine HC_block (HC_sel [3, 0, 1, 2, 4, 5] (L' := [_, _, _, _, _, _]) (by decide) rfl ?_)
          refine HC_rangeR (τ := Int) (fun i (_ : Unit) => i ≤ items.length ∧ fitL (items.drop i) k pick ins i = fitL items k pick ins 0) (fun _ => [(r3, .cells #[.int .i64 (0)] 34 (0, 0))]) (fun j e => j = .ret ∧ e = fitL items k pick ins 0) (fun e => [(r3, .cells #[.int .i64 (e)] 34 (0, 0))]) [vBlk rv (.mk a b c d bits pb items pi pick), tBlk rt (.mk k n p ins), _, _, _] () rfl rfl (enters_of Tryz.func173 (by kernel_rfl) rfl) (I_within (n := n) (a := a) (b := b) (c := c) (d := d) (bits := bits) (pb := pb) hl hlt hs hst hxl hp8 rt rv) (by rintro _ _ _ ⟨_, rfl, _⟩; rfl) rfl (fun q hq => by rcases List.mem_cons.1 hq with rfl | hq; exact .inl (by simp); rcases List.mem_cons.1 hq with rfl | hq; exact .inl (by simp); exact .inr hq) rfl ⟨Nat.zero_le _, rfl⟩ ?_ ?_ ?_
          · rintro q Xr Xb w3 i _ _ ⟨⟩ ⟨hii, rfl, rfl⟩ ⟨hil, hinv⟩ Kr hKr
            have hix := itm_get hii
            have hty := inTy_get (hxl i hii)
            rw [dropI hix.1, fitL] at hinv
            unfold wVals
            refine HC_seq fun K19 hK19 => HC_region ?_; refine HL_alloc (cs := #[_, _, _]) rfl rfl rfl rfl fun r4 => ?_; refine HL_storeArr (k := 0) (n := 3) (ys := (inTy k pick ins i).cells) rfl rfl rfl rfl rfl (inTy k pick ins i).len rfl (inTy k pick ins i).one rfl ?_; refine HL_nil (hK19 _ _ _ _ ?_); refine HC_region (HL_alloc (cs := #[_, _, _, _, _, _, _]) rfl rfl rfl rfl fun r5 => (HL_storeArr (k := 0) (n := 7) (ys := (itm items i).cells) rfl rfl rfl rfl rfl (itm items i).len rfl (itm items i).one rfl ?_)); refine HL_nil ?_; refine hKr _ _ ?_; clear hKr; refine HC_block (HC_seq fun K20 hK20 => HC_region (HL_r rfl rfl rfl rfl (R_loadArr (xs := (inTy k pick ins i).cells) (n := 3) rfl (known_L (k := 1) rfl) rfl rfl (inTy k pick ins i).len) ?_)); refine HL_r rfl rfl rfl rfl (R_loadArr (xs := (itm items i).cells) (n := 7) rfl (known_L (k := 0) rfl) rfl rfl (itm items i).len) ?_; refine HL_callR rfl rfl rfl (enters_of Tryz.func46 (by kernel_rfl) rfl) (ih _ hix.2 (hi _ hix.2) _ (dp + 1) (hit _ hty.2) (hci _ hty.2)) (fun q hq => Or.inr (List.mem_append_right _ hq)) ?_; refine HLm rfl ?_; refine HL_nil (hK20 _ _ _ _ ?_); refine HC_seq fun K21 hK21 => HC_region ?_; refine HLm rfl (HLp rfl ?_); refine HL_nil (hK21 _ _ _ _ ?_); refine HC_cond rfl (fun h22 => ?_) (fun h22 => ?_)
            · try exact Bool.noConfusion h22
              try simp only [ZZ] at h22
              refine HC_seq fun K23 hK23 => HC_region ?_; refine HLm rfl ?_
              refine HL_store (k := 2) rfl rfl rfl rfl rfl rfl rfl rfl (by first | (simp only [List.setIfInBounds_toArray, List.set_cons_zero, List.set_cons_succ]; exact rfl) | exact rfl) (by first | (simp only [List.set_cons_zero, List.set_cons_succ]; exact rfl) | exact rfl) ?_; refine HL_nil (hK23 _ _ _ _ ?_); refine HC_ret (HQ_blockR (HQ_sel [2] (L' := [_]) (by decide) rfl ?_)); refine HQ_roundR (fitT (itm items i) (inTy k pick ins i)) ⟨rfl, by rw [if_neg (by assumption)] at hinv; exact hinv⟩ rfl
            · try exact Bool.noConfusion h22
              try simp only [ZZ] at h22
              refine HC_skip (HQ_blockN (HQ_sel [2] (L' := [_]) (by decide) rfl ?_)); refine HQ_round () ⟨by omega, by rw [if_pos (by assumption)] at hinv; exact hinv⟩ rfl
          · rintro D i ⟨⟩ hfi ⟨hil, hinv⟩
            have hin : i = items.length := hfi
            have hz : fitL items k pick ins 0 = 0 := by rw [← hinv, hin, List.drop_length, fitL]
            refine HQ_blockN (hK17 _ _ _ _ ?_); refine HC_seq fun K24 hK24 => HC_region ?_
            refine HL_store (k := 1) rfl rfl rfl rfl rfl rfl rfl rfl (by first | (simp only [List.setIfInBounds_toArray, List.set_cons_zero, List.set_cons_succ]; exact rfl) | exact rfl) (by first | (simp only [List.set_cons_zero, List.set_cons_succ]; exact rfl) | exact rfl) ?_; refine HL_nil (hK24 _ _ _ _ ?_); refine HC_ret ?_
            (refine HQ_mark (k := 0) rfl rfl ?_
             refine HQ_post rfl rfl (.cons (res_cell rfl (known_L (k := 1) rfl) rfl rfl) .nil) (fun w1 hs1 => ?_)
             first | exact ⟨by rw [hfo, ← he]; rfl, hs1.keep⟩ | exact ⟨by rw [hfo, hz]; rfl, hs1.keep⟩)
          · rintro D j e ⟨rfl, he⟩
            refine HC_ret (HQ_blockR (HQ_thenR ?_))
            first
              | (refine HQ_mark (k := 0) rfl rfl ?_
                 refine HQ_post rfl rfl (.cons (res_cell rfl (known_L (k := 1) rfl) rfl rfl) .nil) (fun w1 hs1 => ?_)
                 first | exact ⟨by rw [hfo, ← he]; rfl, hs1.keep⟩ | exact ⟨by rw [hfo, hz]; rfl, hs1.keep⟩)
              | (refine HQ_post rfl rfl (.cons (res_cell rfl (known_L (k := 0) rfl) rfl rfl) .nil) (fun w1 hs1 => ?_)
                 first | exact ⟨by rw [fitT, if_pos (by omega)]; rfl, hs1.keep⟩ | exact ⟨by rw [fitT, if_neg (by omega), if_pos (by assumption)]; rfl, hs1.keep⟩)
              | (refine HQ_post rfl rfl (.cons (res_cell rfl (known_L (k := 1) rfl) rfl rfl) .nil) (fun w1 hs1 => ?_)
                 first | exact ⟨by rw [fitT, if_pos (by omega)]; rfl, hs1.keep⟩ | exact ⟨by rw [fitT, if_neg (by omega), if_pos (by assumption)]; rfl, hs1.keep⟩)
      skip)
   · try exact Bool.noConfusion h11
     try simp only [ZZ] at h11
     refine HC_region ?_
     refine HL_r rfl rfl rfl rfl (R_fieldAddr rfl rfl (by first | (simp only [Nat.zero_add, Nat.reduceAdd, Nat.reduceMul, Nat.zero_mul, Nat.mul_one, Nat.add_zero]; exact rfl) | exact rfl)) ?_; refine HL_r rfl rfl rfl rfl (R_load rfl (known_L (k := 2) rfl) rfl rfl) ?_; refine HLp rfl (HLm rfl ?_)
     refine HL_case 23 rfl (fun hb25 => ?_) (fun hb25 => ?_) <;> (try simp only [ZZ] at hb25) <;> first | (refine HL_r rfl rfl rfl rfl (R_fieldAddr rfl rfl (by first | (simp only [Nat.zero_add, Nat.reduceAdd, Nat.reduceMul, Nat.zero_mul, Nat.mul_one, Nat.add_zero]; exact rfl) | exact rfl)) ?_) | (refine HL_skip rfl rfl rfl ?_)
     all_goals first
       | (refine HL_r rfl rfl rfl rfl (R_load rfl (known_L (k := 1) rfl) rfl rfl) ?_)
       | (refine HL_skip rfl rfl rfl ?_)
     all_goals first
       | (refine HL_r rfl rfl rfl rfl (R_lenPl rfl hsb rfl) ?_)
       | (refine HL_skip rfl rfl rfl ?_)
     all_goals first
       | (refine HL_r rfl rfl rfl rfl (R_fieldAddr rfl rfl (by first | (simp only [Nat.zero_add, Nat.reduceAdd, Nat.reduceMul, Nat.zero_mul, Nat.mul_one, Nat.add_zero]; exact rfl) | exact rfl)) ?_)
       | (refine HL_skip rfl rfl rfl ?_)
     all_goals first
       | (refine HL_r rfl rfl rfl rfl (R_load rfl (known_L (k := 2) rfl) rfl rfl) ?_)
       | (refine HL_skip rfl rfl rfl ?_)
     all_goals first
       | (refine HLp rfl ?_)
       | (refine HL_skip rfl rfl rfl ?_)
     all_goals first
       | (refine HL_r rfl rfl rfl rfl (R_pickT rfl rfl) ?_)
       | (refine HL_r rfl rfl rfl rfl (R_pickF rfl rfl) ?_)
     all_goals refine HLm rfl ?_
     all_goals refine HL_nil ?_
     all_goals (
      refine hK3 _ _ _ _ ?_; refine HC_cond rfl (fun h31 => ?_) (fun h31 => ?_)
      · try exact Bool.noConfusion h31
        all_goals try simp only [ZZ] at h31
        all_goals (
         refine HC_seq fun K32 hK32 => HC_region ?_
         refine HL_store (k := 0) rfl rfl rfl rfl rfl rfl rfl rfl (by first | (simp only [List.setIfInBounds_toArray, List.set_cons_zero, List.set_cons_succ]; exact rfl) | exact rfl) (by first | (simp only [List.set_cons_zero, List.set_cons_succ]; exact rfl) | exact rfl) ?_; refine HL_nil (hK32 _ _ _ _ ?_); refine HC_ret (HQ_blockR (HQ_thenR ?_))
         first
           | (refine HQ_mark (k := 0) rfl rfl ?_
              refine HQ_post rfl rfl (.cons (res_cell rfl (known_L (k := 1) rfl) rfl rfl) .nil) (fun w1 hs1 => ?_)
              first | exact ⟨by rw [hfo, ← he]; rfl, hs1.keep⟩ | exact ⟨by rw [hfo, hz]; rfl, hs1.keep⟩)
           | (refine HQ_post rfl rfl (.cons (res_cell rfl (known_L (k := 0) rfl) rfl rfl) .nil) (fun w1 hs1 => ?_)
              first | exact ⟨by rw [fitT, if_pos (by omega)]; rfl, hs1.keep⟩ | exact ⟨by rw [fitT, if_neg (by omega), if_pos (by assumption)]; rfl, hs1.keep⟩)
           | (refine HQ_post rfl rfl (.cons (res_cell rfl (known_L (k := 1) rfl) rfl rfl) .nil) (fun w1 hs1 => ?_)
              first | exact ⟨by rw [fitT, if_pos (by omega)]; rfl, hs1.keep⟩ | exact ⟨by rw [fitT, if_neg (by omega), if_pos (by assumption)]; rfl, hs1.keep⟩)
         skip)
      · try exact Bool.noConfusion h31
        try simp only [ZZ] at h31
        refine HC_seq fun K33 hK33 => ?_
        refine HC_drawB [] [(0, .grow (geCall 0 (fun r : Nat => Value.map (some r)) (fun r => [(r, kObj)]))), (1, .pure), (4, .pure), (8, .pure), (9, .pure)] 10 [1, 2, 5, 6, 0, 3, 4, 7, 8, 9] (by kernel_rfl) (by kernel_rfl) (by first | exact (fun _ h => nomatch h) | simp [SubS] | (intro p hp; simp [hp])) ?_
        refine HB_p (k := 1) rfl rfl rfl rfl rfl (fun _ hS => (R_fieldAddr rfl rfl (by first | (simp only [Nat.zero_add, Nat.reduceAdd, Nat.reduceMul, Nat.zero_mul, Nat.mul_one, Nat.add_zero]; exact rfl) | exact rfl))) ?_; refine HB_r (k := 2) rfl rfl rfl rfl rfl (R_load rfl (known_L (k := 2) rfl) rfl rfl) ?_; refine HB_r (k := 5) rfl rfl rfl rfl rfl (R_loadA (vs := [_, _, _]) rfl (known_L (k := 2) rfl) rfl rfl rfl rfl) ?_; refine HB_r (k := 6) rfl rfl rfl rfl rfl (R_loadA (vs := [_, _, _, _, _, _, _]) rfl (known_L (k := 1) rfl) rfl rfl rfl rfl) ?_; refine HB_callPE (k := 0) rfl rfl rfl rfl rfl (enters_of Tryz.func91 (by kernel_rfl) rfl) E_kinds fun mr => ?_; refine HB_r (k := 3) rfl rfl rfl rfl rfl (R_lookup (keyI (t := 3) (by kernel_rfl)) rfl rfl (known_L (k := 0) rfl) rfl rfl ⟨_, rfl⟩ kMap_dom (kMap_val0 hkk)) ?_; refine HB_p (k := 4) rfl rfl rfl rfl rfl (fun _ hS => (R_pure rfl rfl rfl)) ?_; refine HB_as (fnV_t hkk) ?_; refine HB_callR (k := 7) rfl rfl rfl rfl rfl hO.1 hO.2 (fun q hq => Or.inr hq) ?_; refine HB_p (k := 8) rfl rfl rfl rfl rfl (fun _ hS => (R_pure rfl rfl rfl)) ?_; refine HB_p (k := 9) rfl rfl rfl rfl rfl (fun _ hS => (R_assign rfl)) ?_; refine HB_end ?_; refine HL_nil (hK33 _ _ _ _ ?_); refine HC_cond rfl (fun h34 => ?_) (fun h34 => ?_)
        · try exact Bool.noConfusion h34
          try simp only [ZZ] at h34
          refine HC_seq fun K35 hK35 => HC_region ?_
          refine HL_store (k := 1) rfl rfl rfl rfl rfl rfl rfl rfl (by first | (simp only [List.setIfInBounds_toArray, List.set_cons_zero, List.set_cons_succ]; exact rfl) | exact rfl) (by first | (simp only [List.set_cons_zero, List.set_cons_succ]; exact rfl) | exact rfl) ?_; refine HL_nil (hK35 _ _ _ _ ?_); refine HC_ret (HQ_blockR (HQ_thenR ?_))
          (refine HQ_post rfl rfl (.cons (res_cell rfl (known_L (k := 1) rfl) rfl rfl) .nil) (fun w1 hs1 => ?_)
           first | exact ⟨by rw [fitT, if_pos (by omega)]; rfl, hs1.keep⟩ | exact ⟨by rw [fitT, if_neg (by omega), if_pos (by assumption)]; rfl, hs1.keep⟩)
        · try exact Bool.noConfusion h34
          try simp only [ZZ] at h34
          refine HC_skip (HQ_blockN (hK2 _ _ _ _ ?_)); refine HC_seq fun K36 hK36 => ?_; refine HC_seq fun K37 hK37 => ?_
          have hfo := fit_ok (a := a) (b := b) (c := c) (d := d) (pb := pb) (pi := pi) (p := p) (show ¬ ((k = 4 ∧ n < items.length) ∨ (k = 6 ∧ n < bits.length)) by omega) (by assumption)
          have hxl : ∀ i, i < items.length → inX k pick i < ins.length := fun i hi => inX_lt (v := .mk a b c d bits pb items pi pick) hck (by assumption) hi
          have hp8 : k = 8 → 0 ≤ pick := fun h => by subst h; exact ofT_8 (v := .mk a b c d bits pb items pi pick) (by assumption)
          refine HC_region (HL_r rfl rfl rfl rfl (R_loadA (vs := [_, _, _]) rfl (known_L (k := 3) rfl) rfl rfl rfl rfl) (HL_r rfl rfl rfl rfl (R_loadA (vs := [_, _, _, _, _, _, _]) rfl (known_L (k := 2) rfl) rfl rfl rfl rfl) ?_)); refine HL_callPE rfl rfl rfl (enters_of Tryz.func92 (by kernel_rfl) rfl) (E_within (.mk k n p ins) (.mk a b c d bits pb items pi pick)) fun pp => ?_
          obtain ⟨rt, rv⟩ := pp
          change HL _ _ _ (vBlk rv (.mk a b c d bits pb items pi pick) :: tBlk rt (.mk k n p ins) :: _) _ _ _ _; refine HL_nil (hK37 _ _ _ _ ?_); refine HC_block (HC_sel [3, 0, 1, 2, 4, 5] (L' := [_, _, _, _, _, _]) (by decide) rfl ?_)
          refine HC_rangeR (τ := Int) (fun i (_ : Unit) => i ≤ items.length ∧ fitL (items.drop i) k pick ins i = fitL items k pick ins 0) (fun _ => [(r3, .cells #[.int .i64 (0)] 34 (0, 0))]) (fun j e => j = .ret ∧ e = fitL items k pick ins 0) (fun e => [(r3, .cells #[.int .i64 (e)] 34 (0, 0))]) [vBlk rv (.mk a b c d bits pb items pi pick), tBlk rt (.mk k n p ins), _, _, _] () rfl rfl (enters_of Tryz.func173 (by kernel_rfl) rfl) (I_within (n := n) (a := a) (b := b) (c := c) (d := d) (bits := bits) (pb := pb) hl hlt hs hst hxl hp8 rt rv) (by rintro _ _ _ ⟨_, rfl, _⟩; rfl) rfl (fun q hq => by rcases List.mem_cons.1 hq with rfl | hq; exact .inl (by simp); rcases List.mem_cons.1 hq with rfl | hq; exact .inl (by simp); exact .inr hq) rfl ⟨Nat.zero_le _, rfl⟩ ?_ ?_ ?_
          · rintro q Xr Xb w3 i _ _ ⟨⟩ ⟨hii, rfl, rfl⟩ ⟨hil, hinv⟩ Kr hKr
            have hix := itm_get hii
            have hty := inTy_get (hxl i hii)
            rw [dropI hix.1, fitL] at hinv
            unfold wVals
            refine HC_seq fun K38 hK38 => HC_region ?_; refine HL_alloc (cs := #[_, _, _]) rfl rfl rfl rfl fun r6 => ?_; refine HL_storeArr (k := 0) (n := 3) (ys := (inTy k pick ins i).cells) rfl rfl rfl rfl rfl (inTy k pick ins i).len rfl (inTy k pick ins i).one rfl ?_; refine HL_nil (hK38 _ _ _ _ ?_); refine HC_region (HL_alloc (cs := #[_, _, _, _, _, _, _]) rfl rfl rfl rfl fun r7 => (HL_storeArr (k := 0) (n := 7) (ys := (itm items i).cells) rfl rfl rfl rfl rfl (itm items i).len rfl (itm items i).one rfl ?_)); refine HL_nil ?_; refine hKr _ _ ?_; clear hKr; refine HC_block (HC_seq fun K39 hK39 => HC_region (HL_r rfl rfl rfl rfl (R_loadArr (xs := (inTy k pick ins i).cells) (n := 3) rfl (known_L (k := 1) rfl) rfl rfl (inTy k pick ins i).len) ?_)); refine HL_r rfl rfl rfl rfl (R_loadArr (xs := (itm items i).cells) (n := 7) rfl (known_L (k := 0) rfl) rfl rfl (itm items i).len) ?_; refine HL_callR rfl rfl rfl (enters_of Tryz.func46 (by kernel_rfl) rfl) (ih _ hix.2 (hi _ hix.2) _ (dp + 1) (hit _ hty.2) (hci _ hty.2)) (fun q hq => Or.inr (List.mem_append_right _ hq)) ?_; refine HLm rfl ?_; refine HL_nil (hK39 _ _ _ _ ?_); refine HC_seq fun K40 hK40 => HC_region ?_; refine HLm rfl (HLp rfl ?_); refine HL_nil (hK40 _ _ _ _ ?_); refine HC_cond rfl (fun h41 => ?_) (fun h41 => ?_)
            · try exact Bool.noConfusion h41
              try simp only [ZZ] at h41
              refine HC_seq fun K42 hK42 => HC_region ?_; refine HLm rfl ?_
              refine HL_store (k := 2) rfl rfl rfl rfl rfl rfl rfl rfl (by first | (simp only [List.setIfInBounds_toArray, List.set_cons_zero, List.set_cons_succ]; exact rfl) | exact rfl) (by first | (simp only [List.set_cons_zero, List.set_cons_succ]; exact rfl) | exact rfl) ?_; refine HL_nil (hK42 _ _ _ _ ?_); refine HC_ret (HQ_blockR (HQ_sel [2] (L' := [_]) (by decide) rfl ?_)); refine HQ_roundR (fitT (itm items i) (inTy k pick ins i)) ⟨rfl, by rw [if_neg (by assumption)] at hinv; exact hinv⟩ rfl
            · try exact Bool.noConfusion h41
              try simp only [ZZ] at h41
              refine HC_skip (HQ_blockN (HQ_sel [2] (L' := [_]) (by decide) rfl ?_)); refine HQ_round () ⟨by omega, by rw [if_pos (by assumption)] at hinv; exact hinv⟩ rfl
          · rintro D i ⟨⟩ hfi ⟨hil, hinv⟩
            have hin : i = items.length := hfi
            have hz : fitL items k pick ins 0 = 0 := by rw [← hinv, hin, List.drop_length, fitL]
            refine HQ_blockN (hK36 _ _ _ _ ?_); refine HC_seq fun K43 hK43 => HC_region ?_
            refine HL_store (k := 1) rfl rfl rfl rfl rfl rfl rfl rfl (by first | (simp only [List.setIfInBounds_toArray, List.set_cons_zero, List.set_cons_succ]; exact rfl) | exact rfl) (by first | (simp only [List.set_cons_zero, List.set_cons_succ]; exact rfl) | exact rfl) ?_; refine HL_nil (hK43 _ _ _ _ ?_); refine HC_ret ?_
            (refine HQ_mark (k := 0) rfl rfl ?_
             refine HQ_post rfl rfl (.cons (res_cell rfl (known_L (k := 1) rfl) rfl rfl) .nil) (fun w1 hs1 => ?_)
             first | exact ⟨by rw [hfo, ← he]; rfl, hs1.keep⟩ | exact ⟨by rw [hfo, hz]; rfl, hs1.keep⟩)
          · rintro D j e ⟨rfl, he⟩
            refine HC_ret (HQ_blockR (HQ_thenR ?_))
            first
              | (refine HQ_mark (k := 0) rfl rfl ?_
                 refine HQ_post rfl rfl (.cons (res_cell rfl (known_L (k := 1) rfl) rfl rfl) .nil) (fun w1 hs1 => ?_)
                 first | exact ⟨by rw [hfo, ← he]; rfl, hs1.keep⟩ | exact ⟨by rw [hfo, hz]; rfl, hs1.keep⟩)
              | (refine HQ_post rfl rfl (.cons (res_cell rfl (known_L (k := 0) rfl) rfl rfl) .nil) (fun w1 hs1 => ?_)
                 first | exact ⟨by rw [fitT, if_pos (by omega)]; rfl, hs1.keep⟩ | exact ⟨by rw [fitT, if_neg (by omega), if_pos (by assumption)]; rfl, hs1.keep⟩)
              | (refine HQ_post rfl rfl (.cons (res_cell rfl (known_L (k := 1) rfl) rfl rfl) .nil) (fun w1 hs1 => ?_)
                 first | exact ⟨by rw [fitT, if_pos (by omega)]; rfl, hs1.keep⟩ | exact ⟨by rw [fitT, if_neg (by omega), if_pos (by assumption)]; rfl, hs1.keep⟩)
      skip)
   skip)
end Go.Proofs.YtlcbfphioeppaaaGreatDoor
namespace Go.Proofs.YtlcbfphioeppaaaGreatDoor
set_option linter.all false
open Go.SL Go.RowKit Go.Shelf
set_option maxRecDepth 10000 in
theorem S_Fits {R : List (Nat × Obj)} {t : Ty} {v : Vl} (ht : t.In R) (hv : v.In R) : PureR Tryz.prog 22 [t.val, v.val].toArray (.int .i64 (fitsT t v)) R := by
  have h1 := S_Check ht
  have h2 := S_fits hv t 0 ht
  obtain ⟨k, n, p, ins⟩ := t
  obtain ⟨a, b, c, d, bits, pb, items, pi, pick⟩ := v
  refine pureR_of_HC Tryz.func22 rfl rfl fun w => ?_; refine HC_seq fun K1 hK1 => HC_region ?_; refine HL_box (cs := #[_, _, _]) rfl rfl rfl rfl fun r1 => ?_; refine HL_box (cs := #[_, _, _, _, _, _, _]) rfl rfl rfl rfl fun r2 => ?_; refine HLm rfl ?_; refine HL_nil (hK1 _ _ _ _ ?_); refine HC_seq fun K2 hK2 => ?_; refine HC_seq fun K3 hK3 => HC_region ?_; refine HL_r rfl rfl rfl rfl (R_loadA (vs := [_, _, _]) rfl (known_L (k := 1) rfl) rfl rfl rfl rfl) ?_; refine HL_callR rfl rfl rfl (enters_of Tryz.func41 (by kernel_rfl) rfl) h1 (fun q hq => Or.inr hq) ?_; refine HLm rfl ?_; refine HL_nil (hK3 _ _ _ _ ?_); refine HC_seq fun K4 hK4 => HC_region ?_; refine HLm rfl (HLp rfl ?_); refine HL_nil (hK4 _ _ _ _ ?_); refine HC_cond rfl (fun h5 => ?_) (fun h5 => ?_)
  · try exact Bool.noConfusion h5
    try simp only [ZZ] at h5
    refine HC_seq fun K6 hK6 => HC_region ?_; refine HLm rfl (HLm rfl ?_); refine HL_nil (hK6 _ _ _ _ ?_); refine HC_ret (HQ_thenR ?_); refine HQ_post rfl rfl (.cons (res_tmp rfl) .nil) (fun w1 hs1 => ?_); refine ⟨?_, hs1.keep⟩; rw [fitsT, if_neg (by assumption)]; rfl
  · try exact Bool.noConfusion h5
    try simp only [ZZ] at h5
    refine HC_skip (hK2 _ _ _ _ ?_); refine HC_seq fun K7 hK7 => HC_region ?_; refine HL_r rfl rfl rfl rfl (R_loadA (vs := [_, _, _]) rfl (known_L (k := 1) rfl) rfl rfl rfl rfl) ?_; refine HL_r rfl rfl rfl rfl (R_loadA (vs := [_, _, _, _, _, _, _]) rfl (known_L (k := 0) rfl) rfl rfl rfl rfl) ?_; refine HL_callR rfl rfl rfl (enters_of Tryz.func46 (by kernel_rfl) rfl) (h2 (by assumption)) (fun q hq => Or.inr hq) ?_; refine HLm rfl ?_; refine HL_nil (hK7 _ _ _ _ ?_); refine HC_ret ?_; refine HQ_post rfl rfl (.cons (res_tmp rfl) .nil) (fun w1 hs1 => ?_); refine ⟨?_, hs1.keep⟩; rw [fitsT, if_pos (by assumption)]; rfl
def fewB (t : Ty) (v : Vl) : Bool := decide (typN t 60 9 ≤ 60) && decide (valN v 150 9 ≤ 150)
set_option maxRecDepth 10000 in
theorem S_Few {R : List (Nat × Obj)} {t : Ty} {v : Vl} (ht : t.In R) (hv : v.In R) : PureR Tryz.prog 35 [t.val, v.val].toArray (.bool (fewB t v)) R := by
  have h1 := S_ref_Types ht 60 9 (by omega) (by omega) (by omega) (by omega)
  have h2 := S_ref_Vals hv 150 9 (by omega) (by omega) (by omega) (by omega)
  obtain ⟨k, n, p, ins⟩ := t
  obtain ⟨a, b, c, d, bits, pb, items, pi, pick⟩ := v
  refine pureR_of_HC Tryz.func35 rfl rfl fun w => ?_; refine HC_seq fun K1 hK1 => HC_region ?_; refine HL_box (cs := #[_, _, _]) rfl rfl rfl rfl fun r1 => ?_; refine HL_box (cs := #[_, _, _, _, _, _, _]) rfl rfl rfl rfl fun r2 => ?_; refine HLm rfl ?_; refine HL_nil (hK1 _ _ _ _ ?_); clear hK1 K1; refine HC_seq fun K2 hK2 => HC_region ?_; refine HL_r rfl rfl rfl rfl (R_loadA (vs := [_, _, _]) rfl (known_L (k := 1) rfl) rfl rfl rfl rfl) ?_; refine HL_callR rfl rfl rfl (enters_of Tryz.func65 (by kernel_rfl) rfl) h1 (fun q hq => Or.inr hq) ?_; refine HLp rfl (HLm rfl ?_)
  refine HL_case 8 rfl (fun hb3 => ?_) (fun hb3 => ?_) <;> (try simp only [ZZ] at hb3) <;> first | (refine HL_r rfl rfl rfl rfl (R_loadA (vs := [_, _, _, _, _, _, _]) rfl (known_L (k := 0) rfl) rfl rfl rfl rfl) ?_) | (refine HL_r rfl rfl rfl rfl (R_loadA (vs := [_, _, _, _, _, _, _]) rfl (known_L (k := 1) rfl) rfl rfl rfl rfl) ?_) | (refine HL_skip rfl rfl rfl ?_)
  all_goals first
    | (refine HL_callR rfl rfl rfl (enters_of Tryz.func66 (by kernel_rfl) rfl) h2 (fun q hq => Or.inr hq) ?_)
    | (refine HL_skip rfl rfl rfl ?_)
  all_goals first
    | (refine HLp rfl ?_)
    | (refine HL_skip rfl rfl rfl ?_)
  all_goals first
    | (refine HL_r rfl rfl rfl rfl (R_pickT rfl rfl) ?_)
    | (refine HL_r rfl rfl rfl rfl (R_pickF rfl rfl) ?_)
  all_goals refine HLm rfl ?_
  all_goals refine HL_nil ?_
  all_goals (
   refine hK2 _ _ _ _ ?_; clear hK2 K2; refine HC_ret ?_; refine HQ_post rfl rfl (.cons (res_tmp rfl) .nil) (fun w1 hs1 => ?_); refine ⟨?_, hs1.keep⟩
   simp_all [resVal, fewB]
   all_goals first | done | (intros; omega)
   skip)
def vNum (n : Nat) : Vl := .mk n 0 0 0 [] none [] none 0
section
variable {R : List (Nat × Obj)}
theorem iz (z : Int) (h : -9223372036854775808 ≤ z ∧ z ≤ 9223372036854775807 := by decide) : I64 z := h
theorem uz (z : Nat) (h : z < 18446744073709551616 := by decide) : U64 z := h
theorem in_num (n : Nat) (h : n < 18446744073709551616) : (vNum n).In R := .mk h (uz 0) (uz 0) (uz 0) (by simp) rfl (by simp) rfl (iz 0) (by simp)
theorem in_ty0 {k n : Int} (hk : I64 k) (hn : I64 n) : (Ty.mk k n none []).In R := .mk hk hn (by simp) rfl (by simp)
end
end Go.Proofs.YtlcbfphioeppaaaGreatDoor
namespace Go.Proofs.YtlcbfphioeppaaaGreatDoor
set_option linter.all false
open Go.SL Go.RowKit Go.Shelf
theorem repeat_rep : ∀ n, Lib.repeatL [0] n = List.replicate n 0
  | 0 => rfl
  | n + 1 => by rw [Lib.repeatL, repeat_rep n]; rfl
end Go.Proofs.YtlcbfphioeppaaaGreatDoor
namespace Go.Proofs.YtlcbfphioeppaaaGreatDoor
set_option linter.all false
open Go.SL Go.RowKit Go.Shelf
end Go.Proofs.YtlcbfphioeppaaaGreatDoor
namespace Go.Proofs.YtlcbfphioeppaaaGreatDoor
set_option linter.all false
open Go.SL Go.RowKit Go.Shelf
end Go.Proofs.YtlcbfphioeppaaaGreatDoor
namespace Go.Proofs.YtlcbfphioeppaaaGreatDoor
set_option linter.all false
open Go.SL Go.RowKit Go.Shelf
theorem wokN {n : Nat} (h : n < 18446744073709551616) : WOk [n, 0, 0, 0] := ⟨rfl, fun x hx => by simp at hx; rcases hx with rfl | rfl <;> simp_all⟩
def beN (n : Nat) : List UInt8 := bytesW [n, 0, 0, 0]
set_option maxRecDepth 10000 in
theorem P_num_Be {n : Nat} (hn : n < 18446744073709551616) : Pure Tryz.prog 101 [uV n].toArray (.string (bs (beN n))) := by
  refine pure_of_HC Tryz.func101 rfl rfl fun w => ?_; refine HC_seq fun K1 hK1 => HC_region ?_; refine HLm rfl ?_; refine HL_nil (hK1 _ _ _ _ ?_); refine HC_seq fun K2 hK2 => HC_region ?_; refine HLm rfl (HL_callP rfl rfl rfl (enters_of Tryz.func150 (by kernel_rfl) rfl) (P_word_Of n) (HL_callP rfl rfl rfl (enters_of Tryz.func144 (by kernel_rfl) rfl) (P_word_Bytes (wokN hn)) ?_)); refine HLm rfl ?_; refine HL_nil (hK2 _ _ _ _ ?_); refine HC_ret ?_; refine HQ_post rfl rfl (.cons (res_tmp rfl) .nil) (fun w1 hs1 => ?_); exact ⟨rfl, hs1.keep⟩
def leR (n : Nat) (w : Int) : List UInt8 × Int := if w < 1 ∨ w > 8 ∨ ((beN n).length : Int) > w then ([], 1) else (leN n w.toNat, 0)
def resS (p : List UInt8 × Int) : Value := .tuple #[.string (bs p.1), .int .i64 p.2]
theorem le_step {n i k : Nat} (h : i < k) : ((leN n i ++ List.replicate (k - i) 0).map bV).set i (bV (UInt8.ofNat (n / 2 ^ (8 * i) % 256))) = (leN n (i + 1) ++ List.replicate (k - (i + 1)) 0).map bV := by
  rw [← List.map_set, List.set_append_right _ _ (by rw [leN_len]; exact Nat.le_refl _), leN_len, Nat.sub_self, show k - i = (k - (i + 1)) + 1 from by omega, List.replicate_succ, List.set_cons_zero, leN_snoc, List.append_assoc]; rw [show (256 : Nat) ^ i = 2 ^ (8 * i) from by rw [show (256 : Nat) = 2 ^ 8 from rfl, ← Nat.pow_mul]]
  rfl
set_option maxRecDepth 10000 in
theorem P_num_Le {n : Nat} (hn : n < 18446744073709551616) (k : Int) : Pure Tryz.prog 56 [uV n, .int .i64 k].toArray (resS (leR n k)) := by
  refine pure_of_HC Tryz.func56 rfl rfl fun w => ?_; refine HC_seq fun K1 hK1 => HC_region ?_; refine HLm rfl (HLm rfl ?_); refine HL_nil (hK1 _ _ _ _ ?_); refine HC_seq fun K2 hK2 => ?_; refine HC_seq fun K3 hK3 => HC_region ?_; refine HLm rfl (HLp rfl (HLm rfl ?_))
  refine HL_case 10 rfl (fun hb4 => ?_) (fun hb4 => ?_) <;> (try simp only [ZZ] at hb4) <;> first | (refine HLm rfl ?_) | (refine HL_skip rfl rfl rfl ?_)
  all_goals first
    | (refine HLp rfl ?_)
    | (refine HL_skip rfl rfl rfl ?_)
  all_goals first
    | (refine HL_r rfl rfl rfl rfl (R_pickT rfl rfl) ?_)
    | (refine HL_r rfl rfl rfl rfl (R_pickF rfl rfl) ?_)
  all_goals refine HLm rfl ?_
  all_goals first
    | (refine HL_skip rfl rfl rfl ?_)
    | (refine HL_case 14 rfl (fun hb6 => ?_) (fun hb6 => ?_) <;> (try simp only [ZZ] at hb6) <;> first | (refine HLm rfl ?_) | (refine HL_skip rfl rfl rfl ?_))
  all_goals first
    | (refine HL_callP rfl rfl rfl (enters_of Tryz.func101 (by kernel_rfl) rfl) (P_num_Be hn) ?_)
    | (refine HL_skip rfl rfl rfl ?_)
  all_goals first
    | (refine HL_r rfl rfl rfl rfl (R_lenBs rfl rfl) ?_)
    | (refine HL_skip rfl rfl rfl ?_)
  all_goals first
    | (refine HLm rfl ?_)
    | (refine HL_skip rfl rfl rfl ?_)
  all_goals first
    | (refine HLp rfl ?_)
    | (refine HL_skip rfl rfl rfl ?_)
  all_goals first
    | (refine HL_r rfl rfl rfl rfl (R_pickT rfl rfl) ?_)
    | (refine HL_r rfl rfl rfl rfl (R_pickF rfl rfl) ?_)
  all_goals refine HL_nil ?_
  all_goals (
   refine hK3 _ _ _ _ ?_; refine HC_cond rfl (fun h11 => ?_) (fun h11 => ?_)
   · try exact Bool.noConfusion h11
     try simp only [ZZ] at h11
     refine HC_seq fun K12 hK12 => HC_region ?_; refine HLm rfl (HLm rfl ?_); refine HL_nil (hK12 _ _ _ _ ?_); refine HC_ret (HQ_thenR ?_); refine HQ_post rfl rfl (.cons (res_tmp rfl) (.cons (res_tmp rfl) .nil)) (fun w1 hs1 => ?_); refine ⟨?_, hs1.keep⟩; rw [show leR n k = ([], 1) from by unfold leR; rw [if_pos (by omega)]]; rfl
   · try exact Bool.noConfusion h11
     all_goals try simp only [ZZ] at h11
     all_goals (
      refine HC_skip (hK2 _ _ _ _ ?_); refine HC_seq fun K13 hK13 => ?_
      have hk1 : 1 ≤ k ∧ k ≤ 8 ∧ ((beN n).length : Int) ≤ k := by omega
      have hlr : leR n k = (leN n k.toNat, 0) := by unfold leR; rw [if_neg (by omega)]
      obtain ⟨k, rfl⟩ : ∃ j : Nat, k = j := ⟨k.toNat, by omega⟩
      rw [Int.toNat_natCast] at hlr; refine HC_region (HLm rfl (HL_make (n := k) (b := 1) rfl rfl rfl rfl rfl rfl rfl rfl rfl (by omega) (by omega) fun r2 => ?_)); refine HLm rfl ?_; refine HL_nil (hK13 _ _ _ _ ?_); refine HC_seq fun K14 hK14 => ?_; refine HC_seq fun K15 hK15 => HC_region ?_; refine HLm rfl (HL_r rfl rfl rfl rfl (R_lenSl rfl rfl) (HLm rfl ?_)); refine HL_nil (hK15 _ _ _ _ ?_); refine HC_block (HC_loop (σ := Nat) (fun i => i ≤ k) (fun i => [(0, uV n), (6, .slice (some ⟨r2, 0, none⟩) k k), (24, .int .i64 (k : Int)), (25, .int .i64 (i : Int))]) (fun i => [(r2, .cells ((leN n i ++ List.replicate (k - i) 0).map bV).toArray 5 (0, 0))]) (fun _ _ _ => True) (fun i => k - i) 0 (Nat.zero_le _) (.cons rfl (.cons rfl (.cons rfl (.cons rfl .nil)))) (by simp [leN, bV]) (fun _ _ h => h) ?_); intro i hi; refine HC_seq fun K16 hK16 => HC_region ?_; refine HLp rfl ?_; refine HL_nil (hK16 _ _ _ _ ?_); refine HC_seq fun K17 hK17 => ?_; refine HC_cond rfl (fun h18 => ?_) (fun h18 => ?_)
      · try exact Bool.noConfusion h18
        try simp only [ZZ] at h18
        refine HC_skip (hK17 _ _ _ _ ?_); refine HC_seq fun K19 hK19 => HC_block ?_; refine HC_seq fun K20 hK20 => HC_region ?_; refine HLm rfl (HLm rfl ?_); refine HL_nil (hK20 _ _ _ _ ?_); refine HC_region (HLm rfl ?_); refine HLm rfl (HLm rfl ?_); refine HLm rfl (HLp rfl ?_); refine HL_as (show _ = Value.int .i64 ((8 * i : Nat) : Int) from congrArg (Value.int .i64) (by rw [wrap_i64 (by omega) (by omega)]; omega)) ?_; refine HL_r rfl rfl rfl rfl (R_shr (n := 8 * i) rfl rfl (by omega) (show _ ≤ 64 from by omega) (by omega) (shr_nat _ _)) ?_; refine HLp rfl (HL_as (show _ = bV (UInt8.ofNat (n / 2 ^ (8 * i) % 256)) from byte_mod _) (HL_r rfl rfl rfl rfl (R_indexS (j := i) (m := 1) (off' := i) rfl rfl rfl rfl (by omega) (by omega) (by omega)) ?_)); refine HL_storeAt (k := 0) (off := i) (xs := (leN n i ++ List.replicate (k - i) 0).map bV) (ys := (leN n (i + 1) ++ List.replicate (k - (i + 1)) 0).map bV) rfl rfl rfl rfl rfl rfl (by simp [leN_len]; omega) (le_step (by omega)) rfl ?_; refine HL_nil ?_; refine HQ_blockN (hK19 _ _ _ _ ?_); refine HC_region (HLp rfl (HL_wrap_i64 (by omega) (by omega) ?_)); refine HLm rfl (HL_nil (HQ_then ?_)); exact HQ_again (i + 1) (by omega) (by omega) (.cons rfl (.cons rfl (.cons rfl (.cons rfl .nil)))) (List.Sublist.refl _) (fun _ _ h => h)
      · try exact Bool.noConfusion h18
        try simp only [ZZ] at h18
        refine HC_exit (HQ_thenE ?_); refine HQ_thenE (HQ_blockE (hK14 _ _ _ _ ?_)); refine HC_seq fun K21 hK21 => ?_
        have hik : k = i := by omega
        subst hik; refine HC_region (HLm rfl ?_); refine HL_r rfl rfl rfl rfl (R_bytesStr (b := leN n k) (row := some (r2, k, [])) (e := 5) (show _ = some (rowV (leN n k).length (some (r2, k, []))) from by rw [leN_len]; rfl) ⟨by simp [leN_len], by simp [leN_len]⟩ (fun p hp => .inl (by rw [List.mem_singleton.1 hp]; simp)) rfl rfl rfl) ?_; refine HLm rfl (HLm rfl ?_); refine HL_nil (hK21 _ _ _ _ ?_); refine HC_ret ?_; refine HQ_post rfl rfl (.cons (res_tmp rfl) (.cons (res_tmp rfl) .nil)) (fun w1 hs1 => ?_); refine ⟨?_, hs1.keep⟩; rw [hlr]; rfl
      skip)
   skip)
end Go.Proofs.YtlcbfphioeppaaaGreatDoor
namespace Go.Proofs.YtlcbfphioeppaaaGreatDoor
set_option linter.all false
open Go.SL Go.RowKit Go.Shelf
def unleR (s : List UInt8) : Nat × Int := if s.length < 1 ∨ s.length > 8 then (0, 2) else (leV s, 0)
def resN (p : Nat × Int) : Value := .tuple #[uV p.1, .int .i64 p.2]
theorem leV_take {s : List UInt8} {i : Nat} (h : i < s.length) : leV (s.take (i + 1)) = leV (s.take i) + (s.getD i 0).toNat * 2 ^ (8 * i) := by
  rw [List.take_succ, List.getElem?_eq_getElem h]; simp only [Option.toList_some]; rw [leV_snoc, List.length_take, Nat.min_eq_left (by omega), show (256 : Nat) = 2 ^ 8 from rfl, ← Nat.pow_mul, List.getD_eq_getElem?_getD, List.getElem?_eq_getElem h]; rfl
theorem leV_take_lt {s : List UInt8} {i : Nat} (h : i ≤ s.length) : leV (s.take i) < 2 ^ (8 * i) := by
  have := leV_lt (s.take i)
  rw [List.length_take, Nat.min_eq_left h, show (256 : Nat) = 2 ^ 8 from rfl, ← Nat.pow_mul] at this; exact this
theorem pow64 {i : Nat} (h : i ≤ 8) : 2 ^ (8 * i) ≤ 18446744073709551616 := Nat.pow_le_pow_right (n := 2) (by decide) (by omega : 8 * i ≤ 64)
theorem leV_drop {s : List UInt8} {i : Nat} (h : i < s.length) : leV (s.drop i) = (s.getD i 0).toNat + 256 * leV (s.drop (i + 1)) := by
  rw [List.drop_eq_getElem_cons h, leV, List.getD_eq_getElem?_getD, List.getElem?_eq_getElem h]; rfl
theorem leV_drop_lt {s : List UInt8} {i : Nat} (h : s.length ≤ i + 7) : leV (s.drop i) < 72057594037927936 := by
  have h1 := leV_lt (s.drop i)
  have h2 : 256 ^ (s.drop i).length ≤ 256 ^ 7 := Nat.pow_le_pow_right (by decide) (by rw [List.length_drop]; omega)
  have h3 : (256 : Nat) ^ 7 = 72057594037927936 := by decide
  omega
set_option maxRecDepth 10000 in
theorem P_num_Unle (s : List UInt8) : Pure Tryz.prog 196 [.string (bs s)].toArray (resN (unleR s)) := by
  refine pure_of_HC Tryz.func196 rfl rfl fun w => ?_; refine HC_seq fun K1 hK1 => HC_region ?_; refine HLm rfl (HLm rfl ?_); refine HL_nil (hK1 _ _ _ _ ?_); refine HC_seq fun K2 hK2 => ?_; refine HC_seq fun K3 hK3 => HC_region ?_; refine HLm rfl (HL_r rfl rfl rfl rfl (R_strEq rfl rfl) (HLm rfl ?_))
  refine HL_case 8 rfl (fun hb4 => ?_) (fun hb4 => ?_) <;> (try simp only [ZZ] at hb4) <;> first | (refine HLm rfl ?_) | (refine HL_skip rfl rfl rfl ?_)
  all_goals first
    | (refine HL_r rfl rfl rfl rfl (R_lenBs rfl rfl) ?_)
    | (refine HL_skip rfl rfl rfl ?_)
  all_goals first
    | (refine HLp rfl ?_)
    | (refine HL_skip rfl rfl rfl ?_)
  all_goals first
    | (refine HL_r rfl rfl rfl rfl (R_pickT rfl rfl) ?_)
    | (refine HL_r rfl rfl rfl rfl (R_pickF rfl rfl) ?_)
  all_goals refine HL_nil ?_
  all_goals (
   refine hK3 _ _ _ _ ?_; refine HC_cond rfl (fun h7 => ?_) (fun h7 => ?_)
   · try exact Bool.noConfusion h7
     try simp only [ZZ] at h7
     refine HC_seq fun K8 hK8 => HC_region ?_; refine HLm rfl (HLm rfl ?_); refine HL_nil (hK8 _ _ _ _ ?_); refine HC_ret (HQ_thenR ?_); refine HQ_post rfl rfl (.cons (res_tmp rfl) (.cons (res_tmp rfl) .nil)) (fun w1 hs1 => ?_); refine ⟨?_, hs1.keep⟩
     rw [show unleR s = (0, 2) from by unfold unleR; rw [if_pos (by first | omega | (left; rw [‹s = []›]; decide))]]; rfl
   · try exact Bool.noConfusion h7
     all_goals try simp only [ZZ] at h7
     all_goals (
      refine HC_skip (hK2 _ _ _ _ ?_); refine HC_seq fun K9 hK9 => ?_
      have hl : 1 ≤ s.length ∧ s.length ≤ 8 := by
        have : s ≠ [] := by assumption
        have := List.length_pos_iff.2 this
        omega
      have hur : unleR s = (leV s, 0) := by unfold unleR; rw [if_neg (by omega)]
      refine HC_region (HLm rfl ?_); refine HL_nil (hK9 _ _ _ _ ?_); refine HC_seq fun K10 hK10 => ?_; refine HC_seq fun K11 hK11 => HC_region ?_; refine HLm rfl (HL_r rfl rfl rfl rfl (R_lenBs rfl rfl) (HLm rfl ?_)); refine HL_nil (hK11 _ _ _ _ ?_); refine HC_block (HC_loop (σ := Nat) (fun i => i ≤ s.length) (fun i => [(0, .string (bs s)), (4, uV (leV (s.take i))), (14, .int .i64 (s.length : Nat)), (15, .int .i64 (i : Int))]) (fun i => []) (fun _ _ _ => True) (fun i => s.length - i) 0 (Nat.zero_le _) (.cons rfl (.cons rfl (.cons rfl (.cons rfl .nil)))) (List.nil_sublist _) (fun _ _ h => h) ?_); intro i hi; refine HC_seq fun K12 hK12 => HC_region ?_; refine HLp rfl ?_; refine HL_nil (hK12 _ _ _ _ ?_); refine HC_seq fun K13 hK13 => ?_; refine HC_cond rfl (fun h14 => ?_) (fun h14 => ?_)
      · try exact Bool.noConfusion h14
        try simp only [ZZ] at h14
        refine HC_skip (hK13 _ _ _ _ ?_); refine HC_seq fun K15 hK15 => HC_block ?_; refine HC_seq fun K16 hK16 => HC_region ?_; refine HLm rfl (HLm rfl ?_); refine HL_nil (hK16 _ _ _ _ ?_); refine HC_region (HLm rfl ?_); refine HLm rfl (HLm rfl (HL_r rfl rfl rfl rfl (R_indexBs (j := i) rfl rfl rfl rfl (by omega) rfl) ?_)); refine HLp rfl ?_; refine HL_as (show _ = uV (s.getD i 0).toNat from congrArg (Value.int .u64) (wrap_u64 (by omega) (by have := u8_lt (s.getD i 0); omega))) ?_; refine HLm rfl (HLp rfl ?_); refine HL_as (show _ = Value.int .i64 ((8 * i : Nat) : Int) from congrArg (Value.int .i64) (by rw [wrap_i64 (by omega) (by omega)]; omega)) ?_; refine HL_r rfl rfl rfl rfl (R_shl (n := 8 * i) rfl rfl rfl (show _ ≤ 64 from by omega) (shl_u64 (sh_lt (u8_lt _) (by omega)))) ?_; refine HL_r rfl rfl rfl rfl (R_bits64 (op := .or) (b := ((leV (s.take (i + 1)) : Nat) : Int)) rfl rfl rfl (Nat.lt_of_lt_of_le (leV_take_lt (by omega)) (pow64 (by omega))) (sh_lt (u8_lt _) (by omega)) (congrArg (fun z : Nat => (z : Int)) (by rw [leV_take (by omega)]; exact or_add (leV_take_lt (by omega))))) ?_; refine HLm rfl (HL_nil ?_); refine HQ_blockN (hK15 _ _ _ _ ?_); refine HC_region (HLp rfl (HL_wrap_i64 (by omega) (by omega) ?_)); refine HLm rfl (HL_nil (HQ_then ?_)); exact HQ_again (i + 1) (by omega) (by omega) (.cons rfl (.cons rfl (.cons rfl (.cons rfl .nil)))) (List.nil_sublist _) (fun _ _ h => h)
      · try exact Bool.noConfusion h14
        try simp only [ZZ] at h14
        refine HC_exit (HQ_thenE ?_); refine HQ_thenE (HQ_blockE (hK10 _ _ _ _ ?_)); refine HC_seq fun K17 hK17 => ?_
        have hik : s.length = i := by omega
        have htk : s.take i = s := by rw [← hik, List.take_length]
        refine HC_region (HLm rfl ?_); refine HLm rfl (HLm rfl ?_); refine HL_nil (hK17 _ _ _ _ ?_); refine HC_ret ?_; refine HQ_post rfl rfl (.cons (res_tmp rfl) (.cons (res_tmp rfl) .nil)) (fun w1 hs1 => ?_); refine ⟨?_, hs1.keep⟩; rw [htk, hur]; rfl
      skip)
   skip)
set_option maxRecDepth 10000 in
theorem P_ref_Unle (s : List UInt8) : Pure Tryz.prog 217 [.string (bs s)].toArray (resN (unleR s)) := by
  refine pure_of_HC Tryz.func217 rfl rfl fun w => ?_; refine HC_seq fun K1 hK1 => HC_region ?_; refine HLm rfl (HLm rfl ?_); refine HL_nil (hK1 _ _ _ _ ?_); refine HC_seq fun K2 hK2 => ?_; refine HC_seq fun K3 hK3 => HC_region ?_; refine HLm rfl (HL_r rfl rfl rfl rfl (R_lenBs rfl rfl) ?_); refine HLp rfl (HLm rfl ?_)
  refine HL_case 9 rfl (fun hb4 => ?_) (fun hb4 => ?_) <;> (try simp only [ZZ] at hb4) <;> first | (refine HLm rfl ?_) | (refine HL_skip rfl rfl rfl ?_)
  all_goals first
    | (refine HL_r rfl rfl rfl rfl (R_lenBs rfl rfl) ?_)
    | (refine HL_skip rfl rfl rfl ?_)
  all_goals first
    | (refine HLp rfl ?_)
    | (refine HL_skip rfl rfl rfl ?_)
  all_goals first
    | (refine HL_r rfl rfl rfl rfl (R_pickT rfl rfl) ?_)
    | (refine HL_r rfl rfl rfl rfl (R_pickF rfl rfl) ?_)
  all_goals refine HL_nil ?_
  all_goals (
   refine hK3 _ _ _ _ ?_; refine HC_cond rfl (fun h7 => ?_) (fun h7 => ?_)
   · try exact Bool.noConfusion h7
     try simp only [ZZ] at h7
     refine HC_seq fun K8 hK8 => HC_region ?_; refine HLm rfl (HLm rfl ?_); refine HL_nil (hK8 _ _ _ _ ?_); refine HC_ret (HQ_thenR ?_); refine HQ_post rfl rfl (.cons (res_tmp rfl) (.cons (res_tmp rfl) .nil)) (fun w1 hs1 => ?_); refine ⟨?_, hs1.keep⟩; rw [show unleR s = (0, 2) from by unfold unleR; rw [if_pos (by omega)]]; rfl
   · try exact Bool.noConfusion h7
     all_goals try simp only [ZZ] at h7
     all_goals (
      refine HC_skip (hK2 _ _ _ _ ?_); refine HC_seq fun K9 hK9 => HC_region ?_; refine HLm rfl ?_; refine HL_nil (hK9 _ _ _ _ ?_); refine HC_seq fun K10 hK10 => ?_; refine HC_seq fun K11 hK11 => ?_
      have hl : 1 ≤ s.length ∧ s.length ≤ 8 := by omega
      have hur : unleR s = (leV s, 0) := by unfold unleR; rw [if_neg (by omega)]
      refine HC_region (HLm rfl (HL_r rfl rfl rfl rfl (R_lenBs rfl rfl) ?_)); refine HLp rfl (HL_wrap_i64 (by omega) (by omega) (HLm rfl ?_)); refine HL_nil (hK11 _ _ _ _ ?_); refine HC_block ?_; refine HC_loop (σ := Nat) (fun i => i ≤ s.length) (fun i => [(0, .string (bs s)), (4, uV (leV (s.drop i))), (5, .int .i64 ((i : Int) - 1))]) (fun i => []) (fun _ _ _ => True) (fun i => i) s.length (Nat.le_refl _) (.cons rfl (.cons (by rw [List.drop_length]; rfl) (.cons rfl .nil))) (List.nil_sublist _) (fun _ _ h => h) ?_; intro i hi; refine HC_seq fun K12 hK12 => ?_; refine HC_seq fun K13 hK13 => HC_region ?_; refine HLm rfl (HLp rfl ?_); refine HL_nil (hK13 _ _ _ _ ?_); refine HC_cond rfl (fun h14 => ?_) (fun h14 => ?_)
      · try exact Bool.noConfusion h14
        try simp only [ZZ] at h14
        refine HC_skip (hK12 _ _ _ _ ?_); refine HC_seq fun K15 hK15 => HC_block ?_; refine HC_region (HLm rfl ?_)
        have hdl := leV_drop_lt (s := s) (i := i) (by omega); refine HLp rfl ?_; refine HL_as (show _ = uV (leV (s.drop i) * 256) from congrArg (Value.int .u64) (by rw [wrap_u64 (by omega) (by omega)]; omega)) ?_
        refine HLm rfl (HLm rfl (HL_as (show _ = Value.int .i64 ((i - 1 : Nat) : Int) from congrArg (Value.int .i64) (by omega)) ?_)); refine HL_r rfl rfl rfl rfl (R_indexBs (j := i - 1) rfl rfl rfl rfl (by omega) rfl) ?_; refine HLp rfl ?_; refine HL_as (show _ = uV (s.getD (i - 1) 0).toNat from congrArg (Value.int .u64) (wrap_u64 (by omega) (by have := u8_lt (s.getD (i - 1) 0); omega))) ?_; refine HLp rfl ?_; refine HL_as (show _ = uV (leV (s.drop (i - 1))) from congrArg (Value.int .u64) (by have h1 := u8_lt (s.getD (i - 1) 0); have h2 := leV_drop (s := s) (i := i - 1) (by omega); rw [show i - 1 + 1 = i from by omega] at h2; rw [h2, wrap_u64 (by omega) (by omega)]; omega)) ?_; refine HLm rfl (HL_nil ?_); refine HQ_blockN (hK15 _ _ _ _ ?_); refine HC_region (HLm rfl ?_); refine HLp rfl (HL_wrap_i64 (by omega) (by omega) ?_); refine HLm rfl (HL_nil (HQ_then ?_)); exact HQ_again (i - 1) (by omega) (by omega) (.cons rfl (.cons rfl (.cons (congrArg (fun z => some (Value.int .i64 z)) (by omega)) .nil))) (List.nil_sublist _) (fun _ _ h => h)
      · try exact Bool.noConfusion h14
        try simp only [ZZ] at h14
        refine HC_exit (HQ_thenE ?_); refine HQ_thenE (HQ_blockE (hK10 _ _ _ _ ?_)); refine HC_seq fun K16 hK16 => ?_
        have hi0 : i = 0 := by omega
        subst hi0; refine HC_region (HLm rfl ?_); refine HLm rfl (HLm rfl ?_); refine HL_nil (hK16 _ _ _ _ ?_); refine HC_ret ?_; refine HQ_post rfl rfl (.cons (res_tmp rfl) (.cons (res_tmp rfl) .nil)) (fun w1 hs1 => ?_); refine ⟨?_, hs1.keep⟩; rw [hur]; rfl
      skip)
   skip)
end Go.Proofs.YtlcbfphioeppaaaGreatDoor
/-! ### Bits, 8 a byte; numbers, the lowest byte first -/
namespace Go.SL
set_option linter.all false
open Go Go.RowKit Go.Shelf
/-- A number's bytes, the lowest ones first. -/
def leW (w : List Nat) (n : Nat) : List UInt8 := (beD w 32).reverse.take n
/-- The number of bytes. -/
def padZ (s : List UInt8) : List UInt8 := s ++ List.replicate (32 - s.length) 0
def numD (s : List UInt8) : List Nat := unfW (padZ s).reverse
theorem padZ_len {s : List UInt8} (h : s.length ≤ 32) : (padZ s).length = 32 := by unfold padZ; rw [List.length_append, List.length_replicate]; omega
theorem numD_ok (s : List UInt8) : WOk (numD s) := unfW_ok _
/-! bits -/
def packS (l : List Bool) (N : Nat) : Nat → List UInt8
  | 0 => List.replicate N 0
  | i + 1 => if l.getD i false = true then (packS l N i).set (i / 8) (UInt8.ofNat (((packS l N i).getD (i / 8) 0).toNat ||| 2 ^ (i % 8))) else packS l N i
theorem packS_len (l : List Bool) (N : Nat) : ∀ i, (packS l N i).length = N
  | 0 => by rw [packS, List.length_replicate]
  | i + 1 => by
    rw [packS]
    split
    · rw [List.length_set, packS_len l N i]
    · exact packS_len l N i
theorem or_lt {x m : Nat} (hx : x < 256) (hm : m < 8) : x ||| 2 ^ m < 256 := Nat.or_lt_two_pow (n := 8) hx (Nat.pow_lt_pow_right (by decide) hm)
def packB (l : List Bool) : List UInt8 := packS l ((l.length + 7) / 8) l.length
theorem packB_len (l : List Bool) : (packB l).length = (l.length + 7) / 8 := packS_len _ _ _
def bitAt (s : List UInt8) (i : Nat) : Bool := (s.getD (i / 8) 0).toNat.testBit (i % 8)
def unpackB (s : List UInt8) (n : Nat) : List Bool := (List.range n).map (bitAt s)
theorem unpackB_len (s : List UInt8) (n : Nat) : (unpackB s n).length = n := by unfold unpackB; rw [List.length_map, List.length_range]
theorem unpackB_get (s : List UInt8) {n i : Nat} (h : i < n) : (unpackB s n)[i]? = some (bitAt s i) := by
  unfold unpackB; rw [List.getElem?_map, List.getElem?_range h]; rfl
theorem u8_bits {a b : UInt8} (h : ∀ j, j < 8 → a.toNat.testBit j = b.toNat.testBit j) : a = b := by
  apply UInt8.toNat_inj.1
  apply Nat.eq_of_testBit_eq
  intro j
  by_cases hj : j < 8
  · exact h j hj
  · rw [Nat.testBit_lt_two_pow (Nat.lt_of_lt_of_le (u8_lt a) (Nat.pow_le_pow_right (n := 2) (i := 8) (by decide) (by omega))), Nat.testBit_lt_two_pow (Nat.lt_of_lt_of_le (u8_lt b) (Nat.pow_le_pow_right (n := 2) (i := 8) (by decide) (by omega)))]
end Go.SL
namespace Go.Proofs.YtlcbfphioeppaaaGreatDoor
set_option linter.all false
open Go.SL Go.RowKit Go.Shelf
/-! ### Values as bytes, in plain Lean -/
mutual
def wV : Vl → Nat
  | .mk _ _ _ _ bits _ items _ _ => 1 + bits.length / 8 + wL items
def wL : List Vl → Nat
  | [] => 0
  | x :: xs => wV x + wL xs
end
/-- A row's bytes: what stands in the front, then the rest. -/
def rowF (head : Nat) : List (Ty × List UInt8) → List UInt8 → List UInt8 → List UInt8
  | [], f, th => f ++ th
  | (x, s) :: l, f, th => if isFix x then rowF head l (f ++ s) th else rowF head l (f ++ (leR (head + th.length) 4).1) (th ++ s)
def begT (x : Ty) : Int := if isFix x then sizT x else 4
def begL : List Ty → Int
  | [] => 0
  | x :: l => begT x + begL l
mutual
def putV : Vl → Ty → List UInt8
  | .mk a b c d bits _ items _ pick, t =>
    if t.k = 1 then leW [a, b, c, d] t.n.toNat else if t.k = 2 then leW [a, b, c, d] 1 else if t.k = 5 then packB bits else if t.k = 6 then packB (bits ++ [true])
    else if t.k = 8 then UInt8.ofNat pick.toNat :: ((putL items t.k pick t.ins 0).headD (default, [])).2
    else rowF (begL ((putL items t.k pick t.ins 0).map Prod.fst)).toNat (putL items t.k pick t.ins 0) [] []
def putL : List Vl → Int → Int → List Ty → Nat → List (Ty × List UInt8)
  | [], _, _, _, _ => []
  | x :: xs, k, pick, ins, i => (inTy k pick ins i, putV x (inTy k pick ins i)) :: putL xs k pick ins (i + 1)
end
theorem leR4_len (n : Nat) : (leR n 4).1.length ≤ 4 := by
  unfold leR
  split
  · exact Nat.zero_le _
  · rw [leN_len]; decide
theorem rowF_len (head : Nat) : ∀ (l : List (Ty × List UInt8)) (f th : List UInt8), (rowF head l f th).length ≤ f.length + th.length + (l.map fun p => p.2.length + 4).sum
  | [], f, th => by rw [rowF, List.length_append]; simp
  | (x, s) :: l, f, th => by
    rw [rowF, List.map_cons, List.sum_cons]
    have h4 := leR4_len (head + th.length)
    split
    · have := rowF_len head l (f ++ s) th
      rw [List.length_append] at this
      simp only
      omega
    · have := rowF_len head l (f ++ (leR (head + th.length) 4).1) (th ++ s)
      rw [List.length_append, List.length_append] at this
      simp only
      omega
theorem putV_len (v : Vl) : ∀ t : Ty, (putV v t).length + 4 ≤ 40 * wV v := by
  induction v using Vl.ind with
  | h a b c d bits pb items pi pick ih =>
    intro t
    have key : ∀ (l : List Vl) (i : Nat), (∀ x ∈ l, x ∈ items) → ((putL l t.k pick t.ins i).map fun p => p.2.length + 4).sum ≤ 40 * wL l := by
      intro l
      induction l with
      | nil => intro i _; rw [putL, wL]; exact Nat.zero_le _
      | cons x xs ihl =>
        intro i hs; rw [putL, wL, List.map_cons, List.sum_cons]
        have h1 := ih x (hs x List.mem_cons_self) (inTy t.k pick t.ins i)
        have h2 := ihl (i + 1) fun y hy => hs y (List.mem_cons_of_mem _ hy)
        simp only at h1 ⊢; omega
    have hk := key items 0 fun _ h => h
    have hle : ∀ n, (leW [a, b, c, d] n).length ≤ 32 := fun n => by unfold leW; rw [List.length_take, List.length_reverse, beD_len]; omega
    rw [putV, wV]
    split
    · have := hle t.n.toNat; omega
    · split
      · have := hle 1; omega
      · split
        · rw [packB_len]; omega
        · split
          · rw [packB_len, List.length_append]; simp only [List.length_cons, List.length_nil]; omega
          · split
            · rw [List.length_cons]
              cases items with
              | nil => rw [putL]; simp only [List.headD_nil, List.length_nil]; omega
              | cons x xs =>
                rw [putL, List.headD_cons]
                have h1 := ih x List.mem_cons_self (inTy t.k pick t.ins 0)
                rw [wL]
                simp only
                omega
            · have h1 := rowF_len (begL ((putL items t.k pick t.ins 0).map Prod.fst)).toNat (putL items t.k pick t.ins 0) [] []
              simp only [List.length_nil] at h1; omega
def putR (t : Ty) (v : Vl) : List UInt8 × Int := if fitsT t v ≠ 0 then ([], fitsT t v) else if (putV v t).length > 65536 then ([], 5) else (putV v t, 0)
end Go.Proofs.YtlcbfphioeppaaaGreatDoor
/-! ### Keccak, lane by lane -/
namespace Go.SL
set_option linter.all false
open Go
def SOk (n : Nat) (a : List Nat) : Prop := a.length = n ∧ ∀ x ∈ a, x < 18446744073709551616
theorem SOk.get {n : Nat} {a : List Nat} (h : SOk n a) (j : Nat) : a.getD j 0 < 18446744073709551616 := by
  by_cases hj : j < a.length
  · have : a.getD j 0 ∈ a := by simp [List.getD_eq_getElem?_getD, hj]
    exact h.2 _ this
  · rw [List.getD_eq_getElem?_getD, List.getElem?_eq_none (by omega)]; decide
theorem SOk.set {n : Nat} {a : List Nat} (h : SOk n a) (j : Nat) {x : Nat} (hx : x < 18446744073709551616) : SOk n (a.set j x) :=
  ⟨by rw [List.length_set, h.1], fun y hy => (List.mem_or_eq_of_mem_set hy).elim (h.2 y) fun e => e ▸ hx⟩
def rotN (n k : Nat) : Nat := n * 2 ^ (k % 64) % 18446744073709551616 ||| n / 2 ^ (64 - k % 64)
def cS (a : List Nat) : Nat → List Nat
  | 0 => [0, 0, 0, 0, 0]
  | i + 1 => (cS a i).set (i % 5) ((cS a i).getD (i % 5) 0 ^^^ a.getD i 0)
def mS (c a : List Nat) : Nat → List Nat
  | 0 => a
  | i + 1 => (mS c a i).set i ((mS c a i).getD i 0 ^^^ (c.getD ((i % 5 + 5 - 1) % 5) 0 ^^^ rotN (c.getD ((i % 5 + 1) % 5) 0) 1))
def mixA (a : List Nat) : List Nat := mS (cS a 25) a 25
def z25 : List Nat := [0, 0, 0, 0, 0, 0, 0, 0, 0, 0, 0, 0, 0, 0, 0, 0, 0, 0, 0, 0, 0, 0, 0, 0, 0]
def rS (a b : List Nat) : Nat → List Nat
  | 0 => z25
  | i + 1 => (rS a b i).set (i / 5 + 5 * ((2 * (i % 5) + 3 * (i / 5)) % 5)) (rotN (a.getD i 0) (b.getD i 0))
def chiN (b : List Nat) (i : Nat) : Nat := b.getD i 0 ^^^ ((18446744073709551615 ^^^ b.getD (i - i % 5 + (i % 5 + 1) % 5) 0) &&& b.getD (i - i % 5 + (i % 5 + 2) % 5) 0)
def xS (b a : List Nat) : Nat → List Nat
  | 0 => a
  | i + 1 => (xS b a i).set i (chiN b i)
def iotaA (a : List Nat) (n : Nat) : List Nat := a.set 0 (a.getD 0 0 ^^^ n)
def roundA (by_ a : List Nat) (n : Nat) : List Nat := iotaA (xS (rS (mixA a) by_ 25) (mixA a) 25) n
def turnsL : List Nat := [0, 1, 62, 28, 27, 36, 44, 6, 55, 20, 3, 10, 43, 25, 39, 41, 45, 15, 21, 8, 18, 2, 61, 56, 14]
def numsL : List Nat := [0x0000000000000001, 0x0000000000008082, 0x800000000000808A, 0x8000000080008000, 0x000000000000808B, 0x0000000080000001,
  0x8000000080008081, 0x8000000000008009, 0x000000000000008A, 0x0000000000000088, 0x0000000080008009, 0x000000008000000A,
  0x000000008000808B, 0x800000000000008B, 0x8000000000008089, 0x8000000000008003, 0x8000000000008002, 0x8000000000000080,
  0x000000000000800A, 0x800000008000000A, 0x8000000080008081, 0x8000000000008080, 0x0000000080000001, 0x8000000080008008]
def permS (a : List Nat) : Nat → List Nat
  | 0 => a
  | i + 1 => roundA turnsL (permS a i) (numsL.getD i 0)
def permA (a : List Nat) : List Nat := permS a 24
def abS (a : List Nat) (s : List UInt8) : Nat → List Nat
  | 0 => a
  | i + 1 => (abS a s i).set (i / 8) ((abS a s i).getD (i / 8) 0 ^^^ (s.getD i 0).toNat * 2 ^ (i % 8 * 8))
def sumS (t : List UInt8) : Nat → List Nat
  | 0 => z25
  | j + 1 => permA (abS (sumS t j) (t.drop (136 * j)) 136)
def padL (n : Nat) : List UInt8 := if 136 - n % 136 = 1 then [129] else 1 :: (List.replicate (134 - n % 136) 0 ++ [128])
def outL (a : List Nat) : Nat → List UInt8
  | 0 => []
  | i + 1 => outL a i ++ [UInt8.ofNat (a.getD (i / 8) 0 / 2 ^ (i % 8 * 8) % 256)]
def kec (s : List UInt8) : List UInt8 := outL (sumS (s ++ padL s.length) ((s ++ padL s.length).length / 136)) 32
end Go.SL
namespace Go.Proofs.YtlcbfphioeppaaaGreatDoor
set_option linter.all false
open Go.SL Go.RowKit Go.Shelf
end Go.Proofs.YtlcbfphioeppaaaGreatDoor
namespace Go.Proofs.YtlcbfphioeppaaaGreatDoor
set_option linter.all false
open Go.SL Go.RowKit Go.Shelf
end Go.Proofs.YtlcbfphioeppaaaGreatDoor
namespace Go.Proofs.YtlcbfphioeppaaaGreatDoor
set_option linter.all false
open Go.SL Go.RowKit Go.Shelf
end Go.Proofs.YtlcbfphioeppaaaGreatDoor
namespace Go.Proofs.YtlcbfphioeppaaaGreatDoor
set_option linter.all false
open Go.SL Go.RowKit Go.Shelf
end Go.Proofs.YtlcbfphioeppaaaGreatDoor
namespace Go.Proofs.YtlcbfphioeppaaaGreatDoor
set_option linter.all false
open Go.SL Go.RowKit Go.Shelf
end Go.Proofs.YtlcbfphioeppaaaGreatDoor
namespace Go.Proofs.YtlcbfphioeppaaaGreatDoor
set_option linter.all false
open Go.SL Go.RowKit Go.Shelf
section
variable {c : Cx} {l : List (Nat × Value)} {L : List (Nat × Obj)} {X : XP} {d : List Deferred}
variable {i : Nat} {v : Value} {t : TypeId} {ps : String} {af : Array Edge} {gd : Option (Nat × Bool)} {ty t2 : TypeId}
end
end Go.Proofs.YtlcbfphioeppaaaGreatDoor
namespace Go.Proofs.YtlcbfphioeppaaaGreatDoor
set_option linter.all false
open Go.SL Go.RowKit Go.Shelf
end Go.Proofs.YtlcbfphioeppaaaGreatDoor
namespace Go.Proofs.YtlcbfphioeppaaaGreatDoor
set_option linter.all false
open Go.SL Go.RowKit Go.Shelf
def tXY : Nat → Nat × Nat
  | 0 => (1, 0)
  | t + 1 => ((tXY t).2, (2 * (tXY t).1 + 3 * (tXY t).2) % 5)
def tX (t : Nat) : Nat := (tXY t).1
def tY (t : Nat) : Nat := (tXY t).2
def tS (a : List Nat) : Nat → List Nat
  | 0 => a
  | t + 1 => (tS a t).set (tX t + 5 * tY t) (rotN ((tS a t).getD (tX t + 5 * tY t) 0) ((t + 1) * (t + 2) / 2))
end Go.Proofs.YtlcbfphioeppaaaGreatDoor
namespace Go.Proofs.YtlcbfphioeppaaaGreatDoor
set_option linter.all false
open Go.SL Go.RowKit Go.Shelf
end Go.Proofs.YtlcbfphioeppaaaGreatDoor
namespace Go.Proofs.YtlcbfphioeppaaaGreatDoor
set_option linter.all false
open Go.SL Go.RowKit Go.Shelf
end Go.Proofs.YtlcbfphioeppaaaGreatDoor
namespace Go.Proofs.YtlcbfphioeppaaaGreatDoor
set_option linter.all false
open Go.SL Go.RowKit Go.Shelf
end Go.Proofs.YtlcbfphioeppaaaGreatDoor
/-! ### Rows that rise by byte strings; accounts and states in plain Lean -/
namespace Go.SL
set_option linter.all false
open Go Go.RowKit Go.Shelf
abbrev BS : Type := List UInt8
theorem bl_irr : ∀ a : BS, Op.bytesLess a a = false
  | [] => rfl
  | x :: a => by simp [Op.bytesLess, bl_irr a]
theorem bl_trans : ∀ {a b c : BS}, Op.bytesLess a b = true → Op.bytesLess b c = true → Op.bytesLess a c = true
  | _, [], _, h, _ => by simp [Op.bytesLess] at h
  | _, _ :: _, [], _, h => by simp [Op.bytesLess] at h
  | [], y :: b, z :: c, _, _ => rfl
  | x :: a, y :: b, z :: c, h, h2 => by
    simp only [Op.bytesLess, Bool.or_eq_true, decide_eq_true_eq, Bool.and_eq_true, beq_iff_eq] at h h2 ⊢
    rcases h with h | ⟨rfl, h⟩
    · rcases h2 with h2 | ⟨rfl, h2⟩
      · exact .inl (UInt8.lt_trans h h2)
      · exact .inl h
    · rcases h2 with h2 | ⟨rfl, h2⟩
      · exact .inl h2
      · exact .inr ⟨rfl, bl_trans h h2⟩
theorem bl_tri : ∀ a b : BS, a = b ∨ Op.bytesLess a b = true ∨ Op.bytesLess b a = true
  | [], [] => .inl rfl
  | [], _ :: _ => .inr (.inl rfl)
  | _ :: _, [] => .inr (.inr rfl)
  | x :: a, y :: b => by
    simp only [Op.bytesLess, Bool.or_eq_true, decide_eq_true_eq, Bool.and_eq_true, beq_iff_eq]
    by_cases h1 : x < y
    · exact .inr (.inl (.inl h1))
    by_cases h2 : y < x
    · exact .inr (.inr (.inl h2))
    have e : x = y := UInt8.le_antisymm (UInt8.not_lt.1 h2) (UInt8.not_lt.1 h1)
    subst e
    rcases bl_tri a b with rfl | h | h
    · exact .inl rfl
    · exact .inr (.inl (.inr ⟨rfl, h⟩))
    · exact .inr (.inr (.inr ⟨rfl, h⟩))
theorem bl_ne {a b : BS} (h : Op.bytesLess a b = true) : a ≠ b := by rintro rfl; rw [bl_irr] at h; cases h
theorem bl_not {a b : BS} (h : Op.bytesLess a b = false) (hn : a ≠ b) : Op.bytesLess b a = true := by
  rcases bl_tri a b with h1 | h1 | h1
  · exact absurd h1 hn
  · rw [h] at h1; cases h1
  · exact h1
section
variable {α : Type} (kf : α → BS)
def risesB : List α → Bool
  | [] => true
  | [_] => true
  | x :: y :: l => Op.bytesLess (kf x) (kf y) && risesB (y :: l)
abbrev Sorted (l : List α) : Prop := l.Pairwise fun x y => Op.bytesLess (kf x) (kf y) = true
theorem rises_iff : ∀ l : List α, risesB kf l = true ↔ Sorted kf l
  | [] => by simp [risesB]
  | [_] => by simp [risesB]
  | x :: y :: l => by
    rw [risesB, Bool.and_eq_true, rises_iff (y :: l)]
    refine Iff.trans ?_ List.pairwise_cons.symm
    constructor
    · rintro ⟨h1, h2⟩
      refine ⟨fun z hz => ?_, h2⟩
      rcases List.mem_cons.1 hz with rfl | hz
      · exact h1
      · exact bl_trans h1 ((List.pairwise_cons.1 h2).1 z hz)
    · rintro ⟨h1, h2⟩
      exact ⟨h1 y List.mem_cons_self, h2⟩
def lookL (k : BS) (l : List α) : Option α := l.find? fun x => kf x == k
def insL (x : α) : List α → List α
  | [] => [x]
  | y :: ys => if Op.bytesLess (kf y) (kf x) then y :: insL x ys else if kf y = kf x then x :: ys else x :: y :: ys
def delL (k : BS) (l : List α) : List α := l.filter fun y => !(kf y == k)
variable {kf}
theorem lookL_cons {k : BS} {y : α} {l : List α} : lookL kf k (y :: l) = if kf y = k then some y else lookL kf k l := by
  unfold lookL
  rw [List.find?_cons]
  by_cases h : kf y = k
  · simp [h]
  · rw [if_neg h, show (kf y == k) = false from by simpa using h]
theorem lookL_key {k : BS} {y : α} {l : List α} (h : lookL kf k l = some y) : kf y = k ∧ y ∈ l := ⟨by have := List.find?_some h; simpa using this, List.mem_of_find?_eq_some h⟩
theorem lookL_mem {y : α} : ∀ {l : List α}, Sorted kf l → y ∈ l → lookL kf (kf y) l = some y
  | z :: l, hs, hm => by
    rw [lookL_cons]
    obtain ⟨h1, h2⟩ := List.pairwise_cons.1 hs
    rcases List.mem_cons.1 hm with rfl | hm
    · rw [if_pos rfl]
    · rw [if_neg (bl_ne (h1 y hm)), lookL_mem h2 hm]
theorem ins_mem {x y : α} : ∀ {l : List α}, y ∈ insL kf x l → y = x ∨ y ∈ l
  | [], h => by simpa [insL] using h
  | z :: l, h => by
    unfold insL at h
    split at h
    · rcases List.mem_cons.1 h with rfl | h
      · exact .inr List.mem_cons_self
      · exact (ins_mem h).elim .inl fun h => .inr (List.mem_cons_of_mem _ h)
    · split at h
      · rcases List.mem_cons.1 h with rfl | h
        · exact .inl rfl
        · exact .inr (List.mem_cons_of_mem _ h)
      · exact List.mem_cons.1 h
theorem ins_sorted {x : α} : ∀ {l : List α}, Sorted kf l → Sorted kf (insL kf x l)
  | [], _ => by simp [insL]
  | z :: l, h => by
    obtain ⟨h1, h2⟩ := List.pairwise_cons.1 h
    unfold insL
    split
    · rename_i hz
      refine List.pairwise_cons.2 ⟨fun y hy => ?_, ins_sorted h2⟩
      rcases ins_mem hy with rfl | hy
      · exact hz
      · exact h1 y hy
    · rename_i hz
      split
      · rename_i he
        exact List.pairwise_cons.2 ⟨fun y hy => he ▸ h1 y hy, h2⟩
      · rename_i he
        have hx := bl_not (by simpa using hz) he
        refine List.pairwise_cons.2 ⟨fun y hy => ?_, h⟩
        rcases List.mem_cons.1 hy with rfl | hy
        · exact hx
        · exact bl_trans hx (h1 y hy)
theorem ins_look {x : α} {k : BS} : ∀ {l : List α}, Sorted kf l → lookL kf k (insL kf x l) = if kf x = k then some x else lookL kf k l
  | [], _ => by unfold insL; rw [lookL_cons]
  | z :: l, h => by
    obtain ⟨h1, h2⟩ := List.pairwise_cons.1 h
    unfold insL
    split
    · rename_i hz
      rw [lookL_cons, lookL_cons, ins_look h2]
      by_cases hk : kf z = k
      · subst hk
        rw [if_pos rfl, if_neg (fun e => bl_ne hz e.symm), if_pos rfl]
      · rw [if_neg hk, if_neg hk]
    · split
      · rename_i he
        rw [lookL_cons, lookL_cons, he]
        split <;> rfl
      · rw [lookL_cons]
theorem del_sorted {k : BS} {l : List α} (h : Sorted kf l) : Sorted kf (delL kf k l) := h.filter _
theorem del_look {k j : BS} : ∀ {l : List α}, lookL kf j (delL kf k l) = if k = j then none else lookL kf j l
  | [] => by simp [delL, lookL]
  | z :: l => by
    have ih := del_look (k := k) (j := j) (l := l)
    unfold delL at ih ⊢
    rw [List.filter_cons, lookL_cons]
    by_cases hz : kf z = k
    · subst hz
      rw [if_neg (by simp), ih]
      split
      · rfl
      · rfl
    · rw [if_pos (by simpa using hz), lookL_cons, ih]
      by_cases hj : kf z = j
      · subst hj
        rw [if_pos rfl, if_pos rfl, if_neg (fun e => hz e.symm)]
      · rw [if_neg hj, if_neg hj]
theorem del_mem {k : BS} {l : List α} {y : α} (h : y ∈ delL kf k l) : y ∈ l := (List.mem_filter.1 h).1
end
/-! ### Accounts, states -/
def noneB : BS := List.replicate 32 0
structure W4 : Type where
  a : Nat
  b : Nat
  c : Nat
  d : Nat
deriving DecidableEq
def W4.l (w : W4) : List Nat := [w.a, w.b, w.c, w.d]
def w40 : W4 := ⟨0, 0, 0, 0⟩
def W4.of (l : List Nat) : W4 := ⟨l.getD 0 0, l.getD 1 0, l.getD 2 0, l.getD 3 0⟩
theorem W4.of_l {l : List Nat} (h : l.length = 4) : (W4.of l).l = l := by
  match l, h with
  | [a, b, c, d], _ => rfl
theorem W4.l_inj {x y : W4} (h : x.l = y.l) : x = y := by
  cases x; cases y; simp [W4.l] at h; simp [h]
structure AcE : Type where
  addr : BS
  nonce : Nat
  bal : W4
  code : BS
  slots : List (BS × BS)
deriving DecidableEq
def ac0 : AcE := ⟨[], 0, w40, [], []⟩
def oddS (x : BS × BS) : Bool := decide (x.1.length ≠ 32) || decide (x.2.length ≠ 32)
def spareS (x : BS × BS) : Bool := decide (x.2 = noneB)
def lkE (a : AcE) : Int := if a.addr.length ≠ 20 ∨ a.slots.any oddS = true then 2 else if risesB Prod.fst a.slots = false then 11 else if a.code.length > 512 ∨ a.slots.length > 16 then 5 else if a.slots.any spareS = true then 8 else 0
def stepE (last : Option BS) (a : AcE) : Int := if lkE a ≠ 2 ∧ (∃ b, last = some b ∧ Op.bytesLess b a.addr = false) then 11 else lkE a
instance (last : Option BS) (a : AcE) : Decidable (∃ b, last = some b ∧ Op.bytesLess b a.addr = false) := match last with
  | none => .isFalse (by simp)
  | some b => if h : Op.bytesLess b a.addr = false then .isTrue ⟨b, rfl, h⟩ else .isFalse (by simpa using h)
def goS : Option BS → List AcE → Int
  | _, [] => 0
  | last, a :: l => if stepE last a ≠ 0 then stepE last a else goS (some a.addr) l
def chkS (s : List AcE) : Int := if s.length > 32 then 5 else goS none s
def findS (s : List AcE) (k : BS) : Option AcE := lookL AcE.addr k s
def slotE (a : AcE) (k : BS) : BS := match lookL Prod.fst k a.slots with
  | some x => x.2
  | none => noneB
def withE (l : List (BS × BS)) (k v : BS) : List (BS × BS) := if v = noneB then delL Prod.fst k l else insL Prod.fst (k, v) l
def setE (a : AcE) (k v : BS) : AcE × Int := if lkE a ≠ 0 then (a, lkE a) else if k.length ≠ 32 ∨ v.length ≠ 32 then (a, 2) else if (withE a.slots k v).length > 16 then (a, 5) else ({ a with slots := withE a.slots k v }, 0)
theorem look_ok {a : AcE} (h : lkE a = 0) : a.addr.length = 20 ∧ (∀ x ∈ a.slots, x.1.length = 32 ∧ x.2.length = 32 ∧ x.2 ≠ noneB) ∧ Sorted Prod.fst a.slots ∧ a.code.length ≤ 512 ∧ a.slots.length ≤ 16 := by
  unfold lkE at h
  split at h
  · cases h
  rename_i h1
  split at h
  · cases h
  rename_i h2
  split at h
  · cases h
  rename_i h3
  split at h
  · cases h
  rename_i h4
  simp only [not_or, Decidable.not_not] at h1 h3
  refine ⟨h1.1, fun x hx => ?_, (rises_iff _ _).1 (by simpa using h2), by omega, by omega⟩
  have a1 := h1.2
  simp only [Bool.not_eq_true, List.any_eq_false] at a1 h4
  have := a1 x hx
  have h5 := h4 x hx
  unfold oddS at this
  unfold spareS at h5
  simp at this h5
  exact ⟨this.1, this.2, h5⟩
theorem look_of {a : AcE} (h1 : a.addr.length = 20) (h2 : ∀ x ∈ a.slots, x.1.length = 32 ∧ x.2.length = 32 ∧ x.2 ≠ noneB) (h3 : Sorted Prod.fst a.slots) (h4 : a.code.length ≤ 512) (h5 : a.slots.length ≤ 16) : lkE a = 0 := by
  unfold lkE
  have e1 : ¬ a.slots.any oddS = true := by
    simp only [Bool.not_eq_true, List.any_eq_false]
    intro x hx
    obtain ⟨a1, a2, _⟩ := h2 x hx
    simp [oddS, a1, a2]
  have e2 : ¬ a.slots.any spareS = true := by
    simp only [Bool.not_eq_true, List.any_eq_false]
    intro x hx
    obtain ⟨_, _, a3⟩ := h2 x hx
    simp [spareS, a3]
  have e3 := (rises_iff Prod.fst a.slots).2 h3
  rw [if_neg (fun h => h.elim (fun h => h h1) e1), if_neg (by rw [e3]; simp), if_neg (by omega), if_neg e2]
theorem step_ok {last : Option BS} {a : AcE} : stepE last a = 0 ↔ lkE a = 0 ∧ ∀ b, last = some b → Op.bytesLess b a.addr = true := by
  unfold stepE
  split
  · rename_i h
    obtain ⟨h1, b, h2, h3⟩ := h
    constructor
    · intro h; cases h
    · rintro ⟨_, h⟩; rw [h b h2] at h3; cases h3
  · rename_i h
    constructor
    · intro h0
      refine ⟨h0, fun b hb => ?_⟩
      cases h4 : Op.bytesLess b a.addr
      · exact absurd ⟨by omega, b, hb, h4⟩ h
      · rfl
    · exact fun h => h.1
theorem go_ok : ∀ {last : Option BS} {s : List AcE}, goS last s = 0 ↔ (∀ a ∈ s, lkE a = 0) ∧ Sorted AcE.addr s ∧ (∀ b, last = some b → ∀ a ∈ s, Op.bytesLess b a.addr = true)
  | last, [] => by simp [goS]
  | last, a :: l => by
    rw [goS]
    split
    · rename_i h
      constructor
      · intro h0; exact absurd h0 h
      · rintro ⟨h1, h2, h3⟩
        exact absurd (step_ok.2 ⟨h1 a List.mem_cons_self, fun b hb => h3 b hb a List.mem_cons_self⟩) h
    · rename_i h
      have h := step_ok.1 (Decidable.not_not.1 h)
      rw [go_ok]
      constructor
      · rintro ⟨h1, h2, h3⟩
        refine ⟨fun x hx => ?_, List.pairwise_cons.2 ⟨fun x hx => h3 _ rfl x hx, h2⟩, fun b hb x hx => ?_⟩
        · rcases List.mem_cons.1 hx with rfl | hx
          · exact h.1
          · exact h1 x hx
        · rcases List.mem_cons.1 hx with rfl | hx
          · exact h.2 b hb
          · exact bl_trans (h.2 b hb) (h3 _ rfl x hx)
      · rintro ⟨h1, h2, h3⟩
        obtain ⟨h4, h5⟩ := List.pairwise_cons.1 h2
        exact ⟨fun x hx => h1 x (List.mem_cons_of_mem _ hx), h5, fun b hb x hx => by cases hb; exact h4 x hx⟩
theorem chk_ok {s : List AcE} : chkS s = 0 ↔ s.length ≤ 32 ∧ (∀ a ∈ s, lkE a = 0) ∧ Sorted AcE.addr s := by
  unfold chkS
  split
  · constructor
    · intro h; cases h
    · rintro ⟨h, _⟩; omega
  · rw [go_ok]
    constructor
    · rintro ⟨h1, h2, _⟩; exact ⟨by omega, h1, h2⟩
    · rintro ⟨_, h1, h2⟩; exact ⟨h1, h2, by simp⟩
end Go.SL
/-! ### Calls that turn blocks, read known ones and lay new ones; copies -/
namespace Go.SL
set_option linter.all false
open Go Go.RowKit Go.Shelf
open Go.Proofs (Enters enters_of)
/-- The blocks of T may be turned (or left), those of Rl are read, those of LL hold the result. -/
structure PureT {α : Type} (P : Program) (f : FuncId) (args : Array Value) (V : α → Value) (T : List (Nat × Obj)) (LL : α → List (Nat × Obj)) (Rl : List (Nat × Obj)) : Prop where
  run : ∀ w, Has T w → Has Rl w → (T.Pairwise fun p q => p.1 ≠ q.1) → (∀ p ∈ Rl, ∀ q ∈ T, p.1 ≠ q.1) → Calls P f args w fun e w' => ∃ x, e = .returned (V x) ∧ Keep (T.map (·.1)) w w' ∧ (∀ p ∈ LL x, (p.1 ∈ T.map (·.1) ∨ w.heap.size ≤ p.1) ∧ w'.heap[p.1]? = some p.2) ∧ (LL x).Pairwise fun p q => p.1 ≠ q.1
def cxT (P : Program) (w : World) (T Rl : List (Nat × Obj)) (n : Nat) : Cx := ⟨P, none, w, T.map (·.1), [], Rl, n⟩
theorem St.startT {P : Program} {w : World} {n : Nat} {T Rl : List (Nat × Obj)} (hT : Has T w) (hR : Has Rl w) (hd : T.Pairwise fun p q => p.1 ≠ q.1) (hne : ∀ p ∈ Rl, ∀ q ∈ T, p.1 ≠ q.1) : St (cxT P w T Rl n) T (fun _ _ => True) w :=
  ⟨Keep.refl _ _, fun p hp => ⟨.inl (List.mem_map.2 ⟨p, hp, rfl⟩), by simp [cxT], hT p hp⟩, hd, fun p hp => ⟨fun h => by obtain ⟨q, hq, e⟩ := List.mem_map.1 h; exact hne p hp q hq e.symm, by simp [cxT], hR p hp⟩, by simp [cxT], ⟨[], by simp, fun _ _ => trivial⟩⟩
theorem pureT_of_HC {α : Type} {P : Program} {f : FuncId} {fn : Func} {code : Code} {vs : List Value} {V : α → Value} {T Rl : List (Nat × Obj)} {LL : α → List (Nat × Obj)} (hf : P.funcs[f]? = some fn) (hb : fn.body = some code) (hlen : Nat.ble vs.length fn.ntmps = true)
    (h : ∀ w, HC (cxT P w T Rl fn.ntmps) [] (frame0 0 vs) T (fun _ _ => True) code (bodyPostM (FW none) 0 P fn (fun e w' => ∃ x, e = .returned (V x) ∧ St (cxT P w T Rl fn.ntmps) (LL x) (fun _ _ => True) w'))) : PureT P f vs.toArray V T LL Rl := ⟨fun w hT hR hd hne =>
  (calls_of_HC (cxT P w T Rl fn.ntmps) hf hb rfl rfl rfl hlen (St.startT hT hR hd hne) (h w)).mono fun _ _ ⟨x, he, hs⟩ => ⟨x, he, by have := hs.keep; simpa [cxT] using this, fun p hp => ⟨(hs.own p hp).1, (hs.own p hp).2.2⟩, hs.distinct⟩⟩
section
variable {c : Cx} {l : List (Nat × Value)} {L : List (Nat × Obj)} {X : XP} {Q : Exit → Act → World → Prop} {d : List Deferred}
variable {ops : Array Oper} {rest : List Oper} {i : Nat} {v : Value} {t : TypeId} {ps : String} {af : Array Edge} {gd : Option (Nat × Bool)} {ty t2 : TypeId}
theorem St.turnT {T L0 LL : List (Nat × Obj)} {w w' : World} (hs : St c (T ++ L0) X w) (hk : Keep (T.map (·.1)) w w') (hL : ∀ p ∈ LL, (p.1 ∈ T.map (·.1) ∨ w.heap.size ≤ p.1) ∧ w'.heap[p.1]? = some p.2) (hd : LL.Pairwise fun p q => p.1 ≠ q.1) : St c (LL ++ L0) X w' := by
  have hT : ∀ p ∈ T, p ∈ T ++ L0 := fun p hp => List.mem_append_left _ hp
  have hle := hs.keep.size
  obtain ⟨hd1, hd2, hd3⟩ := List.pairwise_append.1 hs.distinct
  have hin : ∀ k ∈ T.map (·.1), ∃ p ∈ T, p.1 = k := fun k hk => by obtain ⟨p, hp, e⟩ := List.mem_map.1 hk; exact ⟨p, hp, e⟩
  refine ⟨hs.keep.glue hk ?_, fun p hp => ?_, ?_, hs.ext, hs.xlt, ?_⟩
  · intro k hk
    obtain ⟨p, hp, rfl⟩ := hin k hk
    exact (hs.own p (hT p hp)).1.imp (fun h => List.mem_append_left _ h) id
  · rcases List.mem_append.1 hp with hp | hp
    · obtain ⟨h1, h2⟩ := hL p hp
      rcases h1 with h1 | h1
      · obtain ⟨q, hq, e⟩ := hin _ h1
        obtain ⟨g1, g2, _⟩ := hs.own q (hT q hq)
        rw [e] at g1 g2
        exact ⟨g1, g2, h2⟩
      · exact ⟨.inr (by omega), fun hx => (by have := hs.xlt _ hx; omega), h2⟩
    · obtain ⟨g1, g2, g3⟩ := hs.own p (List.mem_append_right _ hp)
      refine ⟨g1, g2, ?_⟩
      rw [hk.block _ (lt_of_some g3) (fun h => by obtain ⟨q, hq, e⟩ := hin _ h; exact hd3 q hq p hp e)]
      exact g3
  · refine List.pairwise_append.2 ⟨hd, hd2, fun p hp q hq => ?_⟩
    rcases (hL p hp).1 with h1 | h1
    · obtain ⟨u, hu, e⟩ := hin _ h1
      rw [← e]; exact hd3 u hu q hq
    · have := lt_of_some (hs.own q (List.mem_append_right _ hq)).2.2
      omega
  · obtain ⟨xs, e1, e2⟩ := hs.x
    refine ⟨xs, fun k hkx => ?_, fun w2 hw2 => e2 w2 fun k hkx => (hw2 k hkx).trans (hk.block k (e1 k hkx).2.1 (fun h => by obtain ⟨q, hq, e⟩ := hin _ h; exact (e1 k hkx).2.2 q (hT q hq) e))⟩
    obtain ⟨a1, a2, a3⟩ := e1 k hkx
    refine ⟨a1, Nat.lt_of_lt_of_le a2 hk.size, fun p hp => ?_⟩
    rcases List.mem_append.1 hp with hp | hp
    · rcases (hL p hp).1 with h1 | h1
      · obtain ⟨u, hu, e⟩ := hin _ h1
        rw [← e]; exact a3 u (hT u hu)
      · omega
    · exact a3 p (List.mem_append_right _ hp)
/-- A call that may turn the blocks of T (they lie in L), reads Rl and hands back LL. -/
theorem HL_callT {α : Type} {T L0 Rl : List (Nat × Obj)} {f : Operand} {args : Array Operand} {at_ : Array TypeId} {g : FuncId} {vs : List Value} {V : α → Value} {LL : α → List (Nat × Obj)}
    (hp : L.Perm (T ++ L0)) (hg : goes l ops ⟨some i, .call ⟨.value f, args, at_⟩, ty, ps, af, gd⟩ = some true) (hi : Nat.ble (i + 1) c.n = true) (hca : callArgs l f args = some (g, vs)) (eg : Enters c.P g)
    (hpt : PureT c.P g vs.toArray V T LL Rl) (hR : ∀ p ∈ Rl, known c L0 p.1 p.2) (h : ∀ x, HL c d ((i, V x) :: l) (LL x ++ L0) X ops rest Q) : HL c d l L X ops (⟨some i, .call ⟨.value f, args, at_⟩, ty, ps, af, gd⟩ :: rest) Q :=
  HL_callE (V := V) (L' := fun x => LL x ++ L0) (X' := fun _ => X) hg hi hca eg (fun w hs => by
    have hs := hs.perm hp
    obtain ⟨hd1, _, hd3⟩ := List.pairwise_append.1 hs.distinct
    refine (hpt.run w (fun p hp => (hs.own p (List.mem_append_left _ hp)).2.2) (fun p hp => ?_) hd1 (fun p hp q hq => ?_)).mono fun _ _ ⟨x, he, hk, h1, h2⟩ => ⟨x, he, hs.turnT hk h1 h2⟩
    · exact (hR p hp).elim (fun h => (hs.own _ (List.mem_append_right _ h)).2.2) hs.readR
    · rcases hR p hp with h | h
      · exact fun e => hd3 q hq _ h e.symm
      · rintro e
        obtain ⟨h1, _, h3⟩ := hs.ext _ h
        have h3 := lt_of_some h3
        rcases (hs.own q (List.mem_append_left _ hq)).1 with h4 | h4
        · exact h1 (e ▸ h4)
        · simp only at h3 e; omega) h
/-- Nothing is turned. -/
theorem HL_callRE {α : Type} {Rl : List (Nat × Obj)} {f : Operand} {args : Array Operand} {at_ : Array TypeId} {g : FuncId} {vs : List Value} {V : α → Value} {LL : α → List (Nat × Obj)}
    (hg : goes l ops ⟨some i, .call ⟨.value f, args, at_⟩, ty, ps, af, gd⟩ = some true) (hi : Nat.ble (i + 1) c.n = true) (hca : callArgs l f args = some (g, vs)) (eg : Enters c.P g)
    (hpt : PureT c.P g vs.toArray V [] LL Rl) (hR : ∀ p ∈ Rl, known c L p.1 p.2) (h : ∀ x, HL c d ((i, V x) :: l) (LL x ++ L) X ops rest Q) : HL c d l L X ops (⟨some i, .call ⟨.value f, args, at_⟩, ty, ps, af, gd⟩ :: rest) Q :=
  HL_callT (T := []) (L0 := L) (List.Perm.refl _) hg hi hca eg hpt hR h
theorem PureR.toT {P : Program} {f : FuncId} {args : Array Value} {v : Value} {Rl : List (Nat × Obj)} (h : PureR P f args v Rl) : PureT (α := Unit) P f args (fun _ => v) [] (fun _ => []) Rl :=
  ⟨fun w _ hR _ _ => (h.run w hR).mono fun _ _ ⟨he, hk⟩ => ⟨(), he, hk, by simp, List.Pairwise.nil⟩⟩
/-- The same result, told otherwise. -/
theorem PureT.map {α β : Type} {P : Program} {f : FuncId} {args : Array Value} {V : α → Value} {V' : β → Value} {T Rl : List (Nat × Obj)} {LL : α → List (Nat × Obj)} {LL' : β → List (Nat × Obj)} (h : PureT P f args V T LL Rl) (g : α → β) (hv : ∀ x, V x = V' (g x)) (hl : ∀ x, (LL' (g x)).Sublist (LL x)) : PureT P f args V' T LL' Rl :=
  ⟨fun w hT hR hd hne => (h.run w hT hR hd hne).mono fun _ _ ⟨x, he, hk, h1, h2⟩ => ⟨g x, he.trans (by rw [hv]), hk, fun p hp => h1 p ((hl x).subset hp), h2.sublist (hl x)⟩⟩
end
end Go.SL
/-! ### The arguments of a law: rows, types, values -/
namespace Go.SL
set_option linter.all false
open Go Go.RowKit Go.Shelf Go.ChangeShapes Go.WideShapes
section
variable {H : Type} {enc : TypeId × Value → H} {P : Program} {w : World} {base : Nat} {sp : Nat → Bool} {held : Bool}
theorem cells_get {a : Addr} {m : Nat} {cs : List Value} (h : w.cells? base a m = some cs) : cs.length = m ∧ ∀ i, i < m → w.cell? (a.add i) = cs[i]? := by
  unfold World.cells? at h
  split at h
  · exact ⟨by simpa using mapM_some_length h, fun i hi => mapM_some_get h i i (by simp [hi])⟩
  · cases h
theorem cell_block {a : Addr} {v : Value} (h : w.cell? a = some v) : a.spot = none ∧ ∃ all e fr, w.heap[a.block]? = some (.cells all e fr) ∧ all[a.off]? = some v := by
  unfold World.cell? at h
  split at h
  · rename_i c e fr hc
    split at h
    · cases h
    · rename_i hs
      exact ⟨by simpa using hs, c, e, fr, hc, h⟩
  · cases h
theorem cells_take {b o m : Nat} {cs : List Value} {all : Array Value} {e : TypeId} {fr : Nat × Nat} (h : w.cells? base ⟨b, o, none⟩ m = some cs) (hb : w.heap[b]? = some (.cells all e fr)) : (all.toList.drop o).take m = cs := by
  obtain ⟨hl, hg⟩ := cells_get h
  apply List.ext_getElem?
  intro i
  rw [List.getElem?_take]
  split
  · rename_i hi
    rw [← hg i hi, add_none, List.getElem?_drop, Array.getElem?_toList]
    simp only [World.cell?, hb]
    rfl
  · rename_i hi
    rw [List.getElem?_eq_none (by omega)]
theorem cat_take {α : Type} {f : α → List Value} {m b : Nat} {all : Array Value} {e : TypeId} {fr : Nat × Nat} (hb : w.heap[b]? = some (.cells all e fr)) :
    ∀ (l : List α) (o : Nat), (∀ i x, l[i]? = some x → w.cells? base ⟨b, o + i * m, none⟩ m = some (f x)) → (all.toList.drop o).take (l.length * m) = l.flatMap f
  | [], o, _ => by simp
  | y :: l, o, h => by
    have h0 := cells_take (h 0 y rfl) hb
    have hr := cat_take hb l (o + m) (fun i x hx => by
      have := h (i + 1) x hx
      rwa [Nat.succ_mul, Nat.add_comm (i * m) m, ← Nat.add_assoc] at this)
    rw [Nat.zero_mul, Nat.add_zero] at h0
    rw [List.length_cons, Nat.succ_mul, Nat.add_comm, List.take_add, h0, List.drop_drop, hr, List.flatMap_cons]
theorem seg_of_cells {α : Type} {f : α → List Value} {m : Nat} (hm : 0 < m) (hf : ∀ x, (f x).length = m) {l : List α} {a : Addr} {cap : Nat} (hle : l.length ≤ cap) (h : ∀ i x, l[i]? = some x → w.cells? base (a.add (i * m)) m = some (f x)) :
    Seg (allB w) l.length (l.flatMap f) (some (a, cap)) := by
  refine ⟨hle, fun h0 => ?_⟩
  obtain ⟨y, hy⟩ : ∃ y, l[0]? = some y := ⟨_, List.getElem?_eq_getElem h0⟩
  have h1 := h 0 y hy
  rw [Nat.zero_mul] at h1
  have e0 : a.add 0 = a := by simp [Addr.add]
  rw [e0] at h1
  obtain ⟨hl, hg⟩ := cells_get h1
  have h2 := hg 0 hm
  rw [e0] at h2
  obtain ⟨v, hv⟩ : ∃ v, (f y)[0]? = some v := ⟨_, List.getElem?_eq_getElem (by omega)⟩
  rw [hv] at h2
  obtain ⟨hs, all, e, fr, hb, _⟩ := cell_block h2
  refine ⟨hs, all, e, fr, mem_allB hb, ?_⟩
  rw [cat_len hf]
  refine cat_take (base := base) hb l a.off fun i x hx => ?_
  have := h i x hx
  have e1 : a.add (i * m) = ⟨a.block, a.off + i * m, none⟩ := by
    obtain ⟨b, o, s⟩ := a
    have : s = none := hs
    subst this
    exact add_none _ _ _
  rwa [e1] at this
theorem choose_list {α : Type} {Q : Nat → α → Prop} : ∀ (n : Nat), (∀ i, i < n → ∃ x, Q i x) → ∃ l : List α, l.length = n ∧ ∀ i x, l[i]? = some x → Q i x
  | 0, _ => ⟨[], rfl, fun i x h => by simp at h⟩
  | n + 1, h => by
    obtain ⟨l, hl, hq⟩ := choose_list n (fun i hi => h i (by omega))
    obtain ⟨x, hx⟩ := h n (by omega)
    refine ⟨l ++ [x], by simp [hl], fun i y hy => ?_⟩
    rw [List.getElem?_append] at hy
    split at hy
    · exact hq i y hy
    · rename_i hi
      have hn : i = n := by
        have := (List.getElem?_eq_some_iff.1 hy).1
        simp at this; omega
      subst hn
      rw [hl, Nat.sub_self] at hy
      obtain rfl : x = y := by simpa using hy
      exact hx
/-- A slice is opened. -/
theorem open_row_of {α : Type} {f : α → List Value} {ok : α → Prop} {m t e fuel : Nat} {cs : List Value} {x : DataW H × List MemPlace} (hm : 0 < m) (hf : ∀ x, (f x).length = m) (ht : P.underlying t = some (.slice e)) (hc : P.cellsOf e = m)
    (hE : ∀ n, n < fuel → ∀ cs x, DataW.trod enc P w base sp held n e cs = some x → ∃ y, cs = f y ∧ ok y)
    (h : DataW.trod enc P w base sp held fuel t cs = some x) : ∃ (l : List α) (p : Pl), cs = [plV l.length p] ∧ Seg (allB w) l.length (l.flatMap f) p ∧ l.length ≤ 9223372036854775807 ∧ ∀ y ∈ l, ok y := by
  rcases DataW.trod_slice ht h with ⟨rfl, _⟩ | ⟨a, len, cap, elems, rest, n, hn, rfl, _, _, hlc, hcm, hlen, hel, _⟩
  · exact ⟨[], none, rfl, rfl, by simp, fun y hy => by simp at hy⟩
  · have hex : ∀ i, i < len → ∃ y, w.cells? base (a.add (i * m)) m = some (f y) ∧ ok y := by
      intro i hi
      have h1 := hel i hi
      rw [hc] at h1
      obtain ⟨z, hz⟩ : ∃ z, elems[i]? = some z := ⟨_, List.getElem?_eq_getElem (by omega)⟩
      rw [hz, Option.bind_eq_some_iff] at h1
      obtain ⟨cs1, h2, h3⟩ := h1
      obtain ⟨y, rfl, hy⟩ := hE n (by omega) _ _ h3
      exact ⟨y, h2, hy⟩
    obtain ⟨l, rfl, hq⟩ := choose_list len hex
    have hcap : cap ≤ 9223372036854775807 := by simpa [maxLen] using hcm
    refine ⟨l, some (a, cap), rfl, seg_of_cells hm hf hlc (fun i y hy => (hq i y hy).1), by omega, fun y hy => ?_⟩
    obtain ⟨i, hi, rfl⟩ := List.mem_iff_getElem.1 hy
    exact (hq i _ (List.getElem?_eq_getElem hi)).2
/-- A struct is opened, field by field. -/
theorem trod_field {t tf off m fuel i : Nat} {fs : Array Field} {cs : List Value} {x : DataW H × List MemPlace} (ht : P.underlying t = some (.struct fs)) (hi : (fs[i]?).map (fun f => (f.type, f.offset)) = some (tf, off)) (hm : P.cellsOf tf = m)
    (h : DataW.trod enc P w base sp held fuel t cs = some x) : ∃ n y, n < fuel ∧ DataW.trod enc P w base sp held n tf ((cs.drop off).take m) = some y := by
  obtain ⟨xs, n, rfl, _, _, hl, hg⟩ := DataW.trod_struct ht h
  obtain ⟨f, hf, he⟩ := Option.map_eq_some_iff.1 hi
  obtain ⟨rfl, rfl⟩ := Prod.mk.inj he
  have hi2 : i < xs.length := by rw [hl]; exact (Array.getElem?_eq_some_iff.1 hf).1
  subst hm
  exact ⟨n, xs[i], by omega, by rw [hg i f hf]; exact List.getElem?_eq_getElem hi2⟩
theorem trod_size {t m fuel : Nat} {fs : Array Field} {cs : List Value} {x : DataW H × List MemPlace} (ht : P.underlying t = some (.struct fs)) (hm : P.cellsOf t = m) (h : DataW.trod enc P w base sp held fuel t cs = some x) : cs.length = m := by
  obtain ⟨xs, n, rfl, _, hl, _, _⟩ := DataW.trod_struct ht h
  rw [hl, hm]
theorem trod_i64 {t fuel : Nat} {cs : List Value} {x : DataW H × List MemPlace} (ht : P.underlying t = some (.int .i64)) (h : DataW.trod enc P w base sp held fuel t cs = some x) : ∃ n, cs = [.int .i64 n] ∧ I64 n := by
  obtain ⟨n, rfl, _, hw⟩ := DataW.trod_int ht h
  exact ⟨n, rfl, bounds_i64 hw⟩
theorem okWide_vals {t : Nat} {fs : Array Field} {r : Reach} {b0 : Nat} {v : Value} (ht : P.underlying t = some (.struct fs)) (h : Value.okWide P w r b0 t v) {cs : List Value} (hc : v.cells.toList = cs) : v = .agg cs.toArray := by
  obtain ⟨c1, rfl, _⟩ := okWide_struct ht h
  subst hc
  simp [Value.cells]
/-- A type. -/
theorem open_ty {tT tS tI fuel : Nat} {fs : Array Field} (ht : P.underlying tT = some (.struct fs)) (hT : P.cellsOf tT = 3) (h0 : (fs[0]?).map (fun f => (f.type, f.offset)) = some (tI, 0)) (h1 : (fs[1]?).map (fun f => (f.type, f.offset)) = some (tI, 1)) (h2 : (fs[2]?).map (fun f => (f.type, f.offset)) = some (tS, 2))
    (hI : P.underlying tI = some (.int .i64)) (hIc : P.cellsOf tI = 1) (hS : P.underlying tS = some (.slice tT)) (hSc : P.cellsOf tS = 1) :
    ∀ {cs : List Value} {x : DataW H × List MemPlace}, DataW.trod enc P w base sp held fuel tT cs = some x → ∃ T : Ty, cs = T.cells ∧ Ty.In (allB w) T := by
  induction fuel using Nat.strongRecOn with
  | _ fuel ih =>
    intro cs x h
    have hl := trod_size ht hT h
    match cs, hl with
    | [a, b, c], _ =>
      obtain ⟨n0, y0, _, e0⟩ := trod_field ht h0 hIc h
      obtain ⟨n1, y1, _, e1⟩ := trod_field ht h1 hIc h
      obtain ⟨n2, y2, l2, e2⟩ := trod_field ht h2 hSc h
      obtain ⟨k, ek, hk⟩ := trod_i64 hI e0
      obtain ⟨n, en, hn⟩ := trod_i64 hI e1
      obtain ⟨l, p, ep, hs, hlen, hok⟩ := open_row_of (f := Ty.cells) (ok := Ty.In (allB w)) (by decide) Ty.len hS hT (fun m hm cs x hx => ih m (by omega) hx) e2
      obtain rfl : a = .int .i64 k := by simpa using ek
      obtain rfl : b = .int .i64 n := by simpa using en
      obtain rfl : c = plV l.length p := by simpa using ep
      exact ⟨.mk k n p l, rfl, .mk hk hn hlen hs hok⟩
theorem open_tyA {r : Reach} {b0 tT tS tI : Nat} {fs : Array Field} {v : Value} {d : DataW H} {ps : List MemPlace} (ht : P.underlying tT = some (.struct fs)) (hT : P.cellsOf tT = 3) (h0 : (fs[0]?).map (fun f => (f.type, f.offset)) = some (tI, 0)) (h1 : (fs[1]?).map (fun f => (f.type, f.offset)) = some (tI, 1)) (h2 : (fs[2]?).map (fun f => (f.type, f.offset)) = some (tS, 2))
    (hI : P.underlying tI = some (.int .i64)) (hIc : P.cellsOf tI = 1) (hS : P.underlying tS = some (.slice tT)) (hSc : P.cellsOf tS = 1) (hval : Value.okWide P w r b0 tT v) (hd : DataW.Trod enc P w base sp held tT v d ps) : ∃ T : Ty, v = T.val ∧ Ty.In (allB w) T := by
  obtain ⟨fuel, hf⟩ := hd
  obtain ⟨T, e, hin⟩ := open_ty ht hT h0 h1 h2 hI hIc hS hSc hf
  exact ⟨T, okWide_vals ht hval e, hin⟩
end
end Go.SL
/-! ### Records, accounts and states in the heap -/
namespace Go.SL
set_option linter.all false
open Go Go.RowKit Go.Shelf Go.ChangeShapes Go.WideShapes
open Go.Proofs (Enters enters_of)
abbrev strV (s : BS) : Value := .string (bs s)
structure W4.ok (w : W4) : Prop where
  a : U64 w.a
  b : U64 w.b
  c : U64 w.c
  d : U64 w.d
theorem W4.ok.wok {w : W4} (h : w.ok) : WOk w.l := ⟨rfl, fun x hx => by
  unfold W4.l at hx
  simp only [List.mem_cons, List.not_mem_nil, or_false] at hx
  rcases hx with rfl | rfl | rfl | rfl
  · exact h.a
  · exact h.b
  · exact h.c
  · exact h.d⟩
theorem u64_0 : U64 0 := by unfold U64; decide
/-! Records -/
structure Rec : Type where
  number : Nat
  time : Nat
  base : W4
  blob : W4
  overhead : W4
  scalar : Nat
  extra : Nat
  operator : Nat
deriving DecidableEq
def rec0 : Rec := ⟨0, 0, w40, w40, w40, 0, 0, 0⟩
def Rec.nats (r : Rec) : List Nat := [r.number, r.time, r.base.a, r.base.b, r.base.c, r.base.d, r.blob.a, r.blob.b, r.blob.c, r.blob.d, r.overhead.a, r.overhead.b, r.overhead.c, r.overhead.d, r.scalar, r.extra, r.operator]
def Rec.cells (r : Rec) : List Value := r.nats.map uV
def Rec.val (r : Rec) : Value := .agg r.cells.toArray
theorem Rec.len (r : Rec) : r.cells.length = 17 := rfl
theorem Rec.one (r : Rec) : r.cells.all oneB = true := rfl
structure Rec.ok (r : Rec) : Prop where
  number : U64 r.number
  time : U64 r.time
  base : r.base.ok
  blob : r.blob.ok
  overhead : r.overhead.ok
  scalar : U64 r.scalar
  extra : U64 r.extra
  operator : U64 r.operator
/-! Slots, accounts, states -/
def slC (x : BS × BS) : List Value := [strV x.1, strV x.2]
def slsC (l : List (BS × BS)) : List Value := l.flatMap slC
abbrev maxS : Nat := 9223372036854775807
structure AcL : Type where
  addr : BS
  nonce : Nat
  bal : W4
  code : BS
  slots : List (BS × BS)
  p : Pl
def AcL.cells (a : AcL) : List Value := [strV a.addr, uV a.nonce, uV a.bal.a, uV a.bal.b, uV a.bal.c, uV a.bal.d, strV a.code, plV a.slots.length a.p]
def AcL.val (a : AcL) : Value := .agg a.cells.toArray
def AcL.er (a : AcL) : AcE := ⟨a.addr, a.nonce, a.bal, a.code, a.slots⟩
theorem AcL.len (a : AcL) : a.cells.length = 8 := rfl
theorem AcL.one (a : AcL) : a.cells.all oneB = true := rfl
structure AcL.In (R : List (Nat × Obj)) (a : AcL) : Prop where
  addr : a.addr.length ≤ maxS
  nonce : U64 a.nonce
  bal : a.bal.ok
  code : a.code.length ≤ maxS
  len : a.slots.length ≤ maxS
  seg : Seg R a.slots.length (slsC a.slots) a.p
  slots : ∀ x ∈ a.slots, x.1.length ≤ maxS ∧ x.2.length ≤ maxS
theorem AcL.In.mono {R R' : List (Nat × Obj)} {a : AcL} (h : a.In R) (hs : ∀ q ∈ R, q ∈ R') : a.In R' := ⟨h.addr, h.nonce, h.bal, h.code, h.len, h.seg.mono hs, h.slots⟩
def acsC (l : List AcL) : List Value := l.flatMap AcL.cells
structure StL : Type where
  accts : List AcL
  p : Pl
def StL.cells (s : StL) : List Value := [plV s.accts.length s.p]
def StL.val (s : StL) : Value := .agg s.cells.toArray
def StL.er (s : StL) : List AcE := s.accts.map AcL.er
structure StL.In (R : List (Nat × Obj)) (s : StL) : Prop where
  len : s.accts.length ≤ maxS
  seg : Seg R s.accts.length (acsC s.accts) s.p
  accts : ∀ a ∈ s.accts, a.In R
theorem StL.In.mono {R R' : List (Nat × Obj)} {s : StL} (h : s.In R) (hs : ∀ q ∈ R, q ∈ R') : s.In R' := ⟨h.len, h.seg.mono hs, fun a ha => (h.accts a ha).mono hs⟩
section
variable {c : Cx} {l : List (Nat × Value)} {L : List (Nat × Obj)} {X : XP} {d : List Deferred} {i : Nat} {t : TypeId} {ps : String} {af : Array Edge} {gd : Option (Nat × Bool)} {ty : TypeId}
end
/-! ### The arguments of a law -/
section
variable {H : Type} {enc : TypeId × Value → H} {P : Program} {w : World} {base : Nat} {sp : Nat → Bool} {held : Bool}
end
end Go.SL
/-! ### Layouts in plain Lean -/
namespace Go.SL
set_option linter.all false
open Go Go.RowKit Go.Shelf
theorem be_unf {l : List Nat} (hl : WOk l) : unfW (beD l 32) = l := by
  have : unfW (beD l 32) = stW (dg l) 32 := stW_congr fun i hi => by
    have h := beD_get l (n := 32) (m := 31 - i) (by omega)
    have e : 32 - 1 - (31 - i) = i := by omega
    rw [e] at h
    rw [List.getD_eq_getElem?_getD, h, Option.getD_some, UInt8.toNat_ofNat', Nat.mod_eq_of_lt (dg_lt l i)]
  rw [this, st_dg hl]
def bW (w : W4) : BS := beD w.l 32
def uW (s : BS) : W4 := W4.of (unfR s).1
theorem unfR_wok (s : BS) : WOk (unfR s).1 := by
  unfold unfR; split
  · exact unfW_ok _
  · exact zW_ok
theorem uW_l (s : BS) : (uW s).l = (unfR s).1 := W4.of_l (unfR_wok s).1
theorem uW_b {w : W4} (h : w.ok) : uW (bW w) = w := by
  apply W4.l_inj
  rw [uW_l]
  unfold unfR bW
  rw [if_pos (beD_len _ _)]
  exact be_unf h.wok
def wN1 (n : Nat) : W4 := ⟨n, 0, 0, 0⟩
def keyE (n : Nat) : BS := bW (wN1 n)
/-! the table -/
def keyN : Nat → Nat
  | 0 => 0
  | 1 => 1
  | 2 => 5
  | 3 => 6
  | 4 => 3
  | 5 => 7
  | _ => 8
def hasE (f : Int) : Nat → Bool
  | 0 => true
  | 1 => true
  | 2 => decide (f ≤ 2)
  | 3 => decide (f ≤ 2)
  | 4 => decide (f ≥ 3)
  | 5 => decide (f ≥ 3)
  | _ => decide (f = 5)
def holdsE (r : Rec) : Nat → W4
  | 0 => ⟨r.number, r.time, 0, 0⟩
  | 1 => r.base
  | 2 => r.overhead
  | 3 => ⟨r.scalar, 0, 0, 0⟩
  | 4 => ⟨r.scalar, r.extra, 0, 0⟩
  | 5 => r.blob
  | _ => ⟨r.operator, 0, 0, 0⟩
def takeE (r : Rec) (w : W4) : Nat → Rec
  | 0 => { r with number := w.a, time := w.b }
  | 1 => { r with base := w }
  | 2 => { r with overhead := w }
  | 3 => { r with scalar := w.a }
  | 4 => { r with scalar := w.a, extra := w.b }
  | 5 => { r with blob := w }
  | _ => { r with operator := w.a }
theorem holds_ok {r : Rec} (h : r.ok) (i : Nat) : (holdsE r i).ok := by
  unfold holdsE
  split
  · exact ⟨h.number, h.time, u64_0, u64_0⟩
  · exact h.base
  · exact h.overhead
  · exact ⟨h.scalar, u64_0, u64_0, u64_0⟩
  · exact ⟨h.scalar, h.extra, u64_0, u64_0⟩
  · exact h.blob
  · exact ⟨h.operator, u64_0, u64_0, u64_0⟩
def foldE (f : Int) (g : Nat → W4) : List Nat → Rec → Rec
  | [], out => out
  | i :: l, out => foldE f g l (if hasE f i then takeE out (g i) i else out)
def tab : List Nat := [0, 1, 2, 3, 4, 5, 6]
def keptE (f : Int) (r : Rec) : Rec := foldE f (holdsE r) tab rec0
def readE (f : Int) (a : AcE) : Rec := foldE f (fun i => uW (slotE a (keyE (keyN i)))) tab rec0
def Forked (f : Int) : Prop := 0 ≤ f ∧ f ≤ 5
instance (f : Int) : Decidable (Forked f) := inferInstanceAs (Decidable (_ ∧ _))
theorem forked_cases {f : Int} (h : Forked f) : f = 0 ∨ f = 1 ∨ f = 2 ∨ f = 3 ∨ f = 4 ∨ f = 5 := by unfold Forked at h; omega
def fitsB (f : Int) (r : Rec) : Bool := !((decide (f ≥ 3) && decide (r.overhead ≠ w40)) || (decide (f < 3) && (decide (r.extra ≠ 0) || decide (r.blob ≠ w40))) || (decide (f < 5) && decide (r.operator ≠ 0)))
theorem kept_iff {f : Int} {r : Rec} (h : Forked f) : keptE f r = r ↔ fitsB f r = true := by
  obtain ⟨n, t, b, l, o, s, e, p⟩ := r
  rcases forked_cases h with rfl | rfl | rfl | rfl | rfl | rfl <;>
    (simp [keptE, foldE, tab, hasE, takeE, holdsE, fitsB, rec0]; try (constructor <;> (intro h; simp_all <;> omega)))
/-! codes, addresses -/
def addrE (which : Int) : BS := if which < 0 ∨ which > 1 then [] else 66 :: (List.replicate 18 0 ++ [UInt8.ofNat (1 + which).toNat])
def cOne : BS := [111, 110, 101]
def cTwo : BS := [116, 119, 111]
def cThree : BS := [116, 104, 114, 101, 101]
def cFive : BS := [102, 105, 118, 101]
def cFee : BS := [102, 101, 101]
def codeE (f which : Int) : BS × Bool := if which = 1 then (if f ≥ 2 then (cFee, true) else ([], false)) else if f = 0 then (cOne, true) else if f ≤ 2 then (cTwo, true) else if f ≤ 4 then (cThree, true) else (cFive, true)
def A0 : BS := addrE 0
def A1 : BS := addrE 1
/-! ### Setting -/
theorem with_sorted {l : List (BS × BS)} {k v : BS} (h : Sorted Prod.fst l) : Sorted Prod.fst (withE l k v) := by
  unfold withE; split
  · exact del_sorted h
  · exact ins_sorted h
theorem with_look {l : List (BS × BS)} {k v j : BS} (h : Sorted Prod.fst l) : lookL Prod.fst j (withE l k v) = if k = j then (if v = noneB then none else some (k, v)) else lookL Prod.fst j l := by
  unfold withE
  by_cases hv : v = noneB
  · rw [if_pos hv, if_pos hv, del_look]
  · rw [if_neg hv, if_neg hv, ins_look h]
theorem with_mem {l : List (BS × BS)} {k v : BS} {x : BS × BS} (h : x ∈ withE l k v) : (x = (k, v) ∧ v ≠ noneB) ∨ x ∈ l := by
  unfold withE at h
  split at h
  · exact .inr (del_mem h)
  · rename_i hv; exact (ins_mem h).imp (fun h => ⟨h, hv⟩) id
theorem set_of {a : AcE} {k v : BS} (h1 : lkE a = 0) (h2 : k.length = 32) (h3 : v.length = 32) (h4 : (withE a.slots k v).length ≤ 16) : setE a k v = ({ a with slots := withE a.slots k v }, 0) := by
  unfold setE
  rw [if_neg (by omega), if_neg (by omega), if_neg (by omega)]
theorem with_lk {a : AcE} {k v : BS} (h1 : lkE a = 0) (h2 : k.length = 32) (h3 : v.length = 32) (h4 : (withE a.slots k v).length ≤ 16) : lkE { a with slots := withE a.slots k v } = 0 := by
  obtain ⟨g1, g2, g3, g4, g5⟩ := look_ok h1
  refine look_of g1 (fun x hx => ?_) (with_sorted g3) g4 h4
  rcases with_mem hx with ⟨rfl, hv⟩ | hx
  · exact ⟨h2, h3, hv⟩
  · exact g2 x hx
theorem slot_with {a : AcE} {k v j : BS} (h : Sorted Prod.fst a.slots) : slotE { a with slots := withE a.slots k v } j = if k = j then v else slotE a j := by
  unfold slotE
  simp only
  rw [with_look h]
  by_cases hk : k = j
  · rw [if_pos hk, if_pos hk]
    by_cases hv : v = noneB
    · rw [if_pos hv]; exact hv.symm
    · rw [if_neg hv]
  · rw [if_neg hk, if_neg hk]
def setRows : AcE → List (BS × BS) → AcE × Int
  | a, [] => (a, 0)
  | a, x :: l => if (setE a x.1 x.2).2 ≠ 0 then setE a x.1 x.2 else setRows (setE a x.1 x.2).1 l
structure RowsOk (a b : AcE) (l : List (BS × BS)) : Prop where
  lk : lkE b = 0
  addr : b.addr = a.addr
  nonce : b.nonce = a.nonce
  bal : b.bal = a.bal
  code : b.code = a.code
  at_ : ∀ x ∈ l, slotE b x.1 = x.2
  off : ∀ k, (∀ x ∈ l, x.1 ≠ k) → slotE b k = slotE a k
theorem slot_mem {a : AcE} (h : lkE a = 0) {x : BS × BS} (hx : x ∈ a.slots) : slotE a x.1 = x.2 ∧ x.2 ≠ noneB := by
  obtain ⟨_, g2, g3, _⟩ := look_ok h
  unfold slotE
  rw [lookL_mem g3 hx]
  exact ⟨rfl, (g2 x hx).2.2⟩
theorem mem_slot {a : AcE} {k : BS} (h : slotE a k ≠ noneB) : (k, slotE a k) ∈ a.slots := by
  unfold slotE at h ⊢
  cases hl : lookL Prod.fst k a.slots with
  | none => rw [hl] at h; exact absurd rfl h
  | some x =>
    obtain ⟨h1, h2⟩ := lookL_key hl
    simp only
    rw [← h1]; exact h2
theorem sub_len {α : Type} {kf : α → BS} : ∀ {m l : List α}, Sorted kf m → Sorted kf l → (∀ y ∈ l, y ∈ m) → l.length ≤ m.length
  | [], [], _, _, _ => Nat.le_refl _
  | [], y :: l, _, _, h => absurd (h y List.mem_cons_self) (by simp)
  | z :: m, [], _, _, _ => Nat.zero_le _
  | z :: m, y :: l, hm, hl, h => by
    obtain ⟨m1, m2⟩ := List.pairwise_cons.1 hm
    obtain ⟨l1, l2⟩ := List.pairwise_cons.1 hl
    rcases List.mem_cons.1 (h y List.mem_cons_self) with e | hy
    · rw [e] at l1
      have := sub_len (m := m) (l := l) m2 l2 fun x hx => by
        rcases List.mem_cons.1 (h x (List.mem_cons_of_mem _ hx)) with rfl | hx2
        · have := l1 _ hx; rw [bl_irr] at this; cases this
        · exact hx2
      simp only [List.length_cons]; omega
    · have := sub_len (m := m) (l := y :: l) m2 hl fun x hx => by
        rcases List.mem_cons.1 (h x hx) with rfl | hx2
        · have a1 := m1 y hy
          rcases List.mem_cons.1 hx with rfl | hx3
          · rw [bl_irr] at a1; cases a1
          · have := bl_trans a1 (l1 _ hx3); rw [bl_irr] at this; cases this
        · exact hx2
      simp only [List.length_cons] at this ⊢; omega
/-- What stands, or will stand, may be set. -/
theorem fill {a : AcE} (ha : lkE a = 0) : ∀ (l : List (BS × BS)) (x : AcE), lkE x = 0 → (∀ k, slotE x k = slotE a k ∨ slotE x k = noneB) → (∀ p ∈ l, p.1.length = 32 ∧ p.2.length = 32 ∧ (p.2 = slotE a p.1 ∨ p.2 = noneB)) → (setRows x l).2 = 0
  | [], _, _, _, _ => rfl
  | p :: l, x, hx, hs, hp => by
    obtain ⟨p1, p2, p3⟩ := hp p List.mem_cons_self
    have hsx := (look_ok hx).2.2.1
    have hlen : (withE x.slots p.1 p.2).length ≤ 16 := by
      refine Nat.le_trans (sub_len (kf := Prod.fst) (look_ok ha).2.2.1 (with_sorted hsx) fun y hy => ?_) (look_ok ha).2.2.2.2
      have hne : y.2 ≠ noneB ∧ y.2 = slotE a y.1 := by
        rcases with_mem hy with ⟨rfl, hv⟩ | hy
        · exact ⟨hv, p3.resolve_right hv⟩
        · obtain ⟨e1, e2⟩ := slot_mem hx hy
          refine ⟨e2, ?_⟩
          rcases hs y.1 with h | h
          · rw [← e1, h]
          · rw [← e1] at e2; exact absurd h e2
      have h3 := mem_slot (a := a) (k := y.1) (by rw [← hne.2]; exact hne.1)
      rw [← hne.2] at h3
      exact h3
    unfold setRows
    rw [set_of hx p1 p2 hlen, if_neg (by simp)]
    refine fill ha l _ (with_lk hx p1 p2 hlen) (fun k => ?_) fun q hq => hp q (List.mem_cons_of_mem _ hq)
    rw [slot_with hsx]
    split
    · rename_i e; subst e; exact p3
    · exact hs k
theorem find_ok {s : List AcE} (hs : chkS s = 0) {k : BS} {a : AcE} (h : findS s k = some a) : a.addr = k ∧ lkE a = 0 := by
  obtain ⟨h1, h2⟩ := lookL_key h
  exact ⟨h1, (chk_ok.1 hs).2.1 a h2⟩
/-! ### Writing, reading, what is left -/
def rowW (f : Int) (r : Rec) (i : Nat) : BS × BS := (keyE (keyN i), if hasE f i then bW (holdsE r i) else noneB)
def Tabled (k : BS) : Prop := ∃ i ∈ tab, keyE (keyN i) = k
def oldE (t : List AcE) (which : Int) : AcE := { (findS t (addrE which)).getD ac0 with addr := addrE which }
theorem old_some {s : List AcE} (hs : chkS s = 0) {w : Int} {a : AcE} (h : findS s (addrE w) = some a) : oldE s w = a := by
  unfold oldE
  rw [h]
  obtain ⟨h1, _⟩ := find_ok hs h
  cases a
  simp only at h1
  simp [h1]
structure Wrote (f : Int) (s t : List AcE) (r : Rec) : Prop where
  forked : Forked f
  fits : fitsB f r = true
  old : chkS s = 0
  new : chkS t = 0
  acct : ∃ b0, findS t A0 = some b0 ∧ lkE b0 = 0 ∧ b0.addr = A0 ∧ b0.nonce = (oldE s 0).nonce ∧ b0.bal = (oldE s 0).bal ∧ b0.code = (codeE f 0).1 ∧ (∀ i ∈ tab, slotE b0 (keyE (keyN i)) = (rowW f r i).2) ∧ ∀ k, ¬ Tabled k → slotE b0 k = slotE (oldE s 0) k
  others : ∀ k, k ≠ A0 → k ≠ A1 → findS t k = findS s k
  fee : if (codeE f 1).2 = true then findS t A1 = some { oldE s 1 with code := (codeE f 1).1 } else findS t A1 = findS s A1
end Go.SL
/-! ### The laws of layouts and of migrations, in plain Lean -/
namespace Go.SL
set_option linter.all false
open Go Go.RowKit Go.Shelf
def acct0 (s : List AcE) (k : BS) : AcE := (findS s k).getD ac0
theorem fold_congr {f : Int} {g g' : Nat → W4} : ∀ {l : List Nat} {out : Rec}, (∀ i ∈ l, hasE f i = true → g i = g' i) → foldE f g l out = foldE f g' l out
  | [], _, _ => rfl
  | i :: l, out, h => by
    unfold foldE
    have e : (if hasE f i then takeE out (g i) i else out) = if hasE f i then takeE out (g' i) i else out := by
      by_cases hi : hasE f i = true
      · rw [if_pos hi, if_pos hi, h i List.mem_cons_self hi]
      · rw [if_neg hi, if_neg hi]
    rw [e]
    exact fold_congr fun j hj => h j (List.mem_cons_of_mem _ hj)
theorem read_back {f : Int} {a : AcE} {r : Rec} (hf : Forked f) (hr : r.ok) (hb : fitsB f r = true) (h : ∀ i ∈ tab, slotE a (keyE (keyN i)) = (rowW f r i).2) : readE f a = r := by
  have e : readE f a = keptE f r := fold_congr fun i hi hh => by
    rw [h i hi]
    unfold rowW
    simp only
    rw [if_pos hh]
    exact uW_b (holds_ok hr i)
  rw [e]
  exact (kept_iff hf).2 hb
structure Checked (f : Int) (s : List AcE) (a : AcE) : Prop where
  forked : Forked f
  st : chkS s = 0
  at0 : findS s A0 = some a
  code : a.code = (codeE f 0).1
  rows : ∀ i ∈ tab, slotE a (keyE (keyN i)) = (rowW f (readE f a) i).2
  fee : (codeE f 1).2 = true → ∃ b, findS s A1 = some b ∧ b.code = (codeE f 1).1
/-- WHAT IS WRITTEN IS READ. -/
theorem Wrote.checked {f : Int} {s t : List AcE} {r : Rec} (h : Wrote f s t r) (hr : r.ok) : ∃ a, Checked f t a ∧ readE f a = r := by
  obtain ⟨h1, h2, h3, h4, ⟨b0, c1, c2, c3, c4, c5, c6, c7, c8⟩, h6, h7⟩ := h
  have e := read_back h1 hr h2 c7
  refine ⟨b0, ⟨h1, h4, c1, c6, by rw [e]; exact c7, fun hf => ?_⟩, e⟩
  rw [if_pos hf] at h7
  exact ⟨_, h7, rfl⟩
theorem Checked.lk {f : Int} {s : List AcE} {a : AcE} (h : Checked f s a) : lkE a = 0 := (find_ok h.st h.at0).2
theorem Checked.addr {f : Int} {s : List AcE} {a : AcE} (h : Checked f s a) : a.addr = A0 := (find_ok h.st h.at0).1
theorem Checked.old {f : Int} {s : List AcE} {a : AcE} (h : Checked f s a) : oldE s 0 = a := old_some h.st h.at0
/-- What stays. -/
structure Kept (s t : List AcE) : Prop where
  others : ∀ k, k ≠ A0 → k ≠ A1 → findS t k = findS s k
  there : ∀ k, (findS s k).isSome = true → (findS t k).isSome = true
  nonce : ∀ k, (acct0 t k).nonce = (acct0 s k).nonce
  bal : ∀ k, (acct0 t k).bal = (acct0 s k).bal
  slot : ∀ k j, (k = A0 → ¬ Tabled j) → slotE (acct0 t k) j = slotE (acct0 s k) j
theorem Kept.refl (s : List AcE) : Kept s s := ⟨fun _ _ _ => rfl, fun _ h => h, fun _ => rfl, fun _ => rfl, fun _ _ _ => rfl⟩
theorem Kept.trans {s t u : List AcE} (h : Kept s t) (k : Kept t u) : Kept s u :=
  ⟨fun x a b => (k.others x a b).trans (h.others x a b), fun x hx => k.there x (h.there x hx), fun x => (k.nonce x).trans (h.nonce x), fun x => (k.bal x).trans (h.bal x), fun x j hj => (k.slot x j hj).trans (h.slot x j hj)⟩
def Way (f g : Int) : Prop := 0 ≤ f ∧ f ≤ g ∧ g ≤ 5
instance (f g : Int) : Decidable (Way f g) := inferInstanceAs (Decidable (_ ∧ _))
end Go.SL
/-! ### Rules for rows of structs: parts of known rows, clones; places in rows that rise -/
namespace Go.SL
set_option linter.all false
open Go Go.RowKit Go.Shelf
open Go.Proofs (Enters enters_of)
def plS (sz a : Nat) : Pl → Pl
  | none => none
  | some (⟨b, o, s⟩, cap) => some (⟨b, if cap = a then o else o + a * sz, s⟩, cap - a)
theorem Seg.slice {R : List (Nat × Obj)} {n sz a b : Nat} {cs : List Value} {p : Pl} (h : Seg R n cs p) (hl : cs.length = n * sz) (hab : a < b) (hb : b ≤ n) : Seg R (b - a) ((cs.drop (a * sz)).take ((b - a) * sz)) (plS sz a p) := by
  cases p with
  | none => have h : n = 0 := h; omega
  | some q =>
    obtain ⟨⟨r, o, s⟩, cap⟩ := q
    obtain ⟨h1, h2⟩ := h
    obtain ⟨h3, all, e, fr, h4, h5⟩ := h2 (by omega)
    have hne : ¬ cap = a := by omega
    simp only [plS, if_neg hne]
    have hlen : ((cs.drop (a * sz)).take ((b - a) * sz)).length = (b - a) * sz := by
      rw [List.length_take, List.length_drop, hl, ← Nat.sub_mul]
      exact Nat.min_eq_left (Nat.mul_le_mul_right _ (by omega))
    refine ⟨by omega, fun _ => ⟨h3, all, e, fr, h4, ?_⟩⟩
    rw [hlen]
    exact take_sub h5 rfl hlen
section
variable {c : Cx} {l : List (Nat × Value)} {L : List (Nat × Obj)} {X : XP} {Q : Exit → Act → World → Prop} {d : List Deferred}
variable {ops : Array Oper} {rest : List Oper} {i : Nat} {v : Value} {t : TypeId} {ps : String} {af : Array Edge} {gd : Option (Nat × Bool)} {ty t2 : TypeId}
end
section
variable {α : Type} {kf : α → BS}
end
def fV (f : FuncId) : Value := .func (.func f) #[] #[]
theorem row_some {sz n : Nat} {xs : List Value} {row : Row} (h : rowOk sz n xs row) (hn : 0 < n) : ∃ r cap sp, row = some (r, cap, sp) := by
  cases row with
  | none => have := h.1; omega
  | some q => obtain ⟨r, cap, sp⟩ := q; exact ⟨r, cap, sp, rfl⟩
theorem PureR.mono {P : Program} {f : FuncId} {args : Array Value} {v : Value} {R R' : List (Nat × Obj)} (h : PureR P f args v R) (hs : ∀ q ∈ R, q ∈ R') : PureR P f args v R' := ⟨fun w hw => h.run w fun p hp => hw p (hs p hp)⟩
def rowP : Row → Pl
  | none => none
  | some (r, cap, _) => some (⟨r, 0, none⟩, cap)
theorem rowP_V (n : Nat) (row : Row) (h : row = none → n = 0) : plV n (rowP row) = rowV n row := by
  cases row with
  | none => rw [h rfl]; rfl
  | some q => rfl
theorem rowP_seg {sz n e : Nat} {cs : List Value} {row : Row} (h : rowOk sz n cs row) (h0 : 0 < sz) : Seg (rowL e cs row) n cs (rowP row) := by
  cases row with
  | none => exact h.1
  | some q =>
    obtain ⟨r, cap, sp⟩ := q
    obtain ⟨h1, h2⟩ := h
    exact ⟨Nat.le_of_mul_le_mul_right (by omega : n * sz ≤ cap * sz) h0, fun _ => ⟨rfl, _, e, (0, 0), List.mem_cons_self, by simp⟩⟩
/-! Results that lie in new blocks and in known ones. -/
structure AcRes (R : List (Nat × Obj)) (e : AcE × Int) : Type where
  a : AcL
  err : Int
  L : List (Nat × Obj)
  ok : a.In (L ++ R)
  eq : (a.er, err) = e
structure StRes (R : List (Nat × Obj)) (e : List AcE × Int) : Type where
  s : StL
  err : Int
  L : List (Nat × Obj)
  ok : s.In (L ++ R)
  eq : (s.er, err) = e
def AcRes.val {R : List (Nat × Obj)} {e : AcE × Int} (x : AcRes R e) : Value := .tuple #[x.a.val, .int .i64 x.err]
def StRes.val {R : List (Nat × Obj)} {e : List AcE × Int} (x : StRes R e) : Value := .tuple #[x.s.val, .int .i64 x.err]
end Go.SL
/-! ### Comparing structs; results in new blocks -/
namespace Go.SL
set_option linter.all false
open Go Go.RowKit Go.Shelf
open Go.Proofs (Enters enters_of)
/-! ### Structs are compared -/
inductive EqF (P : Program) (xs ys : List Value) : List Field → Bool → Prop
  | nil : EqF P xs ys [] true
  | scal {f : Field} {fs : List Field} {a b : Value} {r : Bool} (hn : (f.name == "_") = false) (he : aggB P f.type = some false) (ga : nth xs f.offset = some a) (gb : nth ys f.offset = some b) (ha : scalB P f.type a = true) (hb : scalB P f.type b = true) (h : EqF P xs ys fs r) : EqF P xs ys (f :: fs) (eqS a b && r)
  | arr {f : Field} {fs : List Field} {n e : Nat} {va vb : List Value} {r : Bool} (hn : (f.name == "_") = false) (ht : arrOf P f.type = some (n, e)) (hz : szOf P f.type = some n) (he : aggB P e = some false) (hs : szOf P e = some 1) (ga : (xs.drop f.offset).take n = va) (gb : (ys.drop f.offset).take n = vb) (hla : va.length = n) (hlb : vb.length = n)
      (h1 : va.all (scalB P e) = true) (h2 : vb.all (scalB P e) = true) (h : EqF P xs ys fs r) : EqF P xs ys (f :: fs) (eqCells va vb && r)
section
variable {c : Cx} {l : List (Nat × Value)} {L : List (Nat × Obj)} {X : XP} {d : List Deferred}
variable {i : Nat} {t : TypeId} {ps : String} {af : Array Edge} {gd : Option (Nat × Bool)} {ty t2 : TypeId}
end
end Go.SL
/-! ### Iterators that hand out what lies in blocks of their own; calls that lay new blocks in a region that draws -/
namespace Go.SL
set_option linter.all false
open Go Go.RowKit Go.Shelf
open Go.Proofs (Enters enters_of)
section
variable {c : Cx} {l : List (Nat × Value)} {L : List (Nat × Obj)} {X : XP} {Q : Exit → Act → World → Prop} {d : List Deferred}
variable {ops : Array Oper} {rest : List Oper} {i : Nat} {v : Value} {t : TypeId} {ps : String} {af : Array Edge} {gd : Option (Nat × Bool)} {ty : TypeId}
end
section
variable {c : Cx} {d : List Deferred} {l : List (Nat × Value)} {E : List (Nat × Obj)} {X : XP} {S : List (Nat × Obj)} {ops : Array Oper} {tb : Kbs} {rest : List Nat} {T : List (Nat × Obj) → Act → Prop} {k i : Nat}
theorem HB_callRE {α : Type} {x0 : α} {V : α → Value} {LL : α → List (Nat × Obj)} {Rl : List (Nat × Obj)} {f : Operand} {args : Array Operand} {at_ : Array TypeId} {g : FuncId} {vs : List Value} {ty : TypeId} {ps : String} {af : Array Edge} {gd : Option (Nat × Bool)}
    (hk : nth ops.toList k = some ⟨some i, .call ⟨.value f, args, at_⟩, ty, ps, af, gd⟩) (hg : goes l ops ⟨some i, .call ⟨.value f, args, at_⟩, ty, ps, af, gd⟩ = some true) (hi : Nat.ble (i + 1) c.n = true) (hA : tb k = .grow (geCall x0 V LL)) (hca : callArgs l f args = some (g, vs)) (eg : Enters c.P g)
    (hp : PureT c.P g vs.toArray V [] LL Rl) (hR : ∀ p ∈ Rl, p ∈ S ∨ p ∈ c.R) (h : ∀ x, HB c d ((i, V x) :: l) (LL x ++ E) X S ops tb rest T) : HB c d l E X S ops tb (k :: rest) T :=
  HB_grow (e := geCall x0 V LL) hk hg rfl hi hA (fun E' hE a w hf hs => act_call hf hca eg ((hp.run w (fun p hp => by cases hp) (fun p hp => (hR p hp).elim (fun h => (hs.own _ (hE p h)).2.2) hs.readR) List.Pairwise.nil (fun p _ q hq => by cases hq)).mono fun _ _ ⟨x, he, hk, h1, h2⟩ => ⟨V x, he, x, rfl, hk, (fun p hp => ⟨((h1 p hp).1).elim (fun h => by cases h) id, (h1 p hp).2⟩), h2⟩)) h
end
end Go.SL
/-! ### Results that grow from round to round -/
namespace Go.SL
set_option linter.all false
open Go Go.RowKit Go.Shelf
open Go.Proofs (Enters enters_of)
/-- An account and the blocks that it may lie in. -/
structure AcSt (R : List (Nat × Obj)) : Type where
  a : AcL
  L : List (Nat × Obj)
  ok : a.In (L ++ R)
structure StSt (R : List (Nat × Obj)) : Type where
  s : StL
  L : List (Nat × Obj)
  ok : s.In (L ++ R)
def AcSt.next {R : List (Nat × Obj)} (s : AcSt R) {e : AcE × Int} (x : AcRes (s.L ++ R) e) : AcSt R := ⟨x.a, x.L ++ s.L, by rw [List.append_assoc]; exact x.ok⟩
def StSt.next {R : List (Nat × Obj)} (s : StSt R) {L' : List (Nat × Obj)} {e : List AcE × Int} (x : StRes (L' ++ (s.L ++ R)) e) : StSt R := ⟨x.s, x.L ++ (L' ++ s.L), by rw [List.append_assoc, List.append_assoc]; exact x.ok⟩
end Go.SL
/-! ### Roots of chunks, in plain Lean -/
namespace Go.SL
set_option linter.all false
def z32 : List UInt8 := List.replicate 32 0
/-- Two and two. -/
def pairUp : List (List UInt8) → List (List UInt8)
  | a :: b :: l => kec (a ++ b) :: pairUp l
  | _ => []
def padOdd (l : List (List UInt8)) (z : List UInt8) : List (List UInt8) := if l.length % 2 = 1 then l ++ [z] else l
def treeP : Nat → List (List UInt8) → List UInt8 → List UInt8
  | 0, l, z => l.headD z
  | k + 1, l, z => treeP k (pairUp (padOdd l z)) (kec (z ++ z))
def treeR : Nat → List (List UInt8) → List UInt8
  | 0, l => l.headD []
  | k + 1, l => treeR k (pairUp l)
/-- How often two and two are summed. -/
def lg (m : Nat) : Nat := if m ≤ 1 then 0 else Nat.log2 (m - 1) + 1
def padC (n : Nat) (l : List (List UInt8)) : List (List UInt8) := l ++ List.replicate (n - l.length) z32
def rootC (l : List (List UInt8)) (m : Nat) : List UInt8 := treeR (lg m) (padC (2 ^ lg m) l)
end Go.SL
namespace Go.Proofs.YtlcbfphioeppaaaGreatDoor
set_option linter.all false
open Go.SL Go.RowKit Go.Shelf
/-! ### chunks: full, pairs, Clone -/
abbrev pt0 (r : Nat) : Value := .pointer (some ⟨r, 0, none⟩)
def chC (l : List BS) : List Value := l.map strV
theorem rowV_one1 (n : Nat) (row : Row) : oneB (rowV n row) = true := by cases row <;> rfl
end Go.Proofs.YtlcbfphioeppaaaGreatDoor
/-! ### Loops in which loops over functions stand: each one leaves a mark -/
namespace Go.SL
set_option linter.all false
open Go Go.RowKit Go.Shelf
open Go.Proofs (Enters enters_of)
section
variable {c : Cx} {l : List (Nat × Value)} {L : List (Nat × Obj)} {X : XP} {Q : Exit → Act → World → Prop} {d : List Deferred}
theorem HQ_subL {L' : List (Nat × Obj)} {K : Act → World → Prop} (hL : L'.Sublist L) (h : HQ c d l L' X K) : HQ c d l L X K := fun a w hf hs => h a w hf (hs.weakL hL)
end
end Go.SL
namespace Go.Proofs.YtlcbfphioeppaaaGreatDoor
set_option linter.all false
open Go.SL Go.RowKit Go.Shelf
/-- Where the loop of tree stands. -/
structure TreeI (l0 : List BS) (m : Nat) (k : Nat) (ls : List BS) (row : Row) (z : BS) : Prop where
  le : k ≤ lg m
  ok : rowOk 1 ls.length (chC ls) row
  eq : treeP (lg m - k) ls z = rootC l0 m
  len : ls.length ≤ 2 ^ (lg m - k)
  mem : ∀ x ∈ ls, x.length = 32
  zl : z.length = 32
end Go.Proofs.YtlcbfphioeppaaaGreatDoor
namespace Go.Proofs.YtlcbfphioeppaaaGreatDoor
set_option linter.all false
open Go.SL Go.RowKit Go.Shelf
abbrev fV1 (f : FuncId) : Value := .func (.func f) #[] #[]
end Go.Proofs.YtlcbfphioeppaaaGreatDoor
namespace Go.Proofs.YtlcbfphioeppaaaGreatDoor
set_option linter.all false
open Go.SL Go.RowKit Go.Shelf
end Go.Proofs.YtlcbfphioeppaaaGreatDoor
namespace Go.Proofs.YtlcbfphioeppaaaGreatDoor
set_option linter.all false
open Go.SL Go.RowKit Go.Shelf
/-! ### Reverse, number, root of a number -/
theorem mapV_get {Y : BS} {i : Nat} (h : i < Y.length) : (Y.map bV)[i]? = some (bV (Y.getD i 0)) := by
  rw [List.getElem?_map, List.getD_eq_getElem?_getD, List.getElem?_eq_getElem h]; rfl
def revS (xs : BS) : Nat → BS
  | 0 => xs
  | i + 1 => ((revS xs i).set i ((revS xs i).getD (xs.length - 1 - i) 0)).set (xs.length - 1 - i) ((revS xs i).getD i 0)
theorem revS_len (xs : BS) : ∀ i, (revS xs i).length = xs.length
  | 0 => rfl
  | i + 1 => by rw [revS, List.length_set, List.length_set, revS_len xs i]
theorem getD_set {Y : BS} {i j : Nat} {b : UInt8} (hi : i < Y.length) : (Y.set i b).getD j 0 = if i = j then b else Y.getD j 0 := by
  rw [List.getD_eq_getElem?_getD, List.getElem?_set, List.getD_eq_getElem?_getD]
  split
  · first | rfl | (rw [if_pos hi]; rfl) | simp [hi]
  · rfl
theorem revS_get (xs : BS) : ∀ {i j : Nat}, 2 * i ≤ xs.length → j < xs.length → (revS xs i).getD j 0 = if j < i ∨ xs.length - 1 - j < i then xs.getD (xs.length - 1 - j) 0 else xs.getD j 0
  | 0, j, _, hj => by rw [revS, if_neg (by omega)]
  | i + 1, j, hi, hj => by
    have h1 := revS_len xs i
    have ga := revS_get xs (i := i) (j := xs.length - 1 - i) (by omega) (by omega)
    have gb := revS_get xs (i := i) (j := i) (by omega) (by omega)
    have gj := revS_get xs (i := i) (j := j) (by omega) hj
    rw [if_neg (by omega)] at ga gb; rw [revS, getD_set (by rw [List.length_set, h1]; omega), getD_set (by rw [h1]; omega), ga, gb, gj]
    by_cases e1 : xs.length - 1 - i = j
    · rw [if_pos e1, if_pos (by omega)]
      congr 1; omega
    · rw [if_neg e1]
      by_cases e2 : i = j
      · rw [if_pos e2, if_pos (by omega)]
        congr 1; omega
      · rw [if_neg e2]
        by_cases e3 : j < i ∨ xs.length - 1 - j < i
        · rw [if_pos e3, if_pos (by omega)]
        · rw [if_neg e3, if_neg (by omega)]
theorem revS_rev {xs : BS} {i : Nat} (h1 : 2 * i ≤ xs.length) (h2 : xs.length ≤ 2 * i + 1) : revS xs i = xs.reverse := by
  apply List.ext_getElem?
  intro j
  by_cases hj : j < xs.length
  · have e1 : (revS xs i)[j]? = some ((revS xs i).getD j 0) := by rw [List.getD_eq_getElem?_getD, List.getElem?_eq_getElem (by rw [revS_len]; exact hj)]; rfl
    rw [e1, revS_get xs h1 hj, List.getElem?_reverse hj]
    have e2 : xs[xs.length - 1 - j]? = some (xs.getD (xs.length - 1 - j) 0) := by rw [List.getD_eq_getElem?_getD, List.getElem?_eq_getElem (by omega)]; rfl
    rw [e2]
    by_cases e3 : j < i ∨ xs.length - 1 - j < i
    · rw [if_pos e3]
    · rw [if_neg e3, show xs.length - 1 - j = j by omega]
  · rw [List.getElem?_eq_none (by rw [revS_len]; omega), List.getElem?_eq_none (by rw [List.length_reverse]; omega)]
theorem set_mapV {Y : BS} {sp : List Value} {i : Nat} {b : UInt8} (h : i < Y.length) : (Y.map bV ++ sp).toArray.setIfInBounds i (bV b) = ((Y.set i b).map bV ++ sp).toArray := by
  rw [List.setIfInBounds_toArray, List.set_append_left _ _ (by rw [List.length_map]; exact h), List.map_set]
section
variable {c : Cx} {l : List (Nat × Value)} {L E : List (Nat × Obj)} {X : XP} {Q : Exit → Act → World → Prop} {d : List Deferred}
variable {ops : Array Oper} {rest : List Nat} {i k : Nat} {v : Value} {o : Oper} {tb : Kbs} {S : List (Nat × Obj)} {T : List (Nat × Obj) → Act → Prop}
theorem HB_storeF {t ty : TypeId} {ps : String} {af : Array Edge} {gd : Option (Nat × Bool)} {x y : Operand} {q r off : Nat} {cs cs' : Array Value} {e : TypeId} {fr : Nat × Nat} {E' : List (Nat × Obj)} (hko : nth ops.toList k = some ⟨none, .store t x y, ty, ps, af, gd⟩) (hg : goes l ops ⟨none, .store t x y, ty, ps, af, gd⟩ = some true) (hA : tb k = .turn)
    (hx : evl l x = some (.pointer (some ⟨r, off, none⟩))) (hk : E[q]? = some (r, .cells cs e fr)) (hy : evl l y = some v) (ht : szOf c.P t = some 1) (ho : oneB v = true) (hfr : frB fr off = false) (hc : (cs[off]?).isSome = true)
    (hcs : cs.setIfInBounds off v = cs') (hL : E.set q (r, .cells cs' e fr) = E') (hS : SubS S E')
    (h : HB c d l E' X S ops tb rest T) : HB c d l E X S ops tb (k :: rest) T :=
  HB_turn0 hko hg rfl hA (fun a w hf hs => ⟨w.setCell ⟨r, off, none⟩ v, by
    simp only [execOp]; rw [hf.eval hx, hf.eval hy]
    obtain ⟨old, hold⟩ := Option.isSome_iff_exists.1 hc
    have h1 := run_store c.P w ⟨r, off, none⟩ v .plain (by rw [oneB_eq]; exact ho)
    rw [cell_at (hs.get hk), hold, frozen_at (hs.get hk) hfr] at h1
    have hcell : v.cells = #[v] := by cases v <;> first | rfl | cases ho
    simp [Instr.storeAt, Instr.sureAddr, Sem.run_bind, Result.andThen, storeVar, run_sz ht, hcell, storeCells, Addr.add, h1], by
    subst hL; subst hcs
    exact hs.set hk (Keep.setCell r off v) (Go.SL.heap_setCell_same v (hs.get hk))⟩) hS h
end
section
variable {c : Cx} {l : List (Nat × Value)} {L : List (Nat × Obj)} {X : XP} {d : List Deferred} {i : Nat} {ps : String} {af : Array Edge} {gd : Option (Nat × Bool)} {ty : TypeId}
theorem R_bytesStrG {x : Operand} {b : List UInt8} {r n cap : Nat} {cs : Array Value} {e src dst : TypeId} {fr : Nat × Nat} (hx : evl l x = some (.slice (some ⟨r, 0, none⟩) n cap)) (hk : known c L r (.cells cs e fr)) (hn : n = b.length) (ht : cs.toList.take b.length = b.map bV)
    (hs : sliceOf c.P src = some e) (he : c.P.underlying e = some (.int .u8)) (hd : strB c.P dst = true) :
    RunsTo c d l L X ⟨some i, .convert src dst x, ty, ps, af, gd⟩ (.string (bs b)) := fun a' w hf hst => by
  subst hn; simp only [execOp]; rw [hf.eval hx]
  have hget := hst.known hk
  have hl := run_loadRow (P := c.P) (xs := b.map bV) hget (by rw [List.length_map]; exact ht)
  rw [List.length_map] at hl; simp only [Sem.run_bind]; rw [run_convert_bytes_string w src dst e _ _ _ (und_slice hs) he (und_str hd)]; rw [run_bytesToString w _ _ _ (b.map fun x => ((x.toNat : Nat) : Int)) (by rw [hl]; simp [bV, Function.comp_def])]
  have := fold_push b []
  rw [show (bs [] : ByteArray) = ByteArray.empty from rfl] at this; rw [this]
  rfl
end
end Go.Proofs.YtlcbfphioeppaaaGreatDoor
namespace Go.Proofs.YtlcbfphioeppaaaGreatDoor
set_option linter.all false
open Go.SL Go.RowKit Go.Shelf
theorem bool_eq' {a b : Bool} (h : a = b) : Value.bool a = Value.bool b := by rw [h]
end Go.Proofs.YtlcbfphioeppaaaGreatDoor
namespace Go.Proofs.YtlcbfphioeppaaaGreatDoor
set_option linter.all false
open Go.SL Go.RowKit Go.Shelf
section
variable {c : Cx} {l : List (Nat × Value)} {L : List (Nat × Obj)} {X : XP} {d : List Deferred} {i : Nat} {t : TypeId} {ps : String} {af : Array Edge} {gd : Option (Nat × Bool)} {ty : TypeId}
variable {Q : Exit → Act → World → Prop} {ops : Array Oper} {rest : List Oper}
end
end Go.Proofs.YtlcbfphioeppaaaGreatDoor
/-! ### strings.Builder: a string's bytes onto a row of one's own; unsafe pointers; a row as a string -/
namespace Go.SL
set_option linter.all false
open Go Go.RowKit Go.Shelf
section
variable {c : Cx} {l : List (Nat × Value)} {L : List (Nat × Obj)} {X : XP} {Q : Exit → Act → World → Prop} {d : List Deferred}
variable {ops : Array Oper} {rest : List Oper} {i : Nat} {v : Value} {t u : TypeId} {ps : String} {af : Array Edge} {gd : Option (Nat × Bool)} {ty : TypeId}
theorem bs_sz (s : List UInt8) : (bs s).size = s.length := by simp [bs, ByteArray.size]
theorem strCells_bs (s : List UInt8) : Lib.strCells (bs s) = s.map bV := rfl
theorem HL_appendS {x y : Operand} {e : TypeId} {s s2 : List UInt8} {L0 : List (Nat × Obj)} {row : Row}
    (hp : L.Perm (rowL e (s.map bV) row ++ L0)) (hg : goes l ops ⟨some i, .call ⟨.builtin .append, #[x, y], #[t, u]⟩, ty, ps, af, gd⟩ = some true) (hi : Nat.ble (i + 1) c.n = true)
    (hx : evl l x = some (rowV s.length row)) (hy : evl l y = some (.string (bs s2))) (ht : sliceOf c.P t = some e) (hu : strB c.P u = true) (hz : zeroOf c.P e = some (.int .u8 0)) (hs : szOf c.P e = some 1) (hb : byOf c.P e = some 1)
    (ho : rowOk 1 s.length (s.map bV) row) (ho2 : s = [] → row = none) (hlen : s.length + s2.length ≤ 140737488355328)
    (h : ∀ row', rowOk 1 (s ++ s2).length ((s ++ s2).map bV) row' → (s ++ s2 = [] → row' = none) → HL c d ((i, rowV (s ++ s2).length row') :: l) (rowL e ((s ++ s2).map bV) row' ++ L0) X ops rest Q) :
    HL c d l L X ops (⟨some i, .call ⟨.builtin .append, #[x, y], #[t, u]⟩, ty, ps, af, gd⟩ :: rest) Q := by
  obtain ⟨inf, hinf, hz', hs', hb'⟩ := info_of hz hs hb
  refine HL_perm hp ?_
  refine HL_runE (α := { r' : Row // rowOk 1 (s ++ s2).length ((s ++ s2).map bV) r' ∧ (s ++ s2 = [] → r' = none) }) (V := fun p => rowV (s ++ s2).length p.1) (L' := fun p => rowL e ((s ++ s2).map bV) p.1 ++ L0) (X' := fun _ => X) hg rfl rfl hi (fun a w hf hst => ?_) (fun p => h p.1 p.2.1 p.2.2)
  have exec : ∀ r w', (Builtin.append_ #[t, u] ty #[rowV s.length row, .string (bs s2)]).run c.P w = .ok r w' →
      (execOp a.eval ⟨some i, .call ⟨.builtin .append, #[x, y], #[t, u]⟩, ty, ps, af, gd⟩).run c.P w = .ok (.value r) w' := fun r w' hr => by
    have ex := hf.eval hx
    have ey := hf.eval hy
    simp [execOp, resolve, Sem.run_bind, ex, ey, Result.andThen, invoke, builtin, hr]
  have hsz := bs_sz s2
  have hsl : (s ++ s2).length = s.length + s2.length := List.length_append
  have hml : ((s ++ s2).map bV).length = s.length + s2.length := by rw [List.length_map, hsl]
  have hz1 : (Value.int IntKind.u8 0).cells.size = 1 := rfl
  have zlen : ∀ n, (Builtin.zeroCells (Value.int IntKind.u8 0).cells n).toList.length = n := fun n => by rw [Array.length_toList, size_zeroCells, hz1, Nat.mul_one]
  cases row with
  | none =>
    obtain ⟨h1, h2⟩ := ho
    have hs0 : s = [] := List.eq_nil_of_length_eq_zero h1
    subst hs0
    cases s2 with
    | nil =>
      refine ⟨⟨none, ⟨rfl, rfl⟩, fun _ => rfl⟩, w, exec _ _ ?_, hst⟩
      have hf2 := Lib.run_firstCells_string (P := c.P) w 1 (bs [])
      have h0 : (bs []).size = 0 := rfl
      rw [h0] at hf2
      simp [Builtin.append_, rowV, run_underlying (und_slice ht), run_underlying (und_str hu), sizeOf, typeInfo, hinf, hs', Builtin.lenOf, h0, hf2]
    | cons b s2 =>
      have hr := run_append_nil_string (P := c.P) w t u ty e inf (.int .u8 0) (und_slice ht) (und_str hu) hinf hz' (bs (b :: s2)) (by rw [hsz]; simp) (by rw [hsz]; simp at hlen ⊢; omega) (by rw [hsz, hb']; simp at hlen ⊢; omega)
      rw [hsz] at hr
      have hge := grownCap_ge w (b :: s2).length 0 e
      refine ⟨⟨some (w.heap.size, grownCap w (b :: s2).length 0 e, (Builtin.zeroCells (Value.int IntKind.u8 0).cells (grownCap w (b :: s2).length 0 e - (b :: s2).length)).toList), ⟨?_, ?_⟩, fun h0 => by simp at h0⟩, _, exec _ _ hr, ?_⟩
      · simp
      · rw [zlen]; simp only [List.nil_append]; omega
      · have e1 : ((bs (b :: s2)).data.map (fun b => Value.int .u8 b.toNat) ++ Builtin.zeroCells (Value.int IntKind.u8 0).cells (grownCap w (b :: s2).length 0 e - (b :: s2).length)) = ((([] ++ (b :: s2)).map bV) ++ (Builtin.zeroCells (Value.int IntKind.u8 0).cells (grownCap w (b :: s2).length 0 e - (b :: s2).length)).toList).toArray := by
          apply Array.toList_inj.1; simp [bs, bV]
        rw [e1]
        exact hst.drew.alloc _
  | some q =>
    obtain ⟨r, cap, sp⟩ := q
    obtain ⟨h1, h2⟩ := ho
    have hget : w.heap[r]? = some (.cells (s.map bV ++ sp).toArray e (0, 0)) := hst.get (k := 0) rfl
    have hne : s ++ s2 ≠ [] := fun h0 => by have := ho2 (List.append_eq_nil_iff.1 h0).1; cases this
    by_cases hroom : s.length + s2.length ≤ cap
    · have hr := Lib.run_append_room_string (P := c.P) w t u ty e inf (und_slice ht) (und_str hu) hinf hs' r s.length cap _ hget (bs s2) (by rw [hsz]; exact hroom) (by rw [hsz]; simp only [List.size_toArray, List.length_append, List.length_map]; omega)
      rw [hsz, strCells_bs] at hr
      have e1 : ((s.map bV ++ sp).toArray.toList.take s.length ++ s2.map bV ++ (s.map bV ++ sp).toArray.toList.drop (s.length + s2.length)) = (s ++ s2).map bV ++ sp.drop s2.length := by
        simp only [List.toList_toArray]
        rw [List.take_left' (by simp), List.map_append, ← List.drop_drop, List.drop_left' (by simp)]
      rw [e1] at hr
      have hV : rowV (s ++ s2).length (some (r, cap, sp.drop s2.length)) = .slice (some ⟨r, 0, none⟩) (s.length + s2.length) cap := by rw [rowV, hsl]
      refine ⟨⟨some (r, cap, sp.drop s2.length), ⟨?_, ?_⟩, fun h0 => absurd h0 hne⟩, _, exec _ _ (hr.trans (congrArg (fun v => Result.ok v _) hV.symm)), ?_⟩
      · rw [hml, hsl]; omega
      · rw [List.length_drop, hsl]; omega
      · exact hst.set (k := 0) rfl (Keep.setRow r _) (setRow_heap _ _ _ _ _ _ hget)
    · have holds : ∀ (j : Nat) (x : Value), (s.map bV)[j]? = some x → w.cell? ((⟨r, 0, none⟩ : Addr).add j) = some x := cells_news hget (n := s.length) (by simp)
      have hr := Lib.run_append_grow_string (P := c.P) w t u ty e inf (.int .u8 0) (und_slice ht) (und_str hu) hinf hz' ⟨r, 0, none⟩ s.length cap (s.map bV) (by rw [hs']; simp) holds (bs s2) (by rw [hsz]; omega) (by rw [hsz]; omega) (by rw [hsz, hb']; exact growslice_fits (by omega) (by omega))
      rw [hsz, strCells_bs] at hr
      have hge := grownCap_ge w (s.length + s2.length) cap e
      refine ⟨⟨some (w.heap.size, grownCap w (s.length + s2.length) cap e, (Builtin.zeroCells (Value.int IntKind.u8 0).cells (grownCap w (s.length + s2.length) cap e - (s.length + s2.length))).toList), ⟨?_, ?_⟩, fun h0 => absurd h0 hne⟩, _, exec _ _ (hr.trans (congrArg (fun v => Result.ok v _) (show _ = rowV (s ++ s2).length (some (w.heap.size, grownCap w (s.length + s2.length) cap e, (Builtin.zeroCells (Value.int IntKind.u8 0).cells (grownCap w (s.length + s2.length) cap e - (s.length + s2.length))).toList)) from by rw [rowV, hsl]))), ?_⟩
      · rw [hml, hsl]; omega
      · rw [zlen, hsl]; omega
      · have e1 : ((s.map bV).toArray ++ (s2.map bV).toArray ++ Builtin.zeroCells (Value.int IntKind.u8 0).cells (grownCap w (s.length + s2.length) cap e - (s.length + s2.length))) = ((s ++ s2).map bV ++ (Builtin.zeroCells (Value.int IntKind.u8 0).cells (grownCap w (s.length + s2.length) cap e - (s.length + s2.length))).toList).toArray := by
          apply Array.toList_inj.1; simp
        rw [e1]
        exact (hst.drew.weakL (List.sublist_cons_self _ _)).alloc _
theorem Keep.freeze {w : World} (r n : Nat) : Keep [r] w (w.freeze ⟨r, 0, none⟩ n) := by
  unfold World.freeze
  split
  · exact Keep.refl _ _
  · exact ⟨rfl, rfl, rfl, by simp, fun k _ hn => by
      simp only [Array.getElem?_modify]
      rw [if_neg (by intro e; exact hn (by simp [e]))]⟩
theorem freeze_heap {w : World} {r n : Nat} {cs : Array Value} {e : TypeId} {fr : Nat × Nat} (h : w.heap[r]? = some (.cells cs e fr)) : ∃ fr', (w.freeze ⟨r, 0, none⟩ n).heap[r]? = some (.cells cs e fr') := by
  unfold World.freeze
  split
  · exact ⟨fr, h⟩
  · obtain ⟨lo, hi⟩ := fr
    obtain ⟨hlt, he⟩ := Array.getElem?_eq_some_iff.1 h
    refine ⟨if lo == hi then (0, 0 + n) else (min lo 0, max hi (0 + n)), ?_⟩
    show (w.heap.modify r _)[r]? = _
    rw [Array.getElem?_eq_getElem (by rw [Array.size_modify]; exact hlt), Array.getElem_modify_self, he]
def dataV : Row → Value
  | none => .pointer none
  | some (r, _, _) => .pointer (some ⟨r, 0, none⟩)
theorem R_unsafeData {x : Operand} {row : Row} {n : Nat} (hx : evl l x = some (rowV n row)) (hc : ∀ r cap sp, row = some (r, cap, sp) → cap ≠ 0) :
    RunsTo c d l L X ⟨some i, .call ⟨.builtin .unsafeSliceData, #[x], #[t]⟩, ty, ps, af, gd⟩ (dataV row) := fun a w hf _ => by
  have ex := hf.eval hx
  cases row with
  | none =>
    have hr := Lib.run_unsafeSliceData_nil (P := c.P) w #[t] ty 0 0
    simp only [rowV] at ex
    simp [execOp, resolve, Sem.run_bind, ex, Result.andThen, invoke, builtin, hr, dataV]
  | some q =>
    obtain ⟨r, cap, sp⟩ := q
    have hr := Lib.run_unsafeSliceData_row (P := c.P) w #[t] ty ⟨r, 0, none⟩ n cap (hc r cap sp rfl)
    simp only [rowV] at ex
    simp [execOp, resolve, Sem.run_bind, ex, Result.andThen, invoke, builtin, hr, dataV]
def ptrOf (P : Program) (t : TypeId) : Option TypeId := match P.underlying t with | some (.pointer e) => some e | _ => none
theorem und_ptr {P : Program} {t e : TypeId} (h : ptrOf P t = some e) : P.underlying t = some (.pointer e) := by
  unfold ptrOf at h; split at h <;> simp_all
theorem HL_unsafeString {x y : Operand} {e pt it : TypeId} {s : List UInt8} {L0 : List (Nat × Obj)} {row : Row}
    (hp : L.Perm (rowL e (s.map bV) row ++ L0)) (hg : goes l ops ⟨some i, .call ⟨.builtin .unsafeString, #[x, y], #[pt, it]⟩, ty, ps, af, gd⟩ = some true) (hi : Nat.ble (i + 1) c.n = true)
    (hx : evl l x = some (dataV row)) (hy : evl l y = some (.int .i64 (s.length : Int))) (ht : ptrOf c.P pt = some e) (hc : c.P.cellsOf e = 1)
    (ho : rowOk 1 s.length (s.map bV) row) (ho2 : s = [] → row = none) (hlen : s.length ≤ 9223372036854775807)
    (h : HL c d ((i, .string (bs s)) :: l) L0 X ops rest Q) : HL c d l L X ops (⟨some i, .call ⟨.builtin .unsafeString, #[x, y], #[pt, it]⟩, ty, ps, af, gd⟩ :: rest) Q := by
  refine HL_perm hp ?_
  refine HL_runE (α := Unit) (V := fun _ => .string (bs s)) (L' := fun _ => L0) (X' := fun _ => X) hg rfl rfl hi (fun a w hf hst => ?_) (fun _ => h)
  have exec : ∀ r w', (Builtin.unsafeString_ #[pt, it] ty #[dataV row, .int .i64 s.length]).run c.P w = .ok r w' →
      (execOp a.eval ⟨some i, .call ⟨.builtin .unsafeString, #[x, y], #[pt, it]⟩, ty, ps, af, gd⟩).run c.P w = .ok (.value r) w' := fun r w' hr => by
    have ex := hf.eval hx
    have ey := hf.eval hy
    simp [execOp, resolve, Sem.run_bind, ex, ey, Result.andThen, invoke, builtin, hr]
  cases row with
  | none =>
    obtain ⟨h1, _⟩ := ho
    have hs0 : s = [] := List.eq_nil_of_length_eq_zero h1
    subst hs0
    exact ⟨(), w, exec _ _ (Lib.run_unsafeString_none (P := c.P) w pt it ty none), hst⟩
  | some q =>
    obtain ⟨r, cap, sp⟩ := q
    obtain ⟨h1, h2⟩ := ho
    have hget : w.heap[r]? = some (.cells (s.map bV ++ sp).toArray e (0, 0)) := hst.get (k := 0) rfl
    have hne : s ≠ [] := fun h0 => by have := ho2 h0; cases this
    have hcell : ∀ (j : Nat) (x : UInt8), s[j]? = some x → w.cell? ((⟨r, 0, none⟩ : Addr).add j) = some (.int .u8 x.toNat) := fun j x hx => by
      rw [add_spot, cell_at hget]
      rw [Nat.zero_add, ← Array.getElem?_toList]
      simp only [List.toList_toArray]
      rw [List.getElem?_append_left (by rw [List.length_map]; exact (List.getElem?_eq_some_iff.1 hx).1), List.getElem?_map, hx]; rfl
    have hr := Lib.run_unsafeString_row (P := c.P) w pt it ty e (und_ptr ht) hc r (s.map bV ++ sp).length (by simp [World.shape?, hget]) s hne (by simp) hlen hcell
    obtain ⟨fr', hfr⟩ := freeze_heap (n := s.length) hget
    exact ⟨(), _, exec _ _ hr, (hst.set (k := 0) rfl (Keep.freeze r s.length) hfr).weakL (List.sublist_cons_self _ _)⟩
end
end Go.SL
/-! ### Pointers: to unsafe.Pointer and back; against nil, against itself -/
namespace Go.SL
set_option linter.all false
open Go Go.RowKit Go.Shelf
section
variable {c : Cx} {l : List (Nat × Value)} {L : List (Nat × Obj)} {X : XP} {d : List Deferred}
variable {i : Nat} {v : Value} {t u : TypeId} {ps : String} {af : Array Edge} {gd : Option (Nat × Bool)} {ty t2 : TypeId}
def unsB (P : Program) (t : TypeId) : Bool := match P.underlying t with | some .unsafePointer => true | _ => false
theorem und_uns {P : Program} {t : TypeId} (h : unsB P t = true) : P.underlying t = some .unsafePointer := by
  unfold unsB at h; split at h <;> simp_all
theorem info_sz {P : Program} {t : TypeId} {sz : Nat} (h : szOf P t = some sz) : ∃ inf, P.info? t = some inf ∧ inf.size = sz := by
  unfold szOf at h
  cases hq : P.info? t with
  | none => simp [hq] at h
  | some inf => simp only [hq, Option.some.injEq] at h; exact ⟨inf, rfl, h⟩
theorem R_toUnsafe {x : Operand} {r sz e : Nat} {src dst tt : TypeId} {cs : Array Value} {fr : Nat × Nat} (hx : evl l x = some (.pointer (some ⟨r, 0, none⟩))) (hk : known c L r (.cells cs e fr)) (hs : ptrOf c.P src = some tt) (hd : unsB c.P dst = true) (ht : szOf c.P tt = some sz) (h0 : 0 < sz) (hc : 0 < cs.size) :
    RunsTo c d l L X ⟨some i, .convert src dst x, ty, ps, af, gd⟩ (.pointer (some ⟨r, 0, none⟩)) := fun a w hf hst => by
  obtain ⟨inf, hinf, hsz⟩ := info_sz ht
  have h := hst.known hk
  simp only [execOp]
  rw [hf.eval hx]
  have := Lib.run_to_unsafe (P := c.P) w (e := e) (cells := cs.size) ⟨r, 0, none⟩ (und_ptr hs) (und_uns hd) hinf (by omega) (by simp [World.shape?, h]) hc
  simp only [Sem.run_bind, this]; rfl
theorem R_fromUnsafe {x : Operand} {r sz e : Nat} {src dst tt : TypeId} {cs : Array Value} {fr : Nat × Nat} (hx : evl l x = some (.pointer (some ⟨r, 0, none⟩))) (hk : known c L r (.cells cs e fr)) (hs : unsB c.P src = true) (hd : ptrOf c.P dst = some tt) (ht : szOf c.P tt = some sz) (hl : liesAt c.P c.P.depth e (cs.size / c.P.cellsOf e) 0 tt 1 = true) :
    RunsTo c d l L X ⟨some i, .convert src dst x, ty, ps, af, gd⟩ (.pointer (some ⟨r, 0, none⟩)) := fun a w hf hst => by
  obtain ⟨inf, hinf, hsz⟩ := info_sz ht
  have h := hst.known hk
  simp only [execOp]
  rw [hf.eval hx]
  have := Lib.run_from_unsafe (P := c.P) w (e := e) (cells := cs.size) ⟨r, 0, none⟩ (und_uns hs) (und_ptr hd) hinf (by simp [World.shape?, h]) hl
  simp only [Sem.run_bind, this]; rfl
theorem R_noEscape {x f : Operand} {v : Value} {g : FuncId} {fn : Func} {at_ : Array TypeId} (hf : evl l f = some (.func (.func g) #[] #[])) (hx : evl l x = some v)
    (hF : c.P.funcs[g]? = some fn) (hn1 : (fn.name == "runtime.NumGoroutine") = false) (hb : fn.body.isNone = true) (hn2 : Extern.findNext fn = none) (he : Extern.find fn = some Extern.AbiNoEscape.same) :
    RunsTo c d l L X ⟨some i, .call ⟨.value f, #[x], at_⟩, ty, ps, af, gd⟩ v := fun a w hfr hst => by
  have ef := hfr.eval hf
  have ex := hfr.eval hx
  have hcf : (callFunc g #[v]).run c.P w = .ok (.value v) w := by
    rw [run_callFunc_extern hF hn1 hb hn2 he, Lib.run_noEscape]; rfl
  simp [execOp, resolve, Sem.run_bind, ef, ex, Deferred.ofValue, Result.andThen, invoke, hcf]
theorem R_neSelf {x y : Operand} {q : Addr} {sz : Nat} {tt : TypeId} (hx : evl l x = some (.pointer (some q))) (hy : evl l y = some (.pointer (some q))) (ht : ptrOf c.P t = some tt) (hs : szOf c.P tt = some sz) :
    RunsTo c d l L X ⟨some i, .binOp .neq t x y t2, ty, ps, af, gd⟩ (.bool false) := fun a w hf _ => by
  obtain ⟨inf, hinf, hsz⟩ := info_sz hs
  simp only [execOp]
  rw [hf.eval hx, hf.eval hy]
  have := Lib.run_neq_ptr_same (P := c.P) w q (und_ptr ht) hinf
  simp [eqGuard, Sem.run_bind, this, Result.andThen]
theorem R_eqNilN {x y : Operand} {tt : TypeId} {sz : Nat} (hx : evl l x = some (.pointer none)) (hy : evl l y = some (.pointer none)) (ht : ptrOf c.P t = some tt) (hs : szOf c.P tt = some sz) :
    RunsTo c d l L X ⟨some i, .binOp .eql t x y t2, ty, ps, af, gd⟩ (.bool true) := fun a w hf _ => by
  obtain ⟨inf, hinf, hsz⟩ := info_sz hs
  have h : ∀ d : Nat, (Op.equalIn (d + 1) t (.pointer none) (.pointer none)).run c.P w = .ok true w := fun d => by
    simp [Op.equalIn, run_underlying (und_ptr ht), sizeOf, typeInfo, hinf]
  simp only [execOp]
  rw [hf.eval hx, hf.eval hy]
  simp only [binOp]
  simp [eqGuard, Op.equal, Op.maxDepth, h 9999, Sem.run_bind, Result.andThen]
theorem R_eqNilS {x y : Operand} {q : Addr} {tt : TypeId} {sz : Nat} (hx : evl l x = some (.pointer (some q))) (hy : evl l y = some (.pointer none)) (ht : ptrOf c.P t = some tt) (hs : szOf c.P tt = some sz) :
    RunsTo c d l L X ⟨some i, .binOp .eql t x y t2, ty, ps, af, gd⟩ (.bool false) := fun a w hf _ => by
  obtain ⟨inf, hinf, hsz⟩ := info_sz hs
  have h : ∀ d : Nat, (Op.equalIn (d + 1) t (.pointer (some q)) (.pointer none)).run c.P w = .ok false w := fun d => by
    simp [Op.equalIn, run_underlying (und_ptr ht), sizeOf, typeInfo, hinf]
  simp only [execOp]
  rw [hf.eval hx, hf.eval hy]
  simp only [binOp]
  simp [eqGuard, Op.equal, Op.maxDepth, h 9999, Sem.run_bind, Result.andThen]
end
end Go.SL
namespace Go.Proofs.YtlcbfphioeppaaaGreatDoor
set_option linter.all false
open Go.SL Go.RowKit Go.Shelf
/-! ### strings.Builder -/
abbrev pB (own : Bool) (r : Nat) : Value := .pointer (if own then some ⟨r, 0, none⟩ else none)
def bldB (r : Nat) (s : BS) (row : Row) (own : Bool) : Nat × Obj := (r, .cells #[pB own r, rowV s.length row] 121 (0, 0))
def bldL (r : Nat) (s : BS) (row : Row) (own : Bool) : List (Nat × Obj) := bldB r s row own :: rowL 5 (s.map bV) row
def bOk (s : BS) (row : Row) : Prop := rowOk 1 s.length (s.map bV) row ∧ (s = [] → row = none)
set_option maxRecDepth 10000 in
theorem T_copyCheck (r : Nat) (own : Bool) (v : Value) : PureT (α := Unit) Tryz.prog 191 [pt0 r].toArray (fun _ => .tuple #[]) [(r, .cells #[pB own r, v] 121 (0, 0))] (fun _ => [(r, .cells #[pB true r, v] 121 (0, 0))]) [] := by
  cases own with
  | false =>
    refine pureT_of_HC Tryz.func191 rfl rfl fun w => ?_; refine HC_seq fun K1 hK1 => HC_region ?_; refine HLm rfl (HLp rfl ?_)
    refine HL_r rfl rfl rfl rfl (R_fieldAddr rfl rfl (by first | (simp only [Nat.zero_add, Nat.reduceAdd, Nat.reduceMul, Nat.zero_mul, Nat.mul_one, Nat.add_zero]; exact rfl) | exact rfl)) ?_; refine HL_r rfl rfl rfl rfl (R_load (v := .pointer none) rfl (known_L (k := 0) rfl) rfl rfl) ?_; refine HL_r rfl rfl rfl rfl (R_eqNilN rfl rfl rfl rfl) ?_; refine HL_nil (hK1 _ _ _ _ ?_); refine HC_cond rfl (fun h2 => ?_) (fun h2 => ?_)
    · try exact Bool.noConfusion h2
      try simp only [ZZ] at h2
      refine HC_region (HLm rfl ?_); refine HLm rfl (HL_r rfl rfl rfl rfl (R_toUnsafe (sz := 2) rfl (known_L (k := 0) rfl) rfl rfl rfl (by decide) (by simp)) (HL_r rfl rfl rfl rfl (R_noEscape rfl rfl (Tryz.func216) (by kernel_rfl) rfl rfl rfl) ?_)); refine HL_r rfl rfl rfl rfl (R_fromUnsafe rfl (known_L (k := 0) rfl) rfl rfl rfl (by kernel_rfl)) ?_; refine HLp rfl ?_
      refine HL_r rfl rfl rfl rfl (R_fieldAddr rfl rfl (by first | (simp only [Nat.zero_add, Nat.reduceAdd, Nat.reduceMul, Nat.zero_mul, Nat.mul_one, Nat.add_zero]; exact rfl) | exact rfl)) ?_; refine HL_store (k := 0) (cs' := #[pt0 r, v]) rfl rfl rfl rfl rfl rfl rfl rfl rfl rfl ?_; refine HL_nil ?_; refine HQ_postN rfl rfl .nil (fun w1 hs1 => ?_); exact ⟨(), rfl, hs1⟩
    · try exact Bool.noConfusion h2
  | true =>
    refine pureT_of_HC Tryz.func191 rfl rfl fun w => ?_; refine HC_seq fun K1 hK1 => HC_region ?_; refine HLm rfl (HLp rfl ?_)
    refine HL_r rfl rfl rfl rfl (R_fieldAddr rfl rfl (by first | (simp only [Nat.zero_add, Nat.reduceAdd, Nat.reduceMul, Nat.zero_mul, Nat.mul_one, Nat.add_zero]; exact rfl) | exact rfl)) ?_; refine HL_r rfl rfl rfl rfl (R_load (v := pt0 r) rfl (known_L (k := 0) rfl) rfl rfl) ?_; refine HL_r rfl rfl rfl rfl (R_eqNilS rfl rfl rfl rfl) ?_; refine HL_nil (hK1 _ _ _ _ ?_); refine HC_cond rfl (fun h2 => ?_) (fun h2 => ?_)
    · try exact Bool.noConfusion h2
    · try exact Bool.noConfusion h2
      try simp only [ZZ] at h2
      refine HC_seq fun K3 hK3 => HC_region ?_; refine HLm rfl (HLp rfl ?_)
      refine HL_r rfl rfl rfl rfl (R_fieldAddr rfl rfl (by first | (simp only [Nat.zero_add, Nat.reduceAdd, Nat.reduceMul, Nat.zero_mul, Nat.mul_one, Nat.add_zero]; exact rfl) | exact rfl)) ?_; refine HL_r rfl rfl rfl rfl (R_load (v := pt0 r) rfl (known_L (k := 0) rfl) rfl rfl) ?_; refine HLm rfl (HL_r rfl rfl rfl rfl (R_neSelf rfl rfl rfl rfl) ?_); refine HL_nil (hK3 _ _ _ _ ?_); refine HC_cond rfl (fun h4 => ?_) (fun h4 => ?_)
      · try exact Bool.noConfusion h4
      · try exact Bool.noConfusion h4
        try simp only [ZZ] at h4
        refine HC_skip ?_; refine HQ_postN rfl rfl .nil (fun w1 hs1 => ?_); exact ⟨(), rfl, hs1⟩
theorem T_copyCheckB (r : Nat) (s : BS) (row : Row) (own : Bool) : PureT (α := Unit) Tryz.prog 191 [pt0 r].toArray (fun _ => .tuple #[]) [bldB r s row own] (fun _ => [bldB r s row true]) [] := T_copyCheck r own _
set_option maxRecDepth 10000 in
theorem T_Write {r : Nat} {s s2 : BS} {row : Row} {own : Bool} (hb : bOk s row) (hl : s.length + s2.length ≤ 1000000) :
    PureT (α := { x : Row // bOk (s ++ s2) x }) Tryz.prog 123 [pt0 r, strV s2].toArray (fun _ => .tuple #[.int .i64 (s2.length : Int), .nilIface]) (bldL r s row own) (fun x => bldL r (s ++ s2) x.1 true) [] := by
  refine pureT_of_HC Tryz.func123 rfl rfl fun w => ?_
  unfold bldL
  refine HC_seq fun K1 hK1 => HC_region ?_; refine HLm rfl (HLm rfl ?_); refine HL_nil (hK1 _ _ _ _ ?_); refine HC_seq fun K2 hK2 => HC_region ?_; refine HLm rfl (HL_callT (T := [bldB r s row own]) (L0 := rowL 5 (s.map bV) row) (Rl := []) (List.Perm.refl _) rfl rfl rfl (enters_of Tryz.func191 (by kernel_rfl) rfl) (T_copyCheckB r s row own) (fun q hq => nomatch hq) fun u => ?_); change HL _ _ _ (bldB r s row true :: rowL 5 (s.map bV) row) _ _ _ _; refine HL_nil (hK2 _ _ _ _ ?_); refine HC_seq fun K3 hK3 => HC_region ?_; refine HLm rfl (HLm rfl (HLp rfl ?_))
  refine HL_r rfl rfl rfl rfl (R_fieldAddr rfl rfl (by first | (simp only [Nat.zero_add, Nat.reduceAdd, Nat.reduceMul, Nat.zero_mul, Nat.mul_one, Nat.add_zero]; exact rfl) | exact rfl)) ?_; refine HL_r rfl rfl rfl rfl (R_load (v := rowV s.length row) rfl (known_L (k := 0) rfl) rfl rfl) ?_; refine HLm rfl (HL_appendS (e := 5) (s := s) (s2 := s2) (row := row) (L0 := [bldB r s row true]) (List.perm_append_comm (l₁ := [_])) rfl rfl rfl rfl rfl rfl rfl rfl rfl hb.1 hb.2 (by omega) fun row2 h1 h2 => (HL_perm List.perm_append_comm ?_)); change HL _ _ _ ((r, .cells #[pB true r, rowV s.length row] 121 (0, 0)) :: rowL 5 ((s ++ s2).map bV) row2) _ _ _ _; refine HLp rfl ?_
  refine HL_r rfl rfl rfl rfl (R_fieldAddr rfl rfl (by first | (simp only [Nat.zero_add, Nat.reduceAdd, Nat.reduceMul, Nat.zero_mul, Nat.mul_one, Nat.add_zero]; exact rfl) | exact rfl)) ?_; refine HL_store (k := 0) (cs' := #[pB true r, rowV (s ++ s2).length row2]) rfl rfl rfl rfl rfl (rowV_one1 _ _) rfl rfl rfl rfl ?_; refine HL_nil (hK3 _ _ _ _ ?_); refine HC_seq fun K4 hK4 => HC_region ?_; refine HLm rfl (HL_r rfl rfl rfl rfl (R_lenBs rfl rfl) ?_); refine HLm rfl (HLm rfl ?_); refine HL_nil (hK4 _ _ _ _ ?_); refine HC_ret ?_; refine HQ_post rfl rfl (.cons (res_tmp rfl) (.cons (res_tmp rfl) .nil)) (fun w1 hs1 => ?_); exact ⟨⟨row2, h1, h2⟩, rfl, hs1⟩
set_option maxRecDepth 10000 in
theorem P_bLen (r : Nat) {s : BS} {row : Row} (own : Bool) (hb : bOk s row) : PureR Tryz.prog 124 [pt0 r].toArray (.int .i64 (s.length : Int)) [bldB r s row own] := by
  refine pureR_of_HC Tryz.func124 rfl rfl fun w => ?_; refine HC_seq fun K1 hK1 => HC_region ?_; refine HLm rfl ?_; refine HL_nil (hK1 _ _ _ _ ?_); refine HC_seq fun K2 hK2 => HC_region ?_; refine HLm rfl (HLp rfl ?_)
  refine HL_r rfl rfl rfl rfl (R_fieldAddr rfl rfl (by first | (simp only [Nat.zero_add, Nat.reduceAdd, Nat.reduceMul, Nat.zero_mul, Nat.mul_one, Nat.add_zero]; exact rfl) | exact rfl)) ?_; refine HL_r rfl rfl rfl rfl (R_load (v := rowV s.length row) rfl (known_R (k := 0) rfl) rfl rfl) ?_; refine HL_r rfl rfl rfl rfl (R_lenRow rfl hb.1.zero rfl) ?_; refine HLm rfl ?_; refine HL_nil (hK2 _ _ _ _ ?_); refine HC_ret ?_; refine HQ_post rfl rfl (.cons (res_tmp rfl) .nil) (fun w1 hs1 => ?_); exact ⟨rfl, hs1.keep⟩
set_option maxRecDepth 10000 in
theorem T_bStr {r : Nat} {s : BS} {row : Row} {own : Bool} (hb : bOk s row) (hl : s.length ≤ 1000000) :
    PureT (α := Unit) Tryz.prog 125 [pt0 r].toArray (fun _ => strV s) (bldL r s row own) (fun _ => []) [] := by
  have hcap : ∀ q cap sp, row = some (q, cap, sp) → cap ≠ 0 := by
    rintro q cap sp rfl h0
    obtain ⟨⟨h1, h2⟩, h3⟩ := hb
    have h4 : s.length = 0 := by omega
    have := h3 (List.eq_nil_of_length_eq_zero h4)
    cases this
  refine pureT_of_HC Tryz.func125 rfl rfl fun w => ?_
  unfold bldL
  refine HC_seq fun K1 hK1 => HC_region ?_; refine HLm rfl ?_; refine HL_nil (hK1 _ _ _ _ ?_); refine HC_seq fun K2 hK2 => ?_
  refine HC_drawB [] [(0, .pure), (1, .pure), (2, .pure), (4, .pure), (5, .pure), (6, .pure), (7, .pure), (9, .pure)] 10 [0, 1, 2, 3, 4, 5, 6, 7, 8, 9] (by kernel_rfl) (by kernel_rfl) (by first | exact (fun _ h => nomatch h) | simp [SubS] | (intro p hp; simp [hp])) ?_; refine HB_p (k := 0) rfl rfl rfl rfl rfl (fun _ hS => (R_move rfl)) ?_; refine HB_p (k := 1) rfl rfl rfl rfl rfl (fun _ hS => (R_pure rfl rfl rfl)) ?_
  refine HB_p (k := 2) rfl rfl rfl rfl rfl (fun _ hS => (R_fieldAddr rfl rfl (by first | (simp only [Nat.zero_add, Nat.reduceAdd, Nat.reduceMul, Nat.zero_mul, Nat.mul_one, Nat.add_zero]; exact rfl) | exact rfl))) ?_; refine HB_r (k := 3) rfl rfl rfl rfl rfl (R_load (v := rowV s.length row) rfl (known_L (k := 0) rfl) rfl rfl) ?_; refine HB_p (k := 4) rfl rfl rfl rfl rfl (fun _ _ => R_unsafeData rfl hcap) ?_; refine HB_p (k := 5) rfl rfl rfl rfl rfl (fun _ hS => (R_move rfl)) ?_; refine HB_p (k := 6) rfl rfl rfl rfl rfl (fun _ hS => (R_pure rfl rfl rfl)) ?_
  refine HB_p (k := 7) rfl rfl rfl rfl rfl (fun _ hS => (R_fieldAddr rfl rfl (by first | (simp only [Nat.zero_add, Nat.reduceAdd, Nat.reduceMul, Nat.zero_mul, Nat.mul_one, Nat.add_zero]; exact rfl) | exact rfl))) ?_; refine HB_r (k := 8) rfl rfl rfl rfl rfl (R_load (v := rowV s.length row) rfl (known_L (k := 0) rfl) rfl rfl) ?_; refine HB_p (k := 9) rfl rfl rfl rfl rfl (fun _ _ => R_lenRow rfl hb.1.zero rfl) ?_; refine HB_end ?_; refine HL_unsafeString (e := 5) (s := s) (row := row) (L0 := [bldB r s row own]) (List.perm_append_comm (l₁ := [_])) rfl rfl rfl rfl rfl rfl hb.1 hb.2 (by omega) ?_; refine HLm rfl ?_; refine HL_nil (hK2 _ _ _ _ ?_); refine HC_ret ?_; refine HQ_post rfl rfl (.cons (res_tmp rfl) .nil) (fun w1 hs1 => ?_); exact ⟨(), rfl, hs1.weakL (List.nil_sublist _)⟩
end Go.Proofs.YtlcbfphioeppaaaGreatDoor
namespace Go.Proofs.YtlcbfphioeppaaaGreatDoor
set_option linter.all false
open Go.SL Go.RowKit Go.Shelf
/-! ### Sizes, types of items, beginnings -/
theorem begT_eq (x : Ty) : begT x = if isFix x then sizT x else 4 := rfl
set_option maxRecDepth 10000 in
theorem S_ssize {R : List (Nat × Obj)} {t : Ty} (ht : t.In R) : PureR Tryz.prog 122 [t.val].toArray (.tuple #[.int .i64 (begT t), .bool (isFix t)]) R := by
  have h1 := S_Fixed ht
  have h2 := S_Size ht
  unfold sizeT at h2
  rw [begT_eq]
  generalize isFix t = b at h1 h2 ⊢
  generalize sizT t = z at h2 ⊢
  obtain ⟨k, n, p, ins⟩ := t
  refine pureR_of_HC Tryz.func122 rfl rfl fun w => ?_; refine HC_seq fun K1 hK1 => HC_region ?_; refine HL_box (cs := #[_, _, _]) rfl rfl rfl rfl fun r1 => ?_; refine HLm rfl (HLm rfl ?_); refine HL_nil (hK1 _ _ _ _ ?_); clear hK1 K1; refine HC_seq fun K2 hK2 => ?_; refine HC_seq fun K3 hK3 => HC_region ?_; refine HL_r rfl rfl rfl rfl (R_loadA (vs := [_, _, _]) rfl (known_L (k := 0) rfl) rfl rfl rfl rfl) ?_; refine HL_callR rfl rfl rfl (enters_of Tryz.func24 (by kernel_rfl) rfl) h1 (fun q hq => Or.inr hq) ?_; refine HL_nil (hK3 _ _ _ _ ?_); clear hK3 K3; refine HC_cond rfl (fun h4 => ?_) (fun h4 => ?_)
  · try exact Bool.noConfusion h4
    try simp only [ZZ] at h4
    refine HC_seq fun K5 hK5 => HC_region ?_; refine HL_r rfl rfl rfl rfl (R_loadA (vs := [_, _, _]) rfl (known_L (k := 0) rfl) rfl rfl rfl rfl) ?_; refine HL_callR rfl rfl rfl (enters_of Tryz.func25 (by kernel_rfl) rfl) h2 (fun q hq => Or.inr hq) ?_; refine HLm rfl (HLm rfl ?_); refine HL_nil (hK5 _ _ _ _ ?_); clear hK5 K5; refine HC_ret (HQ_thenR ?_); clear hK2 K2; refine HQ_post rfl rfl (.cons (res_tmp rfl) (.cons (res_tmp rfl) .nil)) (fun w1 hs1 => ?_); refine ⟨?_, hs1.keep⟩
    simp_all [resVal]
  · try exact Bool.noConfusion h4
    try simp only [ZZ] at h4
    refine HC_skip (hK2 _ _ _ _ ?_); clear hK2 K2; refine HC_seq fun K6 hK6 => HC_region ?_; refine HLm rfl (HLm rfl ?_); refine HL_nil (hK6 _ _ _ _ ?_); clear hK6 K6; refine HC_ret ?_; refine HQ_post rfl rfl (.cons (res_tmp rfl) (.cons (res_tmp rfl) .nil)) (fun w1 hs1 => ?_); refine ⟨?_, hs1.keep⟩
    simp_all [resVal]
set_option maxRecDepth 10000 in
theorem S_sin {R : List (Nat × Obj)} {k n : Int} {p : Pl} {ins : List Ty} {pick : Int} {i : Nat} (ht : Ty.In R (.mk k n p ins)) (hp8 : k = 8 → 0 ≤ pick) (hx : inX k pick i < ins.length) : PureR Tryz.prog 190 [Ty.val (.mk k n p ins), .int .i64 pick, .int .i64 (i : Int)].toArray (inTy k pick ins i).val R := by
  have hty := inTy_get hx
  cases ht with
  | @mk k n p ins hk hn hlt hst hit =>
  obtain ⟨X, hX⟩ : ∃ X, X = inTy k pick ins i := ⟨_, rfl⟩
  rw [← hX] at hty ⊢; refine pureR_of_HC Tryz.func190 rfl rfl fun w => ?_; refine HC_seq fun K1 hK1 => HC_region ?_; refine HL_box (cs := #[_, _, _]) rfl rfl rfl rfl fun r1 => ?_; refine HL_alloc (cs := #[_, _, _]) rfl rfl rfl rfl fun r2 => ?_; refine HL_nil (hK1 _ _ _ _ ?_); refine HC_seq fun K2 hK2 => ?_; refine HC_seq fun K3 hK3 => HC_region ?_
  refine HL_r rfl rfl rfl rfl (R_fieldAddr rfl rfl (by first | (simp only [Nat.zero_add, Nat.reduceAdd, Nat.reduceMul, Nat.zero_mul, Nat.mul_one, Nat.add_zero]; exact rfl) | exact rfl)) ?_; refine HL_r rfl rfl rfl rfl (R_load rfl (known_L (k := 1) rfl) rfl rfl) ?_; refine HL_nil (hK3 _ _ _ _ ?_); refine HC_block (HC_seq fun K4 hK4 => HC_region ?_); refine HLp rfl (HLm rfl ?_); refine HL_nil (hK4 _ _ _ _ ?_); refine HC_cond rfl (fun h5 => ?_) (fun h5 => ?_)
  · try exact Bool.noConfusion h5
    try simp only [ZZ] at h5
    refine HC_seq fun K6 hK6 => HC_region ?_
    refine HL_r rfl rfl rfl rfl (R_fieldAddr rfl rfl (by first | (simp only [Nat.zero_add, Nat.reduceAdd, Nat.reduceMul, Nat.zero_mul, Nat.mul_one, Nat.add_zero]; exact rfl) | exact rfl)) ?_; refine HL_r rfl rfl rfl rfl (R_load rfl (known_L (k := 1) rfl) rfl rfl) ?_; refine HLm rfl ?_; refine HL_r rfl rfl rfl rfl (R_indexPl (j := inX k pick i) rfl hst rfl rfl rfl (by unfold inX; rw [if_pos (by assumption)]) hx) ?_; refine HL_r rfl rfl rfl rfl (R_loadTy (fun q hq => Or.inr hq) rfl hst hty.1 rfl rfl) ?_; refine HL_storeArr (k := 0) (n := 3) (ys := X.cells) rfl rfl rfl rfl rfl X.len rfl X.one rfl ?_; refine HL_nil (hK6 _ _ _ _ ?_); refine HC_ret (HQ_blockR (HQ_thenR ?_)); refine HQ_post rfl rfl (.cons (res_cellA (vs := X.cells) rfl (known_L (k := 0) rfl) rfl (by rw [X.len]; rfl)) .nil) (fun w1 hs1 => ?_); exact ⟨rfl, hs1.keep⟩
  · try exact Bool.noConfusion h5
    try simp only [ZZ] at h5
    refine HC_seq fun K7 hK7 => HC_region ?_; refine HLp rfl (HLm rfl ?_); refine HL_nil (hK7 _ _ _ _ ?_); refine HC_cond rfl (fun h8 => ?_) (fun h8 => ?_)
    · try exact Bool.noConfusion h8
      try simp only [ZZ] at h8
      refine HC_seq fun K9 hK9 => HC_region ?_
      refine HL_r rfl rfl rfl rfl (R_fieldAddr rfl rfl (by first | (simp only [Nat.zero_add, Nat.reduceAdd, Nat.reduceMul, Nat.zero_mul, Nat.mul_one, Nat.add_zero]; exact rfl) | exact rfl)) ?_; refine HL_r rfl rfl rfl rfl (R_load rfl (known_L (k := 1) rfl) rfl rfl) ?_; refine HLm rfl ?_; refine HL_r rfl rfl rfl rfl (R_indexPl (j := inX k pick i) rfl hst rfl rfl rfl (by unfold inX; rw [if_neg (by assumption), if_pos (by assumption)]; have := hp8 (by assumption); omega) hx) ?_; refine HL_r rfl rfl rfl rfl (R_loadTy (fun q hq => Or.inr hq) rfl hst hty.1 rfl rfl) ?_; refine HL_storeArr (k := 0) (n := 3) (ys := X.cells) rfl rfl rfl rfl rfl X.len rfl X.one rfl ?_; refine HL_nil (hK9 _ _ _ _ ?_); refine HC_ret (HQ_blockR (HQ_thenR ?_)); refine HQ_post rfl rfl (.cons (res_cellA (vs := X.cells) rfl (known_L (k := 0) rfl) rfl (by rw [X.len]; rfl)) .nil) (fun w1 hs1 => ?_); exact ⟨rfl, hs1.keep⟩
    · try exact Bool.noConfusion h8
      try simp only [ZZ] at h8
      refine HC_skip (HQ_blockN (hK2 _ _ _ _ ?_)); refine HC_seq fun K10 hK10 => HC_region ?_
      refine HL_r rfl rfl rfl rfl (R_fieldAddr rfl rfl (by first | (simp only [Nat.zero_add, Nat.reduceAdd, Nat.reduceMul, Nat.zero_mul, Nat.mul_one, Nat.add_zero]; exact rfl) | exact rfl)) ?_; refine HL_r rfl rfl rfl rfl (R_load rfl (known_L (k := 1) rfl) rfl rfl) ?_; refine HL_r rfl rfl rfl rfl (R_indexPl (j := inX k pick i) rfl hst rfl rfl rfl (by unfold inX; rw [if_neg (by assumption), if_neg (by assumption)]; rfl) hx) ?_; refine HL_r rfl rfl rfl rfl (R_loadTy (fun q hq => Or.inr hq) rfl hst hty.1 rfl rfl) ?_; refine HL_storeArr (k := 0) (n := 3) (ys := X.cells) rfl rfl rfl rfl rfl X.len rfl X.one rfl ?_; refine HL_nil (hK10 _ _ _ _ ?_); refine HC_ret ?_; refine HQ_post rfl rfl (.cons (res_cellA (vs := X.cells) rfl (known_L (k := 0) rfl) rfl (by rw [X.len]; rfl)) .nil) (fun w1 hs1 => ?_); exact ⟨rfl, hs1.keep⟩
def tysN (k : Int) (ins : List Ty) (m : Nat) : List Ty := (List.range m).map fun i => inTy k 0 ins i
theorem begL_app : ∀ a b : List Ty, begL (a ++ b) = begL a + begL b
  | [], b => by rw [List.nil_append, begL, Int.zero_add]
  | x :: xs, b => by rw [List.cons_append, begL, begL, begL_app xs b, Int.add_assoc]
theorem begL_snoc (k : Int) (ins : List Ty) (i : Nat) : begL (tysN k ins (i + 1)) = begL (tysN k ins i) + begT (inTy k 0 ins i) := by
  unfold tysN
  rw [List.range_succ, List.map_append, begL_app, List.map_cons, List.map_nil, begL, begL, Int.add_zero]
theorem begT_le (x : Ty) : 1 ≤ begT x ∧ begT x ≤ 2251799813685248 := by
  unfold begT
  split
  · rename_i h
    obtain ⟨h1, h2⟩ := isFix_iff.1 h
    have h3 := siz_le x 0 (Int.le_refl _) h1 h2
    have h4 := bnd_le (show (5 - (0 : Int)).toNat ≤ 5 by decide)
    omega
  · omega
theorem begL_le : ∀ l : List Ty, 0 ≤ begL l ∧ begL l ≤ 2251799813685248 * l.length
  | [] => by rw [begL]; simp
  | x :: xs => by
    have h1 := begT_le x
    have h2 := begL_le xs
    rw [begL, List.length_cons]; omega
theorem tysN_len (k : Int) (ins : List Ty) (m : Nat) : (tysN k ins m).length = m := by unfold tysN; rw [List.length_map, List.length_range]
def iBlk (r : Nat) (m : Int) : Nat × Obj := (r, .cells #[.int .i64 m] 3 (0, 0))
set_option maxRecDepth 10000 in
theorem E_items (t : Ty) (m : Int) : PureE (α := Nat × Nat) Tryz.prog 121 [t.val, .int .i64 m].toArray (fun p => .func (.func 189) #[] #[pt0 p.2, pt0 p.1]) (fun p => [iBlk p.2 m, tBlk p.1 t]) := by
  obtain ⟨k, n, p, ins⟩ := t
  refine pureE_of_HC Tryz.func121 rfl rfl fun w => ?_; refine HC_seq fun K1 hK1 => HC_region ?_; refine HL_box (cs := #[_, _, _]) rfl rfl rfl rfl fun r1 => ?_; refine HL_box (cs := #[_]) rfl rfl rfl rfl fun r2 => ?_; refine HLm rfl ?_; refine HL_nil (hK1 _ _ _ _ ?_); refine HC_seq fun K2 hK2 => HC_region ?_; refine HL_r rfl rfl rfl rfl (R_makeFunc rfl rfl) ?_; refine HLm rfl ?_; refine HL_nil (hK2 _ _ _ _ ?_); refine HC_ret ?_; refine HQ_post rfl rfl (.cons (res_tmp rfl) .nil) (fun w1 hs1 => ?_); exact ⟨(r1, r2), rfl, hs1⟩
def itV (k : Int) (ins : List Ty) (i : Nat) : List Value := [.int .i64 (i : Int), (inTy k 0 ins i).val]
set_option maxRecDepth 10000 in
theorem I_items {R : List (Nat × Obj)} {k n : Int} {p : Pl} {ins : List Ty} {m : Nat} (ht : Ty.In R (.mk k n p ins)) (hm : m ≤ 1000000) (hx : ∀ i, i < m → inX k 0 i < ins.length) (rt ri : Nat) :
    Iter Tryz.prog 189 [pt0 ri, pt0 rt] (iBlk ri m :: tBlk rt (.mk k n p ins) :: R) 0 (nxN (itV k ins) m) (finN m) := by
  refine iter_of_HC Tryz.func189 rfl rfl fun q xids w2 XI XF hY => ?_; refine HC_seq fun K1 hK1 => HC_region ?_; refine HL_r rfl rfl rfl rfl (R_load (v := .int .i64 (m : Int)) rfl (known_R (k := 0) rfl) rfl rfl) ?_; refine HLm rfl ?_; refine HL_nil (hK1 _ _ _ _ ?_); refine HC_block (HC_loop (σ := Nat) (fun i => i ≤ m) (fun i => [(0, .func (.yield q) #[] #[]), (1, pt0 ri), (2, pt0 rt), (5, .int .i64 (m : Int)), (6, .int .i64 (i : Int))]) (fun _ => []) (fun i => XI i) (fun i => m - i) 0 (Nat.zero_le _) (.cons rfl (.cons rfl (.cons rfl (.cons rfl (.cons rfl .nil))))) (List.Sublist.refl _) (fun _ _ h => h) ?_); intro i hi; refine HC_seq fun K2 hK2 => HC_region ?_; refine HLp rfl ?_; refine HL_nil (hK2 _ _ _ _ ?_); refine HC_seq fun K3 hK3 => ?_; refine HC_cond rfl (fun h4 => ?_) (fun h4 => ?_)
  · try exact Bool.noConfusion h4
    try simp only [ZZ] at h4
    refine HC_skip (hK3 _ _ _ _ ?_); refine HC_seq fun K5 hK5 => HC_block ?_; refine HC_seq fun K6 hK6 => HC_region ?_; refine HLm rfl (HLm rfl ?_); refine HL_nil (hK6 _ _ _ _ ?_); refine HC_seq fun K7 hK7 => ?_
    have hil : i < m := by omega
    refine HC_region (HLm rfl ?_); refine HLm rfl (HL_r rfl rfl rfl rfl (R_loadArr (xs := Ty.cells (.mk k n p ins)) (n := 3) rfl (known_R (k := 1) rfl) rfl rfl (Ty.len _)) ?_); refine HLm rfl (HL_callR rfl rfl rfl (enters_of Tryz.func190 (by kernel_rfl) rfl) (S_sin ht (fun _ => Int.le_refl 0) (hx i hil)) (fun q hq => Or.inr (List.mem_cons_of_mem _ (List.mem_cons_of_mem _ hq))) ?_); refine HL_yield (XT := XI (i + 1)) (XF := XF) rfl rfl rfl rfl (hY i (itV k ins i) (i + 1) ⟨hil, rfl, rfl⟩) ?_ ?_
    all_goals refine HLp rfl ?_
    all_goals refine HL_nil ?_
    all_goals (
     refine hK7 _ _ _ _ ?_; refine HC_cond rfl (fun h8 => ?_) (fun h8 => ?_)
     · try exact Bool.noConfusion h8
       all_goals try simp only [ZZ] at h8
       all_goals (
        refine HC_ret (HQ_blockR (HQ_thenR ?_)); refine HQ_thenR (HQ_blockR ?_); refine HQ_post rfl rfl .nil (fun w1 hs1 => ?_)
        obtain ⟨xs1, hx1⟩ := hs1.now
        exact ⟨⟨_, rfl⟩, hs1.keep, .inr ⟨_, hx1⟩⟩
        skip)
     · try exact Bool.noConfusion h8
       all_goals try simp only [ZZ] at h8
       all_goals (
        refine HC_skip (HQ_blockN (hK5 _ _ _ _ ?_)); refine HC_region ?_
        refine HLp rfl ?_; refine HL_as (show _ = Value.int .i64 ((i + 1 : Nat) : Int) from by rw [wrap_i64 (by omega) (by omega)]; congr 1 <;> omega) ?_; refine HLm rfl (HL_nil (HQ_then ?_)); exact HQ_again (i + 1) (by omega) (by omega) (.cons rfl (.cons rfl (.cons rfl (.cons rfl (.cons rfl .nil))))) (List.Sublist.refl _) (fun _ _ h => h)
        skip)
     skip)
  · try exact Bool.noConfusion h4
    try simp only [ZZ] at h4
    refine HC_exit (HQ_thenE ?_); refine HQ_thenE (HQ_blockE ?_); refine HQ_postN rfl rfl .nil (fun w1 hs1 => ?_)
    obtain ⟨xs1, hx1⟩ := hs1.now
    exact ⟨⟨_, rfl⟩, hs1.keep, .inl ⟨i, _, (by show i = m; omega), hx1⟩⟩
set_option maxRecDepth 10000 in
theorem S_sbegin {R : List (Nat × Obj)} {k n : Int} {p : Pl} {ins : List Ty} {m : Nat} (ht : Ty.In R (.mk k n p ins)) (hm : m ≤ 600) (hx : ∀ i, i < m → inX k 0 i < ins.length) : PureR Tryz.prog 120 [Ty.val (.mk k n p ins), .int .i64 (m : Int)].toArray (.int .i64 (begL (tysN k ins m))) R := by
  have hti := fun i h => ht.sub _ (inTy_get (hx i h)).2
  refine pureR_of_HC Tryz.func120 rfl rfl fun w => ?_; refine HC_seq fun K1 hK1 => HC_region ?_; refine HL_box (cs := #[_, _, _]) rfl rfl rfl rfl fun r1 => ?_; refine HLm rfl ?_; refine HL_nil (hK1 _ _ _ _ ?_); refine HC_seq fun K2 hK2 => HC_region ?_; refine HL_alloc (cs := #[_]) rfl rfl rfl rfl fun r2 => ?_
  refine HL_store (k := 0) rfl rfl rfl rfl rfl rfl rfl rfl (by first | (simp only [List.setIfInBounds_toArray, List.set_cons_zero, List.set_cons_succ]; exact rfl) | exact rfl) (by first | (simp only [List.set_cons_zero, List.set_cons_succ]; exact rfl) | exact rfl) ?_; refine HL_nil (hK2 _ _ _ _ ?_); refine HC_seq fun K3 hK3 => ?_; refine HC_seq fun K4 hK4 => HC_region ?_; refine HL_r rfl rfl rfl rfl (R_loadA (vs := [_, _, _]) rfl (known_L (k := 1) rfl) rfl rfl rfl rfl) ?_; refine HLm rfl (HL_callPE rfl rfl rfl (enters_of Tryz.func121 (by kernel_rfl) rfl) (E_items (.mk k n p ins) (m : Int)) fun pp => ?_)
  obtain ⟨ra, rb⟩ := pp
  change HL _ _ _ (iBlk rb m :: tBlk ra (.mk k n p ins) :: _) _ _ _ _; refine HL_nil (hK4 _ _ _ _ ?_); refine HC_block (HC_sel [2, 0, 1, 3] (L' := [_, _, _, _]) (by decide) rfl ?_)
  refine HC_rangeR (τ := Unit) (fun i (s : Nat) => i ≤ m ∧ i = s) (fun s => [(r2, .cells #[.int .i64 (begL (tysN k ins s))] 3 (0, 0))]) (fun _ _ => False) (fun _ => []) [iBlk rb m, tBlk ra (.mk k n p ins), _] 0 rfl rfl (enters_of Tryz.func189 (by kernel_rfl) rfl) (I_items ht (by omega) hx ra rb) (by rintro _ _ _ ⟨_, rfl, _⟩; rfl) rfl (fun q hq => by rcases List.mem_cons.1 hq with rfl | hq; exact .inl (by simp); rcases List.mem_cons.1 hq with rfl | hq; exact .inl (by simp); exact .inr hq) rfl ⟨Nat.zero_le _, rfl⟩ ?_ ?_ ?_
  · rintro q Xr Xb w3 i _ _ s ⟨hii, rfl, rfl⟩ ⟨him, rfl⟩ Kr hKr
    have hti1 := hti i hii
    have hb1 := begT_le (inTy k 0 ins i)
    have hb2 := begL_le (tysN k ins i)
    rw [tysN_len] at hb2
    unfold itV
    refine HC_region (HL_alloc (cs := #[_, _, _]) rfl rfl rfl rfl fun r3 => (HL_storeArr (k := 0) (n := 3) (ys := (inTy k 0 ins i).cells) rfl rfl rfl rfl rfl (inTy k 0 ins i).len rfl (inTy k 0 ins i).one rfl ?_)); refine HL_nil ?_; refine hKr _ _ ?_; clear hKr; refine HC_block (HC_seq fun K5 hK5 => HC_region (HL_r rfl rfl rfl rfl (R_loadArr (xs := (inTy k 0 ins i).cells) (n := 3) rfl (known_L (k := 0) rfl) rfl rfl (inTy k 0 ins i).len) ?_)); refine HL_callR rfl rfl rfl (enters_of Tryz.func122 (by kernel_rfl) rfl) (S_ssize hti1) (fun q hq => Or.inr (List.mem_append_right _ hq)) ?_; refine HLm rfl (HL_r rfl rfl rfl rfl (R_extract rfl rfl) (HL_r rfl rfl rfl rfl (R_extract rfl rfl) ?_)); refine HLm rfl (HLm rfl ?_); refine HL_nil (hK5 _ _ _ _ ?_); refine HC_region (HL_r rfl rfl rfl rfl (R_load (v := .int .i64 (begL (tysN k ins i))) rfl (known_L (k := 1) rfl) rfl rfl) ?_); refine HLm rfl (HLp rfl ?_); refine HL_as (show _ = Value.int .i64 (begL (tysN k ins (i + 1))) from by rw [begL_snoc]; exact congrArg (Value.int .i64) (wrap_i64 (by omega) (by omega))) ?_; refine HL_store (k := 1) (cs' := #[.int .i64 (begL (tysN k ins (i + 1)))]) rfl rfl rfl rfl rfl rfl rfl rfl rfl rfl ?_; refine HL_nil ?_; refine HQ_blockN (HQ_sel [1] (L' := [_]) (by decide) rfl ?_); refine HQ_round (i + 1) ⟨by omega, rfl⟩ rfl
  · rintro D i s hfi ⟨him, rfl⟩
    obtain rfl : m = i := Eq.symm hfi
    refine HQ_blockN (hK3 _ _ _ _ ?_); refine HC_seq fun K6 hK6 => HC_region ?_; refine HL_r rfl rfl rfl rfl (R_load (v := .int .i64 (begL (tysN k ins m))) rfl (known_L (k := 1) rfl) rfl rfl) ?_; refine HLm rfl ?_; refine HL_nil (hK6 _ _ _ _ ?_); refine HC_ret (HQ_mark (k := 0) rfl rfl ?_); refine HQ_post rfl rfl (.cons (res_tmp rfl) .nil) (fun w1 hs1 => ?_); exact ⟨rfl, hs1.keep⟩
  · exact fun _ _ _ h => h.elim
end Go.Proofs.YtlcbfphioeppaaaGreatDoor
namespace Go.Proofs.YtlcbfphioeppaaaGreatDoor
set_option linter.all false
open Go.SL Go.RowKit Go.Shelf
/-! ### Bytes turned round; bits, 8 a byte -/
set_option maxRecDepth 10000 in
theorem P_turned {s : BS} (hl : s.length ≤ 1000000) : Pure Tryz.prog 67 [strV s].toArray (strV s.reverse) := by
  refine pure_of_HC Tryz.func67 rfl rfl fun w => ?_; refine HC_seq fun K1 hK1 => HC_region ?_; refine HLm rfl ?_; refine HL_nil (hK1 _ _ _ _ ?_); refine HC_seq fun K2 hK2 => HC_region ?_; refine HLm rfl (HL_strBytes rfl rfl rfl rfl rfl rfl fun rb kb => ?_)
  obtain ⟨sp, hsp⟩ : ∃ sp, sp = List.replicate kb (Value.int .u8 0) := ⟨_, rfl⟩
  rw [← hsp]
  obtain ⟨fr, hfr⟩ : ∃ fr : Nat × Nat, fr = (s.length + kb, s.length + kb + 1) := ⟨_, rfl⟩
  rw [← hfr]
  have hfz : ∀ q, q < s.length → frB fr q = false := fun q hq => by rw [hfr]; simp [frB, Nat.blt, Nat.ble]; omega
  refine HLm rfl ?_; refine HL_nil (hK2 _ _ _ _ ?_); refine HC_seq fun K3 hK3 => ?_; refine HC_seq fun K4 hK4 => HC_region ?_; refine HLm rfl (HL_r rfl rfl rfl rfl (R_lenSl rfl rfl) ?_); refine HLp rfl (HL_as (show _ = Value.int .i64 ((s.length : Int) - 1) from congrArg (Value.int .i64) (wrap_i64 (by omega) (by omega))) ?_); refine HLm rfl (HLm rfl ?_); refine HL_nil (hK4 _ _ _ _ ?_); refine HC_block ?_; refine HC_loop (σ := Nat) (fun i => 2 * i ≤ s.length + 1 ∧ 2 * i ≤ s.length) (fun i => [(3, .slice (some ⟨rb, 0, none⟩) s.length (s.length + kb)), (4, .int .i64 (i : Int)), (5, .int .i64 ((s.length : Int) - 1 - (i : Int)))]) (fun i => [(rb, .cells ((revS s i).map bV ++ sp).toArray 5 fr)]) (fun _ _ _ => True) (fun i => s.length - i) 0 ⟨by omega, by omega⟩ (.cons rfl (.cons rfl (.cons (by rw [show ((0 : Nat) : Int) = 0 from rfl, Int.sub_zero]; rfl) .nil))) (List.Sublist.refl _) (fun _ _ h => h) ?_; rintro i ⟨hi1, hi2⟩; refine HC_seq fun K5 hK5 => ?_; refine HC_seq fun K6 hK6 => HC_region ?_; refine HLm rfl (HLm rfl (HLp rfl ?_)); refine HL_nil (hK6 _ _ _ _ ?_); refine HC_cond rfl (fun h7 => ?_) (fun h7 => ?_)
  · try exact Bool.noConfusion h7
    try simp only [ZZ] at h7
    refine HC_skip (hK5 _ _ _ _ ?_); refine HC_seq fun K8 hK8 => HC_block ?_
    have hii : i + 1 ≤ s.length - i := by omega
    obtain ⟨Y, hY⟩ : ∃ Y, Y = revS s i := ⟨_, rfl⟩
    have hYl : Y.length = s.length := by rw [hY]; exact revS_len s i
    rw [← hY]
    refine HC_drawB [] [(0, .pure), (1, .pure), (2, .pure), (3, .pure), (4, .pure), (5, .pure), (6, .pure), (8, .pure), (9, .pure), (10, .pure), (12, .pure), (13, .turn), (14, .pure), (15, .turn)] 16 [0, 1, 2, 3, 4, 5, 6, 7, 8, 9, 10, 11, 12, 13, 14, 15] (by kernel_rfl) (by kernel_rfl) (by first | exact (fun _ h => nomatch h) | simp [SubS] | (intro p hp; simp [hp])) ?_; refine HB_p (k := 0) rfl rfl rfl rfl rfl (fun _ hS => (R_move rfl)) ?_; refine HB_p (k := 1) rfl rfl rfl rfl rfl (fun _ hS => (R_move rfl)) ?_; refine HB_p (k := 2) rfl rfl rfl rfl rfl (fun _ hS => (R_move rfl)) ?_; refine HB_p (k := 3) rfl rfl rfl rfl rfl (fun _ hS => (R_move rfl)) ?_; refine HB_p (k := 4) rfl rfl rfl rfl rfl (fun _ hS => (R_move rfl)) ?_; refine HB_p (k := 5) rfl rfl rfl rfl rfl (fun _ hS => (R_move rfl)) ?_; refine HB_p (k := 6) rfl rfl rfl rfl rfl (fun _ _ => R_indexS (j := (s.length - 1 - i)) (m := 1) (off' := (s.length - 1 - i)) rfl rfl rfl rfl (by omega) (by omega) (by omega)) ?_; refine HB_r (k := 7) rfl rfl rfl rfl rfl (R_load rfl (known_L (k := 0) rfl) rfl (nth_row (xs := Y.map bV) (v := bV (Y.getD (s.length - 1 - i) 0)) (mapV_get (by omega)))) ?_; refine HB_p (k := 8) rfl rfl rfl rfl rfl (fun _ hS => (R_move rfl)) ?_; refine HB_p (k := 9) rfl rfl rfl rfl rfl (fun _ hS => (R_move rfl)) ?_; refine HB_p (k := 10) rfl rfl rfl rfl rfl (fun _ _ => R_indexS (j := i) (m := 1) (off' := i) rfl rfl rfl rfl (by omega) (by omega) (by omega)) ?_; refine HB_r (k := 11) rfl rfl rfl rfl rfl (R_load rfl (known_L (k := 0) rfl) rfl (nth_row (xs := Y.map bV) (v := bV (Y.getD (i) 0)) (mapV_get (by omega)))) ?_; refine HB_p (k := 12) rfl rfl rfl rfl rfl (fun _ _ => R_indexS (j := i) (m := 1) (off' := i) rfl rfl rfl rfl (by omega) (by omega) (by omega)) ?_; refine HB_storeF (k := 13) (q := 0) (cs' := ((Y.set i (Y.getD (s.length - 1 - i) 0)).map bV ++ sp).toArray) rfl rfl rfl rfl rfl rfl rfl rfl (hfz _ (by omega)) (by simp; omega) (set_mapV (by omega)) rfl (fun _ h => nomatch h) ?_; refine HB_p (k := 14) rfl rfl rfl rfl rfl (fun _ _ => R_indexS (j := (s.length - 1 - i)) (m := 1) (off' := (s.length - 1 - i)) rfl rfl rfl rfl (by omega) (by omega) (by omega)) ?_; refine HB_storeF (k := 15) (q := 0) (cs' := ((revS s (i + 1)).map bV ++ sp).toArray) rfl rfl rfl rfl rfl rfl rfl rfl (hfz _ (by omega)) (by simp; omega) (by rw [set_mapV (by rw [List.length_set]; omega), revS, ← hY]) rfl (fun _ h => nomatch h) ?_; refine HB_end ?_; refine HL_nil ?_; refine HQ_blockN (hK8 _ _ _ _ ?_); refine HC_region (HLm rfl ?_); refine HLp rfl (HL_wrap_i64 (by omega) (by omega) (HLm rfl ?_))
    refine HLp rfl ?_; refine HL_as (show _ = Value.int .i64 ((s.length : Int) - 1 - ((i + 1 : Nat) : Int)) from by rw [wrap_i64 (by omega) (by omega)]; congr 1 <;> omega) ?_; refine HLm rfl (HLm rfl (HL_nil ?_)); refine HQ_then ?_; exact HQ_again (i + 1) ⟨by omega, by omega⟩ (by omega) (.cons rfl (.cons rfl (.cons rfl .nil))) (List.Sublist.refl _) (fun _ _ h => h)
  · try exact Bool.noConfusion h7
    try simp only [ZZ] at h7
    refine HC_exit (HQ_thenE ?_); refine HQ_thenE (HQ_blockE (hK3 _ _ _ _ ?_)); refine HC_seq fun K9 hK9 => ?_; rw [revS_rev (xs := s) (i := i) (by omega) (by omega)]; refine HC_region (HLm rfl ?_); refine HL_r rfl rfl rfl rfl (R_bytesStrG (b := s.reverse) rfl (known_L (k := 0) rfl) (by rw [List.length_reverse]) (by simp only [List.toList_toArray]; rw [List.take_left' (by rw [List.length_map])]) rfl rfl rfl) ?_; refine HLm rfl ?_; refine HL_nil (hK9 _ _ _ _ ?_); refine HC_ret ?_; refine HQ_post rfl rfl (.cons (res_tmp rfl) .nil) (fun w1 hs1 => ?_); exact ⟨rfl, hs1.keep⟩
theorem set_mapV0 {Y : BS} {i : Nat} {b : UInt8} : (Y.map bV).toArray.setIfInBounds i (bV b) = ((Y.set i b).map bV).toArray := by
  rw [List.setIfInBounds_toArray, List.map_set]
theorem or_byte (x : UInt8) {m : Nat} (hm : m < 8) : Value.int .u8 ((x.toNat ||| 2 ^ m : Nat) : Int) = bV (UInt8.ofNat (x.toNat ||| 2 ^ m)) := bV_of (or_lt (u8_lt x) hm)
theorem shl_u8 {m : Nat} (hm : m < 8) : IntKind.u8.wrap (1 * ((2 ^ m : Nat) : Int)) = ((2 ^ m : Nat) : Int) := by
  have h : 2 ^ m ≤ 128 := Nat.pow_le_pow_right (n := 2) (i := m) (j := 7) (by decide) (by omega)
  generalize 2 ^ m = q at h ⊢
  rw [Int.one_mul]; exact wrap_u8 (by omega) (by omega)
set_option maxRecDepth 10000 in
theorem S_pack {R : List (Nat × Obj)} {l : List Bool} {g : FuncId} {caps : List Value} (hl : l.length ≤ 1000000) (eg : Enters Tryz.prog g) (hg : ∀ i, i < l.length → PureR Tryz.prog g (Value.int .i64 (i : Int) :: caps).toArray (.bool (l.getD i false)) R) :
    PureR Tryz.prog 69 [.int .i64 (l.length : Int), .func (.func g) #[] caps.toArray].toArray (strV (packB l)) R := by
  obtain ⟨N, hN⟩ : ∃ N, N = (l.length + 7) / 8 := ⟨_, rfl⟩
  have hpB : packB l = packS l N l.length := by rw [hN]; rfl
  refine pureR_of_HC Tryz.func69 rfl rfl fun w => ?_; refine HC_seq fun K1 hK1 => HC_region ?_; refine HLm rfl ?_; refine HL_nil (hK1 _ _ _ _ ?_); clear hK1 K1; refine HC_seq fun K2 hK2 => HC_region ?_; refine HLm rfl ?_
  refine HLp rfl ?_; refine HL_as (show _ = Value.int .i64 ((l.length + 8 : Nat) : Int) from by rw [wrap_i64 (by omega) (by omega)]; congr 1 <;> omega) ?_
  refine HLp rfl ?_; refine HL_as (show _ = Value.int .i64 ((l.length + 7 : Nat) : Int) from by rw [wrap_i64 (by omega) (by omega)]; congr 1 <;> omega) ?_; refine HLp rfl ?_; refine HL_as (show _ = Value.int .i64 ((N : Nat) : Int) from congrArg (Value.int .i64) (by rw [quo_i64 (by omega) (by decide) (by omega), hN]; rfl)) ?_; refine HL_make (n := N) (b := 1) rfl rfl rfl rfl rfl rfl rfl rfl rfl (by omega) (by omega) fun rm => ?_; rw [show List.replicate N (Value.int .u8 0) = (packS l N 0).map bV from by rw [packS, List.map_replicate]; rfl]; refine HLm rfl ?_; refine HL_nil (hK2 _ _ _ _ ?_); clear hK2 K2; refine HC_seq fun K3 hK3 => ?_; refine HC_seq fun K4 hK4 => HC_region ?_; refine HLm rfl (HLm rfl ?_); refine HL_nil (hK4 _ _ _ _ ?_); clear hK4 K4; refine HC_block (HC_loop (σ := Nat) (fun i => i ≤ l.length) (fun i => [(1, .func (.func g) #[] caps.toArray), (5, .slice (some ⟨rm, 0, none⟩) N N), (12, .int .i64 (l.length : Int)), (13, .int .i64 (i : Int))]) (fun i => [(rm, .cells ((packS l N i).map bV).toArray 5 (0, 0))]) (fun _ _ _ => True) (fun i => l.length - i) 0 (Nat.zero_le _) (.cons rfl (.cons rfl (.cons rfl (.cons rfl .nil)))) (List.Sublist.refl _) (fun _ _ h => h) ?_); intro i hi1; refine HC_seq fun K5 hK5 => HC_region ?_; refine HLp rfl ?_; refine HL_nil (hK5 _ _ _ _ ?_); clear hK5 K5; refine HC_seq fun K6 hK6 => ?_; refine HC_cond rfl (fun h7 => ?_) (fun h7 => ?_)
  · try exact Bool.noConfusion h7
    try simp only [ZZ] at h7
    refine HC_skip (hK6 _ _ _ _ ?_); clear hK6 K6; refine HC_seq fun K8 hK8 => HC_block ?_; refine HC_seq fun K9 hK9 => ?_
    have hil : i < l.length := by omega
    have hi8 : i / 8 < N := by omega
    refine HC_region (HLm rfl (HLm rfl ?_)); refine HL_nil (hK9 _ _ _ _ ?_); clear hK9 K9; refine HC_seq fun K10 hK10 => HC_region ?_; refine HLm rfl (HLm rfl (HL_callR rfl rfl rfl eg (hg i hil) (fun q hq => Or.inr hq) ?_)); refine HL_nil (hK10 _ _ _ _ ?_); clear hK10 K10; refine HC_cond rfl (fun h11 => ?_) (fun h11 => ?_)
    · try exact Bool.noConfusion h11
      try simp only [ZZ] at h11
      have hbt : l.getD i false = true := by assumption
      have hst1 : packS l N (i + 1) = (packS l N i).set (i / 8) (UInt8.ofNat (((packS l N i).getD (i / 8) 0).toNat ||| 2 ^ (i % 8))) := by rw [packS, if_pos hbt]
      obtain ⟨Y, hY⟩ : ∃ Y, Y = packS l N i := ⟨_, rfl⟩
      have hYl : Y.length = N := by rw [hY]; exact packS_len l N i
      rw [← hY] at hst1 ⊢
      refine HC_drawB [] [(0, .pure), (1, .pure), (2, .pure), (3, .pure), (5, .pure), (6, .pure), (7, .pure), (8, .pure), (9, .pure), (10, .turn)] 11 [0, 1, 2, 3, 4, 5, 6, 7, 8, 9, 10] (by kernel_rfl) (by kernel_rfl) (by first | exact (fun _ h => nomatch h) | simp [SubS] | (intro p hp; simp [hp])) ?_; refine HB_p (k := 0) rfl rfl rfl rfl rfl (fun _ hS => (R_move rfl)) ?_; refine HB_p (k := 1) rfl rfl rfl rfl rfl (fun _ hS => (R_move rfl)) ?_
      refine HB_p (k := 2) rfl rfl rfl rfl rfl (fun _ _ => (R_pure rfl rfl rfl)) ?_; refine HB_as (show _ = Value.int .i64 ((i / 8 : Nat) : Int) from congrArg (Value.int .i64) (by first | exact rem_nat _ _ | exact quo_i64 (by omega) (by decide) (by omega))) ?_; refine HB_p (k := 3) rfl rfl rfl rfl rfl (fun _ _ => R_indexS (j := (i / 8)) (m := 1) (off' := (i / 8)) rfl rfl rfl rfl (by omega) (by omega) (by omega)) ?_; refine HB_r (k := 4) rfl rfl rfl rfl rfl (R_load rfl (known_L (k := 0) rfl) rfl (by rw [nth_eq]; exact mapV_get (by omega))) ?_; refine HB_p (k := 5) rfl rfl rfl rfl rfl (fun _ hS => (R_move rfl)) ?_
      refine HB_p (k := 6) rfl rfl rfl rfl rfl (fun _ _ => (R_pure rfl rfl rfl)) ?_; refine HB_as (show _ = Value.int .i64 ((i % 8 : Nat) : Int) from congrArg (Value.int .i64) (by first | exact rem_nat _ _ | exact quo_i64 (by omega) (by decide) (by omega))) ?_; refine HB_p (k := 7) rfl rfl rfl rfl rfl (fun _ _ => R_shl (n := i % 8) (b := ((2 ^ (i % 8) : Nat) : Int)) rfl rfl rfl (show _ ≤ 8 from by omega) (shl_u8 (by omega))) ?_; refine HB_p (k := 8) rfl rfl rfl rfl rfl (fun _ _ => R_bits8 (op := .or) (m := (Y.getD (i / 8) 0).toNat) (n := 2 ^ (i % 8)) rfl rfl rfl (u8_lt _) (Nat.pow_lt_pow_right (by decide) (by omega) : 2 ^ (i % 8) < 2 ^ 8) rfl) ?_; refine HB_as (or_byte _ (by omega)) ?_; refine HB_p (k := 9) rfl rfl rfl rfl rfl (fun _ _ => R_indexS (j := (i / 8)) (m := 1) (off' := (i / 8)) rfl rfl rfl rfl (by omega) (by omega) (by omega)) ?_; refine HB_store (k := 10) (q := 0) (cs' := ((packS l N (i + 1)).map bV).toArray) rfl rfl rfl rfl rfl rfl rfl rfl (by simp; omega) (by rw [set_mapV0, hst1]) rfl (fun _ h => nomatch h) ?_; refine HB_end ?_; refine HL_nil ?_; refine HQ_blockN (hK8 _ _ _ _ ?_); clear hK8 K8; refine HC_region ?_
      refine HLp rfl ?_; refine HL_as (show _ = Value.int .i64 ((i + 1 : Nat) : Int) from by rw [wrap_i64 (by omega) (by omega)]; congr 1 <;> omega) ?_; refine HLm rfl (HL_nil (HQ_then ?_)); exact HQ_again (i + 1) (by omega) (by omega) (.cons rfl (.cons rfl (.cons rfl (.cons rfl .nil)))) (List.Sublist.refl _) (fun _ _ h => h)
    · try exact Bool.noConfusion h11
      try simp only [ZZ] at h11
      refine HC_skip (HQ_blockN (hK8 _ _ _ _ ?_)); clear hK8 K8; refine HC_region ?_
      refine HLp rfl ?_; refine HL_as (show _ = Value.int .i64 ((i + 1 : Nat) : Int) from by rw [wrap_i64 (by omega) (by omega)]; congr 1 <;> omega) ?_; refine HLm rfl (HL_nil (HQ_then ?_))
      (have hst0 : packS l N (i + 1) = packS l N i := by rw [packS, if_neg (by simp_all)]
       exact HQ_again (i + 1) (by omega) (by omega) (.cons rfl (.cons rfl (.cons rfl (.cons rfl .nil)))) (by rw [hst0]; exact List.Sublist.refl _) (fun _ _ h => h))
  · try exact Bool.noConfusion h7
    try simp only [ZZ] at h7
    refine HC_exit (HQ_thenE ?_); clear hK6 K6; refine HQ_thenE (HQ_blockE (hK3 _ _ _ _ ?_)); clear hK3 K3; refine HC_seq fun K12 hK12 => ?_
    obtain rfl : i = l.length := by omega
    refine HC_region (HLm rfl ?_); refine HL_r rfl rfl rfl rfl (R_bytesStr (b := packS l N l.length) (row := some (rm, N, [])) (e := 5) (show _ = some (rowV (packS l N l.length).length _) from by rw [packS_len]; rfl) ⟨by rw [List.length_map]; omega, by rw [packS_len]; simp⟩ (fun p hp => .inl (by rw [List.mem_singleton.1 hp, List.append_nil]; exact List.mem_cons_self)) rfl rfl rfl) ?_; refine HLm rfl ?_; refine HL_nil (hK12 _ _ _ _ ?_); clear hK12 K12; refine HC_ret ?_; refine HQ_post rfl rfl (.cons (res_tmp rfl) .nil) (fun w1 hs1 => ?_); refine ⟨?_, hs1.keep⟩; rw [hpB]; rfl
end Go.Proofs.YtlcbfphioeppaaaGreatDoor
