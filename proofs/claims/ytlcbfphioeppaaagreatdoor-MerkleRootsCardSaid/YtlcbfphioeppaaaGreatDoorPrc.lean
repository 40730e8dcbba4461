import Derived.Test.YtlcbfphioeppaaaGreatDoorPrb
namespace Go.Proofs.YtlcbfphioeppaaaGreatDoor
set_option linter.all false
open Go.SL Go.RowKit Go.Shelf
theorem kCells_one (k : Int) : (kCells k).all oneB = true := by
  unfold kCells fnV
  cases isK k <;> cases varB k <;> rfl
theorem isK_false {k : Int} (h : isK k = false) : k < 1 ∨ 8 < k := by unfold isK at h; simp at h; omega
theorem fnV_t {b : Bool} {f : FuncId} (h : b = true) : fnV b f = .func (.func f) #[] #[] := by rw [h]; rfl
theorem varB_eq {k : Int} (h : isK k = true) : varB k = (decide (k = 4) || decide (k = 6) || decide (k = 8)) := by
  have := isK_iff.1 h
  have : k = 1 ∨ k = 2 ∨ k = 3 ∨ k = 4 ∨ k = 5 ∨ k = 6 ∨ k = 7 ∨ k = 8 := by omega
  rcases this with rfl | rfl | rfl | rfl | rfl | rfl | rfl | rfl <;> rfl
set_option maxRecDepth 10000 in
theorem S_check {R : List (Nat × Obj)} {t : Ty} (ht : t.In R) : ∀ d : Int, 0 ≤ d → d ≤ 1000 → PureR Tryz.prog 80 [t.val, .int .i64 d].toArray (.int .i64 (chk t d)) R := by
  induction ht with
  | @mk k n p ins hk hn hl hs hi ih =>
  intro d hd0 hd1
  have hF := fun h => F_all (.mk hk hn hl hs hi : Ty.In R (.mk k n p ins)) h
  refine pureR_of_HC Tryz.func80 rfl rfl fun w => ?_; refine HC_seq fun K1 hK1 => HC_region ?_; refine HL_box (cs := #[_, _, _]) rfl rfl rfl rfl fun r1 => ?_; refine HLm rfl ?_; refine HL_nil (hK1 _ _ _ _ ?_); clear hK1 K1; refine HC_seq fun K2 hK2 => ?_
  refine HC_drawB [] [(0, .grow (geCall 0 (fun r : Nat => Value.map (some r)) (fun r => [(r, kObj)]))), (1, .pure), (4, .pure), (5, .pure), (6, .pure), (7, .grow (geNew ptrV (.cells #[.nilFunc, .nilFunc, .nilFunc, .bool false] 97 (0, 0)))), (8, .turn), (9, .pure)] 10 [1, 2, 0, 3, 4, 5, 6, 7, 8, 9] (by kernel_rfl) (by kernel_rfl) (by first | exact (fun _ h => nomatch h) | simp [SubS] | (intro p hp; simp [hp])) ?_
  refine HB_p (k := 1) rfl rfl rfl rfl rfl (fun _ hS => (R_fieldAddr rfl rfl (by first | (simp only [Nat.zero_add, Nat.reduceAdd, Nat.reduceMul, Nat.zero_mul, Nat.mul_one, Nat.add_zero]; exact rfl) | exact rfl))) ?_; refine HB_r (k := 2) rfl rfl rfl rfl rfl (R_load rfl (known_L (k := 0) rfl) rfl rfl) ?_; refine HB_callPE (k := 0) rfl rfl rfl rfl rfl (enters_of Tryz.func91 (by kernel_rfl) rfl) E_kinds fun mr => ?_; refine HB_r (k := 3) rfl rfl rfl rfl rfl (R_lookup (keyI (t := 3) (by kernel_rfl)) rfl rfl (known_L (k := 0) rfl) rfl rfl ⟨_, rfl⟩ kMap_dom (kMap_val k)) ?_; refine HB_p (k := 4) rfl rfl rfl rfl rfl (fun _ hS => (R_move rfl)) ?_; refine HB_p (k := 5) rfl rfl rfl rfl rfl (fun _ hS => (R_extract rfl rfl)) ?_; refine HB_p (k := 6) rfl rfl rfl rfl rfl (fun _ hS => (R_extract rfl rfl)) ?_; refine HB_alloc (k := 7) (cs := #[_, _, _, _]) rfl rfl rfl rfl rfl rfl fun r2 => ?_
  refine HB_storeArr (k := 8) (q := 0) (n := 4) (ys := kCells k) rfl rfl rfl rfl rfl rfl rfl rfl rfl (kCells_one k) (by first | (simp only [List.set_cons_zero, List.set_cons_succ]; exact rfl) | exact rfl) (by first | exact (fun _ h => nomatch h) | simp [SubS]) ?_; refine HB_p (k := 9) rfl rfl rfl rfl rfl (fun _ hS => (R_assign rfl)) ?_; refine HB_end ?_; refine HL_nil (hK2 _ _ _ _ ?_); clear hK2 K2; refine HC_seq fun K3 hK3 => HC_block ?_; refine HC_seq fun K4 hK4 => HC_region ?_; refine HLm rfl (HLp rfl (HLm rfl ?_)); refine HL_nil (hK4 _ _ _ _ ?_); clear hK4 K4; refine HC_cond rfl (fun h5 => ?_) (fun h5 => ?_)
  · try exact Bool.noConfusion h5
    try simp only [ZZ] at h5
    refine HC_seq fun K6 hK6 => HC_region ?_; refine HLm rfl ?_; refine HL_nil (hK6 _ _ _ _ ?_); clear hK6 K6; refine HC_ret (HQ_blockR (HQ_thenR ?_)); clear hK3 K3; refine HQ_post rfl rfl (.cons (res_tmp rfl) .nil) (fun w1 hs1 => ?_); refine ⟨?_, hs1.keep⟩; rw [chk, if_pos (isK_false (by assumption))]; rfl
  · try exact Bool.noConfusion h5
    try simp only [ZZ] at h5
    refine HC_seq fun K7 hK7 => HC_region ?_
    refine HL_r rfl rfl rfl rfl (R_fieldAddr rfl rfl (by first | (simp only [Nat.zero_add, Nat.reduceAdd, Nat.reduceMul, Nat.zero_mul, Nat.mul_one, Nat.add_zero]; exact rfl) | exact rfl)) ?_; refine HL_r rfl rfl rfl rfl (R_load rfl (known_L (k := 0) rfl) rfl rfl) ?_; refine HL_as (fnV_t (by assumption)) ?_; refine HL_r rfl rfl rfl rfl (R_loadA (vs := [_, _, _]) rfl (known_L (k := 2) rfl) rfl rfl rfl rfl) ?_; refine HL_callR rfl rfl rfl (hF (by assumption)).1 (hF (by assumption)).2 (fun q hq => Or.inr hq) ?_; refine HLp rfl (HLm rfl ?_); refine HL_nil (hK7 _ _ _ _ ?_); clear hK7 K7; refine HC_cond rfl (fun h8 => ?_) (fun h8 => ?_)
    · try exact Bool.noConfusion h8
      try simp only [ZZ] at h8
      refine HC_seq fun K9 hK9 => HC_region ?_; refine HLm rfl ?_; refine HL_nil (hK9 _ _ _ _ ?_); clear hK9 K9; refine HC_ret (HQ_blockR (HQ_thenR ?_)); clear hK3 K3; refine HQ_post rfl rfl (.cons (res_tmp rfl) .nil) (fun w1 hs1 => ?_); refine ⟨?_, hs1.keep⟩
      first
        | (rw [chk, if_pos (isK_false (by assumption))]; rfl)
        | (have hkk := isK_iff.1 (by assumption)
           rw [chk, if_neg (by omega)]
           first
           | (rw [if_pos (by assumption)]; rfl)
           | (rw [if_neg (by simp_all), if_pos (by omega)]; rfl)
           | (rw [if_neg (by simp_all), if_neg (by omega), ← hinv, if_neg (by assumption)]; rfl)
           | (rw [if_neg (by simp_all), if_neg (by omega), ← hinv, List.drop_of_length_le (by omega), chkL]; rfl))
    · try exact Bool.noConfusion h8
      try simp only [ZZ] at h8
      refine HC_seq fun K10 hK10 => HC_region ?_; refine HLm rfl (HLp rfl (HLm rfl ?_)); refine HL_nil (hK10 _ _ _ _ ?_); clear hK10 K10; refine HC_cond rfl (fun h11 => ?_) (fun h11 => ?_)
      · try exact Bool.noConfusion h11
        try simp only [ZZ] at h11
        refine HC_seq fun K12 hK12 => HC_region ?_; refine HLm rfl ?_; refine HL_nil (hK12 _ _ _ _ ?_); clear hK12 K12; refine HC_ret (HQ_blockR (HQ_thenR ?_)); clear hK3 K3; refine HQ_post rfl rfl (.cons (res_tmp rfl) .nil) (fun w1 hs1 => ?_); refine ⟨?_, hs1.keep⟩
        first
          | (rw [chk, if_pos (isK_false (by assumption))]; rfl)
          | (have hkk := isK_iff.1 (by assumption)
             rw [chk, if_neg (by omega)]
             first
             | (rw [if_pos (by assumption)]; rfl)
             | (rw [if_neg (by simp_all), if_pos (by omega)]; rfl)
             | (rw [if_neg (by simp_all), if_neg (by omega), ← hinv, if_neg (by assumption)]; rfl)
             | (rw [if_neg (by simp_all), if_neg (by omega), ← hinv, List.drop_of_length_le (by omega), chkL]; rfl))
      · try exact Bool.noConfusion h11
        try simp only [ZZ] at h11
        refine HC_skip (HQ_blockN (hK3 _ _ _ _ ?_)); clear hK3 K3; refine HC_seq fun K13 hK13 => ?_; refine HC_seq fun K14 hK14 => HC_region ?_
        refine HL_r rfl rfl rfl rfl (R_fieldAddr rfl rfl (by first | (simp only [Nat.zero_add, Nat.reduceAdd, Nat.reduceMul, Nat.zero_mul, Nat.mul_one, Nat.add_zero]; exact rfl) | exact rfl)) ?_; refine HL_r rfl rfl rfl rfl (R_load rfl (known_L (k := 2) rfl) rfl rfl) ?_; refine HL_r rfl rfl rfl rfl (R_lenPl rfl hs rfl) ?_; refine HLm rfl ?_; refine HL_nil (hK14 _ _ _ _ ?_); clear hK14 K14; refine HC_block (HC_loop (σ := Nat) (fun i => i ≤ ins.length ∧ chkL (ins.drop i) (d + 1) = chkL ins (d + 1)) (fun i => [(1, .int .i64 d), (30, plV ins.length p), (31, .int .i64 (ins.length : Int)), (32, .int .i64 (i : Int))]) (fun _ => []) (fun _ _ _ => True) (fun i => ins.length - i) 0 ⟨by omega, rfl⟩ (.cons rfl (.cons rfl (.cons rfl (.cons rfl .nil)))) (List.nil_sublist _) (fun _ _ h => h) ?_); rintro i ⟨hi1, hinv⟩; refine HC_seq fun K15 hK15 => HC_region ?_; refine HLp rfl ?_; refine HL_nil (hK15 _ _ _ _ ?_); clear hK15 K15; refine HC_seq fun K16 hK16 => ?_; refine HC_cond rfl (fun h17 => ?_) (fun h17 => ?_)
        · try exact Bool.noConfusion h17
          try simp only [ZZ] at h17
          refine HC_skip (hK16 _ _ _ _ ?_); clear hK16 K16; refine HC_seq fun K18 hK18 => HC_block ?_; refine HC_seq fun K19 hK19 => ?_
          obtain ⟨y, hy, hmem⟩ := getI (show i < ins.length by omega)
          rw [dropI hy, chkL] at hinv; refine HC_region (HL_r rfl rfl rfl rfl (R_indexPl (j := i) rfl hs rfl rfl rfl rfl (by omega)) (HL_r rfl rfl rfl rfl (R_loadTy (fun q hq => Or.inr hq) rfl hs hy rfl rfl) ?_)); refine HL_alloc (cs := #[_, _, _]) rfl rfl rfl rfl fun r3 => ?_; refine HL_storeArr (k := 0) (n := 3) (ys := y.cells) rfl rfl rfl rfl rfl y.len rfl y.one rfl ?_; refine HL_nil (hK19 _ _ _ _ ?_); clear hK19 K19; refine HC_seq fun K20 hK20 => HC_region ?_; refine HL_r rfl rfl rfl rfl (R_loadArr (xs := y.cells) (n := 3) rfl (known_L (k := 0) rfl) rfl rfl y.len) ?_; refine HLm rfl (HLp rfl (HL_wrap_i64 (by omega) (by omega) ?_)); refine HL_callR rfl rfl rfl (enters_of Tryz.func80 (by kernel_rfl) rfl) (ih y hmem (d + 1) (by omega) (by omega)) (fun q hq => Or.inr hq) ?_; refine HLm rfl ?_; refine HL_nil (hK20 _ _ _ _ ?_); clear hK20 K20; refine HC_seq fun K21 hK21 => HC_region ?_; refine HLm rfl (HLp rfl ?_); refine HL_nil (hK21 _ _ _ _ ?_); clear hK21 K21; refine HC_cond rfl (fun h22 => ?_) (fun h22 => ?_)
          · try exact Bool.noConfusion h22
            try simp only [ZZ] at h22
            refine HC_seq fun K23 hK23 => HC_region ?_; refine HLm rfl (HLm rfl ?_); refine HL_nil (hK23 _ _ _ _ ?_); clear hK23 K23; refine HC_ret (HQ_blockR (HQ_thenR ?_)); clear hK18 K18; refine HQ_thenR (HQ_blockR (HQ_thenR ?_)); clear hK13 K13; refine HQ_post rfl rfl (.cons (res_tmp rfl) .nil) (fun w1 hs1 => ?_); refine ⟨?_, hs1.keep⟩
            first
              | (rw [chk, if_pos (isK_false (by assumption))]; rfl)
              | (have hkk := isK_iff.1 (by assumption)
                 rw [chk, if_neg (by omega)]
                 first
                 | (rw [if_pos (by assumption)]; rfl)
                 | (rw [if_neg (by simp_all), if_pos (by omega)]; rfl)
                 | (rw [if_neg (by simp_all), if_neg (by omega), ← hinv, if_neg (by assumption)]; rfl)
                 | (rw [if_neg (by simp_all), if_neg (by omega), ← hinv, List.drop_of_length_le (by omega), chkL]; rfl))
          · try exact Bool.noConfusion h22
            try simp only [ZZ] at h22
            refine HC_skip (HQ_blockN (hK18 _ _ _ _ ?_)); clear hK18 K18; refine HC_region (HLp rfl (HL_wrap_i64 (by omega) (by omega) ?_)); refine HLm rfl (HL_nil (HQ_then ?_)); exact HQ_again (i + 1) ⟨by omega, by rw [if_pos (by assumption)] at hinv; exact hinv⟩ (by omega) (.cons rfl (.cons rfl (.cons rfl (.cons rfl .nil)))) (List.nil_sublist _) (fun _ _ h => h)
        · try exact Bool.noConfusion h17
          try simp only [ZZ] at h17
          refine HC_exit (HQ_thenE ?_); clear hK16 K16; refine HQ_thenE (HQ_blockE (hK13 _ _ _ _ ?_)); clear hK13 K13; refine HC_seq fun K24 hK24 => HC_region ?_; refine HLm rfl ?_; refine HL_nil (hK24 _ _ _ _ ?_); clear hK24 K24; refine HC_ret ?_; refine HQ_post rfl rfl (.cons (res_tmp rfl) .nil) (fun w1 hs1 => ?_); refine ⟨?_, hs1.keep⟩
          (have hkk := isK_iff.1 (by assumption)
           rw [chk, if_neg (by omega)]
           first
           | (rw [if_pos (by assumption)]; rfl)
           | (rw [if_neg (by simp_all), if_pos (by omega)]; rfl)
           | (rw [if_neg (by simp_all), if_neg (by omega), ← hinv, if_neg (by assumption)]; rfl)
           | (rw [if_neg (by simp_all), if_neg (by omega), ← hinv, List.drop_of_length_le (by omega), chkL]; rfl))
set_option maxRecDepth 10000 in
theorem S_Check {R : List (Nat × Obj)} {t : Ty} (ht : t.In R) : PureR Tryz.prog 41 [t.val].toArray (.int .i64 (chk t 0)) R := by
  have h1 := S_check ht 0 (by omega) (by omega)
  obtain ⟨k, n, p, ins⟩ := t
  refine pureR_of_HC Tryz.func41 rfl rfl fun w => ?_; refine HC_seq fun K1 hK1 => HC_region ?_; refine HL_box (cs := #[_, _, _]) rfl rfl rfl rfl fun r1 => ?_; refine HLm rfl ?_; refine HL_nil (hK1 _ _ _ _ ?_); refine HC_seq fun K2 hK2 => HC_region ?_; refine HL_r rfl rfl rfl rfl (R_loadA (vs := [_, _, _]) rfl (known_L (k := 0) rfl) rfl rfl rfl rfl) ?_; refine HL_callR rfl rfl rfl (enters_of Tryz.func80 (by kernel_rfl) rfl) h1 (fun q hq => Or.inr hq) ?_; refine HLm rfl ?_; refine HL_nil (hK2 _ _ _ _ ?_); refine HC_ret ?_; refine HQ_post rfl rfl (.cons (res_tmp rfl) .nil) (fun w1 hs1 => ?_); exact ⟨rfl, hs1.keep⟩
def idxF {α : Type} (b : α → Bool) : List α → Int → Int
  | [], _ => -1
  | y :: ys, j => if b y = true then j else idxF b ys (j + 1)
theorem idxF_any {α : Type} {b : α → Bool} : ∀ {l : List α} {j : Int}, 0 ≤ j → decide (0 ≤ idxF b l j) = l.any b
  | [], _, _ => rfl
  | y :: ys, j, h => by
    rw [idxF, List.any_cons]
    split
    · rename_i hb; rw [hb]; simp [h]
    · rename_i hb; rw [idxF_any (by omega)]; simp [hb]
set_option maxRecDepth 10000 in
theorem S_IndexFuncT {R : List (Nat × Obj)} {ins : List Ty} {p : Pl} {g : FuncId} {b : Ty → Bool} (eg : Enters Tryz.prog g) (hg : ∀ x ∈ ins, PureR Tryz.prog g [x.val].toArray (.bool (b x)) R) (hl : ins.length ≤ 9223372036854775807) (hs : Seg R ins.length (tysC ins) p) :
    PureR Tryz.prog 174 [plV ins.length p, fV g].toArray (.int .i64 (idxF b ins 0)) R := by
  refine pureR_of_HC Tryz.func174 rfl rfl fun w => ?_; refine HC_seq fun K1 hK1 => HC_region ?_; refine HLm rfl ?_; refine HL_nil (hK1 _ _ _ _ ?_); clear hK1 K1; refine HC_seq fun K2 hK2 => ?_; refine HC_seq fun K3 hK3 => HC_region ?_; refine HLm rfl (HL_r rfl rfl rfl rfl (R_lenPl rfl hs rfl) (HLm rfl ?_)); refine HL_nil (hK3 _ _ _ _ ?_); clear hK3 K3; refine HC_block (HC_loop (σ := Nat) (fun i => i ≤ ins.length ∧ idxF b (ins.drop i) (i : Int) = idxF b ins 0) (fun i => [(0, plV ins.length p), (1, fV g), (7, .int .i64 (ins.length : Int)), (8, .int .i64 (i : Int))]) (fun _ => []) (fun _ _ _ => True) (fun i => ins.length - i) 0 ⟨by omega, rfl⟩ (.cons rfl (.cons rfl (.cons rfl (.cons rfl .nil)))) (List.nil_sublist _) (fun _ _ h => h) ?_); rintro i ⟨hi1, hinv⟩; refine HC_seq fun K4 hK4 => HC_region ?_; refine HLp rfl ?_; refine HL_nil (hK4 _ _ _ _ ?_); clear hK4 K4; refine HC_seq fun K5 hK5 => ?_; refine HC_cond rfl (fun h6 => ?_) (fun h6 => ?_)
  · try exact Bool.noConfusion h6
    try simp only [ZZ] at h6
    refine HC_skip (hK5 _ _ _ _ ?_); clear hK5 K5; refine HC_seq fun K7 hK7 => HC_block ?_; refine HC_seq fun K8 hK8 => HC_region ?_; refine HLm rfl (HLm rfl ?_); refine HL_nil (hK8 _ _ _ _ ?_); clear hK8 K8; refine HC_seq fun K9 hK9 => ?_
    obtain ⟨y, hy, hmem⟩ := getI (show i < ins.length by omega)
    rw [dropI hy, idxF] at hinv; refine HC_region (HLm rfl ?_); refine HLm rfl (HLm rfl (HL_r rfl rfl rfl rfl (R_indexPl (j := i) rfl hs rfl rfl rfl rfl (by omega)) ?_)); refine HL_r rfl rfl rfl rfl (R_loadTy (fun q hq => Or.inr hq) rfl hs hy rfl rfl) ?_; refine HL_callR rfl rfl rfl eg (hg y hmem) (fun q hq => Or.inr hq) ?_; refine HL_nil (hK9 _ _ _ _ ?_); clear hK9 K9; refine HC_cond rfl (fun h10 => ?_) (fun h10 => ?_)
    · try exact Bool.noConfusion h10
      try simp only [ZZ] at h10
      refine HC_seq fun K11 hK11 => HC_region ?_; refine HLm rfl (HLm rfl ?_); refine HL_nil (hK11 _ _ _ _ ?_); clear hK11 K11; refine HC_ret (HQ_blockR (HQ_thenR ?_)); clear hK7 K7; refine HQ_thenR (HQ_blockR (HQ_thenR ?_)); clear hK2 K2; refine HQ_post rfl rfl (.cons (res_tmp rfl) .nil) (fun w1 hs1 => ?_); refine ⟨?_, hs1.keep⟩; rw [← hinv, if_pos (by assumption)]; rfl
    · try exact Bool.noConfusion h10
      try simp only [ZZ] at h10
      refine HC_skip (HQ_blockN (hK7 _ _ _ _ ?_)); clear hK7 K7; refine HC_region (HLp rfl (HL_wrap_i64 (by omega) (by omega) ?_)); refine HLm rfl (HL_nil (HQ_then ?_)); exact HQ_again (i + 1) ⟨by omega, by rw [if_neg (by simp_all)] at hinv; exact hinv⟩ (by omega) (.cons rfl (.cons rfl (.cons rfl (.cons rfl .nil)))) (List.nil_sublist _) (fun _ _ h => h)
  · try exact Bool.noConfusion h6
    try simp only [ZZ] at h6
    refine HC_exit (HQ_thenE ?_); clear hK5 K5; refine HQ_thenE (HQ_blockE (hK2 _ _ _ _ ?_)); clear hK2 K2; refine HC_seq fun K12 hK12 => HC_region ?_; refine HLm rfl ?_; refine HL_nil (hK12 _ _ _ _ ?_); clear hK12 K12; refine HC_ret ?_; refine HQ_post rfl rfl (.cons (res_tmp rfl) .nil) (fun w1 hs1 => ?_); refine ⟨?_, hs1.keep⟩; rw [← hinv, List.drop_of_length_le (by omega), idxF]; rfl
set_option maxRecDepth 10000 in
theorem S_ContainsFuncT {R : List (Nat × Obj)} {ins : List Ty} {p : Pl} {g : FuncId} {b : Ty → Bool} (eg : Enters Tryz.prog g) (hg : ∀ x ∈ ins, PureR Tryz.prog g [x.val].toArray (.bool (b x)) R) (hl : ins.length ≤ 9223372036854775807) (hs : Seg R ins.length (tysC ins) p) :
    PureR Tryz.prog 95 [plV ins.length p, fV g].toArray (.bool (ins.any b)) R := by
  have h := S_IndexFuncT (b := b) eg hg hl hs
  rw [← idxF_any (b := b) (l := ins) (Int.le_refl 0)]; refine pureR_of_HC Tryz.func95 rfl rfl fun w => ?_; refine HC_seq fun K1 hK1 => HC_region ?_; refine HLm rfl ?_; refine HL_nil (hK1 _ _ _ _ ?_); refine HC_seq fun K2 hK2 => HC_region ?_; refine HLm rfl (HLm rfl (HL_callR rfl rfl rfl (enters_of Tryz.func174 (by kernel_rfl) rfl) h (fun q hq => Or.inr hq) ?_)); refine HLp rfl (HLm rfl ?_); refine HL_nil (hK2 _ _ _ _ ?_); refine HC_ret ?_; refine HQ_post rfl rfl (.cons (res_tmp rfl) .nil) (fun w1 hs1 => ?_); exact ⟨rfl, hs1.keep⟩
theorem fix_any : ∀ ins : List Ty, (ins.any fun x => !fixT x) = !fixL ins
  | [] => rfl
  | x :: xs => by rw [List.any_cons, fix_any xs, fixL, Bool.not_and]
set_option maxRecDepth 10000 in
theorem S_still {R : List (Nat × Obj)} {t : Ty} (ht : t.In R) : ∀ d : Int, chk t d = 0 → PureR Tryz.prog 50 [t.val].toArray (.bool (fixT t)) R := by
  induction ht with
  | @mk k n p ins hk hn hl hs hi ih =>
  intro d hc
  obtain ⟨hk8, ho, h6, hci⟩ := chk_mk hc
  have hkk := isK_iff.2 hk8
  have hcl : ∀ x ∈ ins, PureR Tryz.prog 96 [x.val].toArray (.bool (!fixT x)) R := fun x hx => by
    have h1 := ih x hx (d + 1) (hci x hx)
    obtain ⟨xk, xn, xp, xi⟩ := x
    refine pureR_of_HC Tryz.func96 rfl rfl fun w => ?_; refine HC_seq fun K1 hK1 => HC_region ?_; refine HL_box (cs := #[_, _, _]) rfl rfl rfl rfl fun r1 => ?_; refine HLm rfl ?_; refine HL_nil (hK1 _ _ _ _ ?_); clear hK1 K1; refine HC_seq fun K2 hK2 => HC_region ?_; refine HL_r rfl rfl rfl rfl (R_loadA (vs := [_, _, _]) rfl (known_L (k := 0) rfl) rfl rfl rfl rfl) ?_; refine HL_callR rfl rfl rfl (enters_of Tryz.func50 (by kernel_rfl) rfl) h1 (fun q hq => Or.inr hq) ?_; refine HLp rfl (HLm rfl ?_); refine HL_nil (hK2 _ _ _ _ ?_); clear hK2 K2; refine HC_ret ?_; refine HQ_post rfl rfl (.cons (res_tmp rfl) .nil) (fun w1 hs1 => ?_); exact ⟨rfl, hs1.keep⟩
  have hany := S_ContainsFuncT (b := fun x => !fixT x) (enters_of Tryz.func96 (by kernel_rfl) rfl) hcl hl hs
  rw [fix_any] at hany
  have hvb := varB_eq hkk
  rw [fixT]; refine pureR_of_HC Tryz.func50 rfl rfl fun w => ?_; refine HC_seq fun K1 hK1 => HC_region ?_; refine HL_box (cs := #[_, _, _]) rfl rfl rfl rfl fun r1 => ?_; refine HLm rfl ?_; refine HL_nil (hK1 _ _ _ _ ?_); clear hK1 K1; refine HC_seq fun K2 hK2 => ?_
  refine HC_drawB [] [(0, .grow (geCall 0 (fun r : Nat => Value.map (some r)) (fun r => [(r, kObj)]))), (1, .pure), (4, .pure), (5, .pure), (6, .pure), (7, .pure), (10, .pure), (11, .pure), (12, .pure)] 13 [1, 2, 0, 3, 4, 5, 6, 7, 8, 9, 10, 11, 12] (by kernel_rfl) (by kernel_rfl) (by first | exact (fun _ h => nomatch h) | simp [SubS] | (intro p hp; simp [hp])) ?_
  refine HB_p (k := 1) rfl rfl rfl rfl rfl (fun _ hS => (R_fieldAddr rfl rfl (by first | (simp only [Nat.zero_add, Nat.reduceAdd, Nat.reduceMul, Nat.zero_mul, Nat.mul_one, Nat.add_zero]; exact rfl) | exact rfl))) ?_; refine HB_r (k := 2) rfl rfl rfl rfl rfl (R_load rfl (known_L (k := 0) rfl) rfl rfl) ?_; refine HB_callPE (k := 0) rfl rfl rfl rfl rfl (enters_of Tryz.func91 (by kernel_rfl) rfl) E_kinds fun mr => ?_; refine HB_r (k := 3) rfl rfl rfl rfl rfl (R_lookup (keyI (t := 3) (by kernel_rfl)) rfl rfl (known_L (k := 0) rfl) rfl rfl ⟨_, rfl⟩ kMap_dom (kMap_val0 hkk)) ?_; refine HB_p (k := 4) rfl rfl rfl rfl rfl (fun _ hS => (R_pure rfl rfl rfl)) ?_; refine HB_p (k := 5) rfl rfl rfl rfl rfl (fun _ hS => (R_pure rfl rfl rfl)) ?_; refine HB_p (k := 6) rfl rfl rfl rfl rfl (fun _ hS => (R_move rfl)) ?_
  refine HB_case 9 rfl (fun hb3 => ?_) (fun hb3 => ?_) <;> (try simp only [ZZ] at hb3) <;> first | (refine HB_p (k := 7) rfl rfl rfl rfl rfl (fun _ hS => (R_fieldAddr rfl rfl (by first | (simp only [Nat.zero_add, Nat.reduceAdd, Nat.reduceMul, Nat.zero_mul, Nat.mul_one, Nat.add_zero]; exact rfl) | exact rfl))) ?_) | (refine HB_skip (k := 7) rfl rfl rfl rfl ?_)
  all_goals first
    | (refine HB_r (k := 8) rfl rfl rfl rfl rfl (R_load rfl (known_L (k := 1) rfl) rfl rfl) ?_)
    | (refine HB_skip (k := 8) rfl rfl rfl rfl ?_)
  all_goals first
    | (refine HB_callR (k := 9) rfl rfl rfl rfl rfl (enters_of Tryz.func95 (by kernel_rfl) rfl) hany (fun q hq => Or.inr hq) ?_)
    | (refine HB_skip (k := 9) rfl rfl rfl rfl ?_)
  all_goals first
    | (refine HB_p (k := 10) rfl rfl rfl rfl rfl (fun _ hS => (R_pure rfl rfl rfl)) ?_)
    | (refine HB_skip (k := 10) rfl rfl rfl rfl ?_)
  all_goals first
    | (refine HB_p (k := 11) rfl rfl rfl rfl rfl (fun _ hS => (R_pickT rfl rfl)) ?_)
    | (refine HB_p (k := 11) rfl rfl rfl rfl rfl (fun _ hS => (R_pickF rfl rfl)) ?_)
  all_goals refine HB_p (k := 12) rfl rfl rfl rfl rfl (fun _ hS => (R_assign rfl)) ?_
  all_goals refine HB_end ?_
  all_goals refine HL_nil ?_
  all_goals (
   refine hK2 _ _ _ _ ?_; clear hK2 K2; refine HC_ret ?_; refine HQ_post rfl rfl (.cons (res_tmp rfl) .nil) (fun w1 hs1 => ?_); refine ⟨?_, hs1.keep⟩
   simp_all [resVal]
   all_goals first | done | (intros; omega)
   skip)
set_option maxRecDepth 10000 in
theorem S_Fixed {R : List (Nat × Obj)} {t : Ty} (ht : t.In R) : PureR Tryz.prog 24 [t.val].toArray (.bool (isFix t)) R := by
  have h1 := S_Check ht
  have h2 := S_still ht 0
  obtain ⟨k, n, p, ins⟩ := t
  refine pureR_of_HC Tryz.func24 rfl rfl fun w => ?_; refine HC_seq fun K1 hK1 => HC_region ?_; refine HL_box (cs := #[_, _, _]) rfl rfl rfl rfl fun r1 => ?_; refine HLm rfl ?_; refine HL_nil (hK1 _ _ _ _ ?_); clear hK1 K1; refine HC_seq fun K2 hK2 => HC_region ?_; refine HL_r rfl rfl rfl rfl (R_loadA (vs := [_, _, _]) rfl (known_L (k := 0) rfl) rfl rfl rfl rfl) ?_; refine HL_callR rfl rfl rfl (enters_of Tryz.func41 (by kernel_rfl) rfl) h1 (fun q hq => Or.inr hq) ?_; refine HLp rfl (HLm rfl ?_)
  refine HL_case 6 rfl (fun hb3 => ?_) (fun hb3 => ?_) <;> (try simp only [ZZ] at hb3) <;> first | (refine HL_r rfl rfl rfl rfl (R_loadA (vs := [_, _, _]) rfl (known_L (k := 0) rfl) rfl rfl rfl rfl) ?_) | (refine HL_skip rfl rfl rfl ?_)
  all_goals first
    | (refine HL_callR rfl rfl rfl (enters_of Tryz.func50 (by kernel_rfl) rfl) (h2 (by assumption)) (fun q hq => Or.inr hq) ?_)
    | (refine HL_skip rfl rfl rfl ?_)
  all_goals first
    | (refine HL_r rfl rfl rfl rfl (R_pickT rfl rfl) ?_)
    | (refine HL_r rfl rfl rfl rfl (R_pickF rfl rfl) ?_)
  all_goals refine HLm rfl ?_
  all_goals refine HL_nil ?_
  all_goals (
   refine hK2 _ _ _ _ ?_; clear hK2 K2; refine HC_ret ?_; refine HQ_post rfl rfl (.cons (res_tmp rfl) .nil) (fun w1 hs1 => ?_); refine ⟨?_, hs1.keep⟩
   simp_all [isFix, resVal]
   skip)
set_option maxRecDepth 10000 in
theorem S_parts {R : List (Nat × Obj)} {k n : Int} {p : Pl} {ins : List Ty} (ht : Ty.In R (.mk k n p ins)) (hsub : ∀ x ∈ ins, PureR Tryz.prog 51 [x.val].toArray (.int .i64 (sizT x)) R) (hpos : ∀ x ∈ ins, 1 ≤ sizT x) (hb : sizL ins ≤ 2251799813685248) :
    PureR Tryz.prog 158 [Ty.val (.mk k n p ins)].toArray (.int .i64 (sizL ins)) R := by
  cases ht with
  | mk hk hn hl hs hi =>
  have hdp : ∀ i, 0 ≤ sizL (ins.drop i) := fun i => by
    have : ∀ l : List Ty, (∀ x ∈ l, 1 ≤ sizT x) → 0 ≤ sizL l := by
      intro l
      induction l with
      | nil => intro _; rw [sizL]; omega
      | cons x xs ih => intro h; rw [sizL]; have h1 := h x (by simp); have h2 := ih fun y hy => h y (by simp [hy]); omega
    exact this _ fun x hx => hpos x (List.mem_of_mem_drop hx)
  refine pureR_of_HC Tryz.func158 rfl rfl fun w => ?_; refine HC_seq fun K1 hK1 => HC_region ?_; refine HL_box (cs := #[_, _, _]) rfl rfl rfl rfl fun r1 => ?_; refine HLm rfl ?_; refine HL_nil (hK1 _ _ _ _ ?_); refine HC_seq fun K2 hK2 => HC_region ?_; refine HLm rfl ?_; refine HL_nil (hK2 _ _ _ _ ?_); refine HC_seq fun K3 hK3 => ?_; refine HC_seq fun K4 hK4 => HC_region ?_
  refine HL_r rfl rfl rfl rfl (R_fieldAddr rfl rfl (by first | (simp only [Nat.zero_add, Nat.reduceAdd, Nat.reduceMul, Nat.zero_mul, Nat.mul_one, Nat.add_zero]; exact rfl) | exact rfl)) ?_; refine HL_r rfl rfl rfl rfl (R_load rfl (known_L (k := 0) rfl) rfl rfl) ?_; refine HL_r rfl rfl rfl rfl (R_lenPl rfl hs rfl) ?_; refine HLm rfl ?_; refine HL_nil (hK4 _ _ _ _ ?_); refine HC_block (HC_loop (σ := Nat × Int) (fun s => s.1 ≤ ins.length ∧ 0 ≤ s.2 ∧ s.2 + sizL (ins.drop s.1) = sizL ins) (fun s => [(3, .int .i64 s.2), (7, plV ins.length p), (8, .int .i64 (ins.length : Int)), (9, .int .i64 (s.1 : Int))]) (fun _ => []) (fun _ _ _ => True) (fun s => ins.length - s.1) (0, 0) ⟨by omega, by omega, by simp⟩ (.cons rfl (.cons rfl (.cons rfl (.cons rfl .nil)))) (List.nil_sublist _) (fun _ _ h => h) ?_); rintro ⟨i, m⟩ ⟨hi1, hm, hinv⟩; simp only at hinv hi1 hm; refine HC_seq fun K5 hK5 => HC_region ?_; refine HLp rfl ?_; refine HL_nil (hK5 _ _ _ _ ?_); refine HC_seq fun K6 hK6 => ?_; refine HC_cond rfl (fun h7 => ?_) (fun h7 => ?_)
  · try exact Bool.noConfusion h7
    try simp only [ZZ] at h7
    refine HC_skip (hK6 _ _ _ _ ?_); refine HC_seq fun K8 hK8 => HC_block ?_; refine HC_seq fun K9 hK9 => ?_
    obtain ⟨y, hy, hmem⟩ := getI (show i < ins.length by omega)
    have hdi := hdp (i + 1)
    have hyp := hpos y hmem
    rw [dropI hy, sizL] at hinv; refine HC_region (HL_r rfl rfl rfl rfl (R_indexPl (j := i) rfl hs rfl rfl rfl rfl (by omega)) (HL_r rfl rfl rfl rfl (R_loadTy (fun q hq => Or.inr hq) rfl hs hy rfl rfl) ?_)); refine HL_alloc (cs := #[_, _, _]) rfl rfl rfl rfl fun r2 => ?_; refine HL_storeArr (k := 0) (n := 3) (ys := y.cells) rfl rfl rfl rfl rfl y.len rfl y.one rfl ?_; refine HL_nil (hK9 _ _ _ _ ?_); refine HC_region (HLm rfl (HL_r rfl rfl rfl rfl (R_loadArr (xs := y.cells) (n := 3) rfl (known_L (k := 0) rfl) rfl rfl y.len) ?_)); refine HL_callR rfl rfl rfl (enters_of Tryz.func51 (by kernel_rfl) rfl) (hsub y hmem) (fun q hq => Or.inr hq) ?_; refine HLp rfl (HL_wrap_i64 (by omega) (by omega) ?_); refine HLm rfl (HL_nil ?_); refine HQ_blockN (hK8 _ _ _ _ ?_); refine HC_region (HLp rfl (HL_wrap_i64 (by omega) (by omega) ?_)); refine HLm rfl (HL_nil (HQ_then ?_)); exact HQ_again (i + 1, m + sizT y) ⟨by omega, by simp only; omega, by simp only; omega⟩ (by simp only; omega) (.cons rfl (.cons rfl (.cons rfl (.cons rfl .nil)))) (List.nil_sublist _) (fun _ _ h => h)
  · try exact Bool.noConfusion h7
    try simp only [ZZ] at h7
    refine HC_exit (HQ_thenE ?_); refine HQ_thenE (HQ_blockE (hK3 _ _ _ _ ?_)); refine HC_seq fun K10 hK10 => HC_region ?_; refine HLm rfl (HLm rfl ?_); refine HL_nil (hK10 _ _ _ _ ?_); refine HC_ret ?_; refine HQ_post rfl rfl (.cons (res_tmp rfl) .nil) (fun w1 hs1 => ?_); refine ⟨?_, hs1.keep⟩; rw [← hinv, List.drop_of_length_le (by omega), sizL, Int.add_zero]; rfl
theorem sizL_le2 {k n : Int} {p : Pl} {ins : List Ty} {d : Int} (hd : 0 ≤ d) (hc : chk (.mk k n p ins) d = 0) (hf : fixT (.mk k n p ins) = true) : (∀ x ∈ ins, 1 ≤ sizT x) ∧ sizL ins ≤ 2251799813685248 ∧ (k = 3 → 0 ≤ n * sizL ins ∧ n * sizL ins ≤ 2251799813685248) := by
  have hsz := siz_le _ d hd hc hf
  have hb5 := bnd_le (show (5 - d).toNat ≤ 5 by omega)
  obtain ⟨hk8, ho, h6, hci⟩ := chk_mk hc
  rw [fixT, Bool.and_eq_true] at hf
  have hfi := fixL_mem.1 hf.2
  have hsub : ∀ x ∈ ins, 1 ≤ sizT x ∧ sizT x ≤ bnd (5 - (d + 1)).toNat := fun x hx => siz_le x (d + 1) (by omega) (hci x hx) (hfi x hx)
  have hL := sizL_le hsub
  refine ⟨fun x hx => (hsub x hx).1, ?_, fun h3 => ?_⟩
  · by_cases he : ins = []
    · subst he; rw [sizL]; omega
    · have hd5 : d < 5 := by
        obtain ⟨x, hx⟩ := List.exists_mem_of_ne_nil _ he
        cases x with
        | mk a b c e => have := (chk_mk (hci _ hx)).2.2.1; omega
      have hlen : ins.length ≤ 16 := by
        have h9 : k = 1 ∨ k = 2 ∨ k = 3 ∨ k = 4 ∨ k = 5 ∨ k = 6 ∨ k = 7 ∨ k = 8 := by omega
        unfold okForm at ho
        rcases h9 with rfl | rfl | rfl | rfl | rfl | rfl | rfl | rfl <;> simp [he] at ho <;> omega
      have e : (5 - d).toNat = (5 - (d + 1)).toNat + 1 := by omega
      rw [e, bnd] at hb5
      have hb2 := bnd_pos (5 - (d + 1)).toNat
      generalize bnd (5 - (d + 1)).toNat = B at *
      have : (ins.length : Int) * B ≤ 16 * B := Int.mul_le_mul_of_nonneg_right (by omega) (by omega)
      omega
  · subst h3
    have : sizT (.mk 3 n p ins) = n * sizL ins := by rw [sizT, if_neg (by decide), if_neg (by decide), if_neg (by decide), if_pos rfl]
    rw [this] at hsz; omega
set_option maxRecDepth 10000 in
theorem Z_all {R : List (Nat × Obj)} {k n : Int} {p : Pl} {ins : List Ty} {d : Int} (ht : Ty.In R (.mk k n p ins)) (hd : 0 ≤ d) (hc : chk (.mk k n p ins) d = 0) (hf : fixT (.mk k n p ins) = true)
    (hsub : ∀ x ∈ ins, PureR Tryz.prog 51 [x.val].toArray (.int .i64 (sizT x)) R) : Enters Tryz.prog (sizeF k) ∧ PureR Tryz.prog (sizeF k) [Ty.val (.mk k n p ins)].toArray (.int .i64 (sizT (.mk k n p ins))) R := by
  obtain ⟨hpos, hb, h3⟩ := sizL_le2 hd hc hf
  have hp := S_parts ht hsub hpos hb
  obtain ⟨hk8, ho, h6, hci⟩ := chk_mk hc
  rw [fixT, Bool.and_eq_true] at hf
  have hne : (k ≠ 4 ∧ k ≠ 6) ∧ k ≠ 8 := by simpa using hf.1
  have h9 : k = 1 ∨ k = 2 ∨ k = 3 ∨ k = 5 ∨ k = 7 := by omega
  rcases h9 with rfl | rfl | rfl | rfl | rfl
  · refine ⟨enters_of Tryz.func145 (by kernel_rfl) rfl, ?_⟩
    show PureR Tryz.prog 145 _ _ R
    rw [sizT, if_pos rfl]; refine pureR_of_HC Tryz.func145 rfl rfl fun w => ?_; refine HC_seq fun K1 hK1 => HC_region ?_; refine HL_box (cs := #[_, _, _]) rfl rfl rfl rfl fun r1 => ?_; refine HLm rfl ?_; refine HL_nil (hK1 _ _ _ _ ?_); refine HC_seq fun K2 hK2 => HC_region ?_
    refine HL_r rfl rfl rfl rfl (R_fieldAddr rfl rfl (by first | (simp only [Nat.zero_add, Nat.reduceAdd, Nat.reduceMul, Nat.zero_mul, Nat.mul_one, Nat.add_zero]; exact rfl) | exact rfl)) ?_; refine HL_r rfl rfl rfl rfl (R_load rfl (known_L (k := 0) rfl) rfl rfl) ?_; refine HLm rfl ?_; refine HL_nil (hK2 _ _ _ _ ?_); refine HC_ret ?_; refine HQ_post rfl rfl (.cons (res_tmp rfl) .nil) (fun w1 hs1 => ?_); exact ⟨rfl, hs1.keep⟩
  · refine ⟨enters_of Tryz.func151 (by kernel_rfl) rfl, ?_⟩
    show PureR Tryz.prog 151 _ _ R
    rw [sizT, if_neg (by decide), if_pos rfl]; refine pureR_of_HC Tryz.func151 rfl rfl fun w => ?_; refine HC_seq fun K1 hK1 => HC_region ?_; refine HL_box (cs := #[_, _, _]) rfl rfl rfl rfl fun r1 => ?_; refine HLm rfl ?_; refine HL_nil (hK1 _ _ _ _ ?_); refine HC_seq fun K2 hK2 => HC_region ?_; refine HLm rfl ?_; refine HL_nil (hK2 _ _ _ _ ?_); refine HC_ret ?_; refine HQ_post rfl rfl (.cons (res_tmp rfl) .nil) (fun w1 hs1 => ?_); exact ⟨rfl, hs1.keep⟩
  · refine ⟨enters_of Tryz.func157 (by kernel_rfl) rfl, ?_⟩
    show PureR Tryz.prog 157 _ _ R
    have h3' := h3 rfl
    rw [sizT, if_neg (by decide), if_neg (by decide), if_neg (by decide), if_pos rfl]; refine pureR_of_HC Tryz.func157 rfl rfl fun w => ?_; refine HC_seq fun K1 hK1 => HC_region ?_; refine HL_box (cs := #[_, _, _]) rfl rfl rfl rfl fun r1 => ?_; refine HLm rfl ?_; refine HL_nil (hK1 _ _ _ _ ?_); refine HC_seq fun K2 hK2 => ?_; refine HC_draw 6 (by kernel_rfl) (by kernel_rfl) ?_
    refine HD_r rfl rfl rfl (R_fieldAddr rfl rfl (by first | (simp only [Nat.zero_add, Nat.reduceAdd, Nat.reduceMul, Nat.zero_mul, Nat.mul_one, Nat.add_zero]; exact rfl) | exact rfl)) ?_; refine HD_r rfl rfl rfl (R_load rfl (known_L (k := 0) rfl) rfl rfl) ?_; refine HD_r rfl rfl rfl (R_loadA (vs := [_, _, _]) rfl (known_L (k := 0) rfl) rfl rfl rfl rfl) ?_; refine HD_callR rfl rfl rfl (enters_of Tryz.func158 (by kernel_rfl) rfl) hp (fun q hq => Or.inr hq) ?_; refine HD_r rfl rfl rfl (R_pure rfl rfl rfl) ?_; refine HD_wrap_i64 (by omega) (by omega) ?_; refine HD_r rfl rfl rfl (R_assign rfl) ?_; refine HD_end ?_; refine HL_nil (hK2 _ _ _ _ ?_); refine HC_ret ?_; refine HQ_post rfl rfl (.cons (res_tmp rfl) .nil) (fun w1 hs1 => ?_); exact ⟨rfl, hs1.keep⟩
  · refine ⟨enters_of Tryz.func164 (by kernel_rfl) rfl, ?_⟩
    show PureR Tryz.prog 164 _ _ R
    have hbit : 1 ≤ n ∧ n ≤ 512 := by simp [okForm] at ho; omega
    rw [sizT, if_neg (by decide), if_neg (by decide), if_pos rfl]; refine pureR_of_HC Tryz.func164 rfl rfl fun w => ?_; refine HC_seq fun K1 hK1 => HC_region ?_; refine HL_box (cs := #[_, _, _]) rfl rfl rfl rfl fun r1 => ?_; refine HLm rfl ?_; refine HL_nil (hK1 _ _ _ _ ?_); refine HC_seq fun K2 hK2 => HC_region ?_
    refine HL_r rfl rfl rfl rfl (R_fieldAddr rfl rfl (by first | (simp only [Nat.zero_add, Nat.reduceAdd, Nat.reduceMul, Nat.zero_mul, Nat.mul_one, Nat.add_zero]; exact rfl) | exact rfl)) ?_; refine HL_r rfl rfl rfl rfl (R_load rfl (known_L (k := 0) rfl) rfl rfl) ?_; refine HLp rfl (HL_wrap_i64 (by omega) (by omega) ?_); refine HLp rfl (HL_wrap_i64 (by omega) (by omega) ?_); refine HLp rfl (HL_quo (by omega) (by omega) (by omega) (HLm rfl ?_)); refine HL_nil (hK2 _ _ _ _ ?_); refine HC_ret ?_; refine HQ_post rfl rfl (.cons (res_tmp rfl) .nil) (fun w1 hs1 => ?_); exact ⟨congrArg (fun z => Ending.returned (Value.int .i64 z)) (by omega), hs1.keep⟩
  · refine ⟨enters_of Tryz.func169 (by kernel_rfl) rfl, ?_⟩
    show PureR Tryz.prog 169 _ _ R
    rw [sizT, if_neg (by decide), if_neg (by decide), if_neg (by decide), if_neg (by decide)]; refine pureR_of_HC Tryz.func169 rfl rfl fun w => ?_; refine HC_seq fun K1 hK1 => HC_region ?_; refine HL_box (cs := #[_, _, _]) rfl rfl rfl rfl fun r1 => ?_; refine HLm rfl ?_; refine HL_nil (hK1 _ _ _ _ ?_); refine HC_seq fun K2 hK2 => HC_region ?_; refine HL_r rfl rfl rfl rfl (R_loadA (vs := [_, _, _]) rfl (known_L (k := 0) rfl) rfl rfl rfl rfl) ?_; refine HL_callR rfl rfl rfl (enters_of Tryz.func158 (by kernel_rfl) rfl) hp (fun q hq => Or.inr hq) ?_; refine HLm rfl ?_; refine HL_nil (hK2 _ _ _ _ ?_); refine HC_ret ?_; refine HQ_post rfl rfl (.cons (res_tmp rfl) .nil) (fun w1 hs1 => ?_); exact ⟨rfl, hs1.keep⟩
set_option maxRecDepth 10000 in
theorem S_size {R : List (Nat × Obj)} {t : Ty} (ht : t.In R) : ∀ d : Int, 0 ≤ d → chk t d = 0 → fixT t = true → PureR Tryz.prog 51 [t.val].toArray (.int .i64 (sizT t)) R := by
  induction ht with
  | @mk k n p ins hk hn hl hs hi ih =>
  intro d hd hc hf
  obtain ⟨hk8, ho, h6, hci⟩ := chk_mk hc
  have hkk := isK_iff.2 hk8
  have hf0 := hf
  rw [fixT, Bool.and_eq_true] at hf0
  have hfi := fixL_mem.1 hf0.2
  have hz := Z_all (.mk hk hn hl hs hi : Ty.In R (.mk k n p ins)) hd hc hf fun x hx => ih x hx (d + 1) (by omega) (hci x hx) (hfi x hx)
  have hvb : (isK k && !varB k) = true := by rw [hkk, varB_eq hkk]; exact hf0.1
  refine pureR_of_HC Tryz.func51 rfl rfl fun w => ?_; refine HC_seq fun K1 hK1 => HC_region ?_; refine HL_box (cs := #[_, _, _]) rfl rfl rfl rfl fun r1 => ?_; refine HLm rfl ?_; refine HL_nil (hK1 _ _ _ _ ?_); refine HC_seq fun K2 hK2 => ?_
  refine HC_drawB [] [(0, .grow (geCall 0 (fun r : Nat => Value.map (some r)) (fun r => [(r, kObj)]))), (1, .pure), (4, .pure), (7, .pure)] 8 [1, 2, 5, 0, 3, 4, 6, 7] (by kernel_rfl) (by kernel_rfl) (by first | exact (fun _ h => nomatch h) | simp [SubS] | (intro p hp; simp [hp])) ?_
  refine HB_p (k := 1) rfl rfl rfl rfl rfl (fun _ hS => (R_fieldAddr rfl rfl (by first | (simp only [Nat.zero_add, Nat.reduceAdd, Nat.reduceMul, Nat.zero_mul, Nat.mul_one, Nat.add_zero]; exact rfl) | exact rfl))) ?_; refine HB_r (k := 2) rfl rfl rfl rfl rfl (R_load rfl (known_L (k := 0) rfl) rfl rfl) ?_; refine HB_r (k := 5) rfl rfl rfl rfl rfl (R_loadA (vs := [_, _, _]) rfl (known_L (k := 0) rfl) rfl rfl rfl rfl) ?_; refine HB_callPE (k := 0) rfl rfl rfl rfl rfl (enters_of Tryz.func91 (by kernel_rfl) rfl) E_kinds fun mr => ?_; refine HB_r (k := 3) rfl rfl rfl rfl rfl (R_lookup (keyI (t := 3) (by kernel_rfl)) rfl rfl (known_L (k := 0) rfl) rfl rfl ⟨_, rfl⟩ kMap_dom (kMap_val0 hkk)) ?_; refine HB_p (k := 4) rfl rfl rfl rfl rfl (fun _ hS => (R_pure rfl rfl rfl)) ?_; refine HB_as (fnV_t hvb) ?_; refine HB_callR (k := 6) rfl rfl rfl rfl rfl hz.1 hz.2 (fun q hq => Or.inr hq) ?_; refine HB_p (k := 7) rfl rfl rfl rfl rfl (fun _ hS => (R_assign rfl)) ?_; refine HB_end ?_; refine HL_nil (hK2 _ _ _ _ ?_); refine HC_ret ?_; refine HQ_post rfl rfl (.cons (res_tmp rfl) .nil) (fun w1 hs1 => ?_); exact ⟨rfl, hs1.keep⟩
set_option maxRecDepth 10000 in
theorem S_Size {R : List (Nat × Obj)} {t : Ty} (ht : t.In R) : PureR Tryz.prog 25 [t.val].toArray (.int .i64 (sizeT t)) R := by
  have h1 := S_Fixed ht
  have h2 := S_size ht 0 (by omega)
  obtain ⟨k, n, p, ins⟩ := t
  refine pureR_of_HC Tryz.func25 rfl rfl fun w => ?_; refine HC_seq fun K1 hK1 => HC_region ?_; refine HL_box (cs := #[_, _, _]) rfl rfl rfl rfl fun r1 => ?_; refine HLm rfl ?_; refine HL_nil (hK1 _ _ _ _ ?_); clear hK1 K1; refine HC_seq fun K2 hK2 => ?_; refine HC_seq fun K3 hK3 => HC_region ?_; refine HL_r rfl rfl rfl rfl (R_loadA (vs := [_, _, _]) rfl (known_L (k := 0) rfl) rfl rfl rfl rfl) ?_; refine HL_callR rfl rfl rfl (enters_of Tryz.func24 (by kernel_rfl) rfl) h1 (fun q hq => Or.inr hq) ?_; refine HLp rfl ?_; refine HL_nil (hK3 _ _ _ _ ?_); clear hK3 K3; refine HC_cond rfl (fun h4 => ?_) (fun h4 => ?_)
  · try exact Bool.noConfusion h4
    try simp only [ZZ] at h4
    refine HC_seq fun K5 hK5 => HC_region ?_; refine HLm rfl ?_; refine HL_nil (hK5 _ _ _ _ ?_); clear hK5 K5; refine HC_ret (HQ_thenR ?_); clear hK2 K2; refine HQ_post rfl rfl (.cons (res_tmp rfl) .nil) (fun w1 hs1 => ?_); refine ⟨?_, hs1.keep⟩
    simp_all [sizeT, resVal]
  · try exact Bool.noConfusion h4
    try simp only [ZZ] at h4
    refine HC_skip (hK2 _ _ _ _ ?_); clear hK2 K2; refine HC_seq fun K6 hK6 => HC_region ?_; refine HL_r rfl rfl rfl rfl (R_loadA (vs := [_, _, _]) rfl (known_L (k := 0) rfl) rfl rfl rfl rfl) ?_; refine HL_callR rfl rfl rfl (enters_of Tryz.func51 (by kernel_rfl) rfl) (h2 (isFix_iff.1 (by assumption)).1 (isFix_iff.1 (by assumption)).2) (fun q hq => Or.inr hq) ?_; refine HLm rfl ?_; refine HL_nil (hK6 _ _ _ _ ?_); clear hK6 K6; refine HC_ret ?_; refine HQ_post rfl rfl (.cons (res_tmp rfl) .nil) (fun w1 hs1 => ?_); refine ⟨?_, hs1.keep⟩
    simp_all [sizeT, resVal]
end Go.Proofs.YtlcbfphioeppaaaGreatDoor
namespace Go.Proofs.YtlcbfphioeppaaaGreatDoor
set_option linter.all false
open Go.SL Go.RowKit Go.Shelf
/-! values of some of their parts alone -/
def vBlk (r : Nat) (v : Vl) : Nat × Obj := (r, .cells v.cells.toArray 31 (0, 0))
def zVl : Vl := .mk 0 0 0 0 [] none [] none 0
def clV (f : FuncId) (r : Nat) : Value := .func (.func f) #[] #[.pointer (some ⟨r, 0, none⟩)]
/-- What a part that is kept owes. -/
def Keeps (f : FuncId) (v out : Vl) : Prop := ∀ r1 rr : Nat, r1 ≠ rr → PureMR Tryz.prog f [.pointer (some ⟨rr, 0, none⟩), .pointer (some ⟨r1, 0, none⟩)].toArray (.tuple #[]) rr (vBlk rr zVl).2 (vBlk rr out).2 [vBlk r1 v]
set_option maxRecDepth 10000 in
theorem K_number (a b c d : Nat) (bits : List Bool) (pb : Pl) (items : List Vl) (pi : Pl) (pick : Int) : Keeps 201 (.mk a b c d bits pb items pi pick) (.mk a b c d [] none [] none 0) := fun r1 rr hne => by
  refine pureMR_of_HC (fun p hp => by rw [List.mem_singleton.1 hp]; exact hne) Tryz.func201 rfl rfl fun w => ?_; refine HC_region (HLm rfl ?_)
  refine HL_r rfl rfl rfl rfl (R_fieldAddr rfl rfl (by first | (simp only [Nat.zero_add, Nat.reduceAdd, Nat.reduceMul, Nat.zero_mul, Nat.mul_one, Nat.add_zero]; exact rfl) | exact rfl)) ?_; refine HL_r rfl rfl rfl rfl (R_loadA (vs := [_, _, _, _]) rfl (known_R (k := 0) rfl) rfl rfl rfl rfl) ?_; refine HLp rfl ?_
  refine HL_r rfl rfl rfl rfl (R_fieldAddr rfl rfl (by first | (simp only [Nat.zero_add, Nat.reduceAdd, Nat.reduceMul, Nat.zero_mul, Nat.mul_one, Nat.add_zero]; exact rfl) | exact rfl)) ?_
  refine HL_storeA (k := 0) (n := 4) (vs := #[_, _, _, _]) rfl rfl rfl rfl rfl rfl rfl (by exact Nat.le_of_ble_eq_true rfl) (by first | (simp only [List.take_zero, List.nil_append, Array.toList_toArray, List.drop_succ_cons, List.drop_zero, List.take_succ_cons, List.cons_append, Nat.zero_add, Nat.reduceAdd, List.append_nil, List.drop_nil]; exact rfl) | exact rfl) (by first | (simp only [List.set_cons_zero, List.set_cons_succ]; exact rfl) | exact rfl) ?_; refine HL_nil ?_; refine HQ_postN rfl rfl .nil (fun w1 hs1 => ?_); exact ⟨rfl, _, List.mem_cons_self, hs1⟩
set_option maxRecDepth 10000 in
theorem K_items (a b c d : Nat) (bits : List Bool) (pb : Pl) (items : List Vl) (pi : Pl) (pick : Int) : Keeps 204 (.mk a b c d bits pb items pi pick) (.mk 0 0 0 0 [] none items pi 0) := fun r1 rr hne => by
  refine pureMR_of_HC (fun p hp => by rw [List.mem_singleton.1 hp]; exact hne) Tryz.func204 rfl rfl fun w => ?_; refine HC_region (HLm rfl ?_)
  refine HL_r rfl rfl rfl rfl (R_fieldAddr rfl rfl (by first | (simp only [Nat.zero_add, Nat.reduceAdd, Nat.reduceMul, Nat.zero_mul, Nat.mul_one, Nat.add_zero]; exact rfl) | exact rfl)) ?_; refine HL_r rfl rfl rfl rfl (R_load rfl (known_R (k := 0) rfl) rfl rfl) ?_; refine HLp rfl ?_
  refine HL_r rfl rfl rfl rfl (R_fieldAddr rfl rfl (by first | (simp only [Nat.zero_add, Nat.reduceAdd, Nat.reduceMul, Nat.zero_mul, Nat.mul_one, Nat.add_zero]; exact rfl) | exact rfl)) ?_
  refine HL_store (k := 0) rfl rfl rfl rfl rfl rfl rfl rfl (by first | (simp only [List.setIfInBounds_toArray, List.set_cons_zero, List.set_cons_succ]; exact rfl) | exact rfl) (by first | (simp only [List.set_cons_zero, List.set_cons_succ]; exact rfl) | exact rfl) ?_; refine HL_nil ?_; refine HQ_postN rfl rfl .nil (fun w1 hs1 => ?_); exact ⟨rfl, _, List.mem_cons_self, hs1⟩
set_option maxRecDepth 10000 in
theorem K_bits (a b c d : Nat) (bits : List Bool) (pb : Pl) (items : List Vl) (pi : Pl) (pick : Int) : Keeps 205 (.mk a b c d bits pb items pi pick) (.mk 0 0 0 0 bits pb [] none 0) := fun r1 rr hne => by
  refine pureMR_of_HC (fun p hp => by rw [List.mem_singleton.1 hp]; exact hne) Tryz.func205 rfl rfl fun w => ?_; refine HC_region (HLm rfl ?_)
  refine HL_r rfl rfl rfl rfl (R_fieldAddr rfl rfl (by first | (simp only [Nat.zero_add, Nat.reduceAdd, Nat.reduceMul, Nat.zero_mul, Nat.mul_one, Nat.add_zero]; exact rfl) | exact rfl)) ?_; refine HL_r rfl rfl rfl rfl (R_load rfl (known_R (k := 0) rfl) rfl rfl) ?_; refine HLp rfl ?_
  refine HL_r rfl rfl rfl rfl (R_fieldAddr rfl rfl (by first | (simp only [Nat.zero_add, Nat.reduceAdd, Nat.reduceMul, Nat.zero_mul, Nat.mul_one, Nat.add_zero]; exact rfl) | exact rfl)) ?_
  refine HL_store (k := 0) rfl rfl rfl rfl rfl rfl rfl rfl (by first | (simp only [List.setIfInBounds_toArray, List.set_cons_zero, List.set_cons_succ]; exact rfl) | exact rfl) (by first | (simp only [List.set_cons_zero, List.set_cons_succ]; exact rfl) | exact rfl) ?_; refine HL_nil ?_; refine HQ_postN rfl rfl .nil (fun w1 hs1 => ?_); exact ⟨rfl, _, List.mem_cons_self, hs1⟩
set_option maxRecDepth 10000 in
theorem K_pick (a b c d : Nat) (bits : List Bool) (pb : Pl) (items : List Vl) (pi : Pl) (pick : Int) : Keeps 206 (.mk a b c d bits pb items pi pick) (.mk 0 0 0 0 [] none items pi pick) := fun r1 rr hne => by
  refine pureMR_of_HC (fun p hp => by rw [List.mem_singleton.1 hp]; exact hne) Tryz.func206 rfl rfl fun w => ?_
  refine HC_drawB [] [(0, .pure), (1, .pure), (2, .pure), (3, .pure), (4, .pure), (5, .pure), (6, .pure), (7, .pure), (8, .turn), (9, .pure), (10, .pure), (11, .turn)] 12 [0, 1, 2, 3, 4, 5, 6, 7, 8, 9, 10, 11] (by kernel_rfl) (by kernel_rfl) (by first | exact (fun _ h => nomatch h) | simp [SubS] | (intro p hp; simp [hp])) ?_; refine HB_p (k := 0) rfl rfl rfl rfl rfl (fun _ hS => (R_move rfl)) ?_; refine HB_p (k := 1) rfl rfl rfl rfl rfl (fun _ hS => (R_move rfl)) ?_
  refine HB_p (k := 2) rfl rfl rfl rfl rfl (fun _ hS => (R_fieldAddr rfl rfl (by first | (simp only [Nat.zero_add, Nat.reduceAdd, Nat.reduceMul, Nat.zero_mul, Nat.mul_one, Nat.add_zero]; exact rfl) | exact rfl))) ?_; refine HB_p (k := 3) rfl rfl rfl rfl rfl (fun _ hS => (R_load rfl (known_R (k := 0) rfl) rfl rfl)) ?_
  refine HB_p (k := 4) rfl rfl rfl rfl rfl (fun _ hS => (R_fieldAddr rfl rfl (by first | (simp only [Nat.zero_add, Nat.reduceAdd, Nat.reduceMul, Nat.zero_mul, Nat.mul_one, Nat.add_zero]; exact rfl) | exact rfl))) ?_; refine HB_p (k := 5) rfl rfl rfl rfl rfl (fun _ hS => (R_load rfl (known_R (k := 0) rfl) rfl rfl)) ?_; refine HB_p (k := 6) rfl rfl rfl rfl rfl (fun _ hS => (R_pure rfl rfl rfl)) ?_
  refine HB_p (k := 7) rfl rfl rfl rfl rfl (fun _ hS => (R_fieldAddr rfl rfl (by first | (simp only [Nat.zero_add, Nat.reduceAdd, Nat.reduceMul, Nat.zero_mul, Nat.mul_one, Nat.add_zero]; exact rfl) | exact rfl))) ?_
  refine HB_store (k := 8) (q := 0) rfl rfl rfl rfl rfl rfl rfl rfl rfl (by first | (simp only [List.setIfInBounds_toArray, List.set_cons_zero, List.set_cons_succ]; exact rfl) | exact rfl) (by first | (simp only [List.set_cons_zero, List.set_cons_succ]; exact rfl) | exact rfl) (by first | exact (fun _ h => nomatch h) | simp [SubS] | (intro p hp; simp [hp])) ?_; refine HB_p (k := 9) rfl rfl rfl rfl rfl (fun _ hS => (R_pure rfl rfl rfl)) ?_
  refine HB_p (k := 10) rfl rfl rfl rfl rfl (fun _ hS => (R_fieldAddr rfl rfl (by first | (simp only [Nat.zero_add, Nat.reduceAdd, Nat.reduceMul, Nat.zero_mul, Nat.mul_one, Nat.add_zero]; exact rfl) | exact rfl))) ?_
  refine HB_store (k := 11) (q := 0) rfl rfl rfl rfl rfl rfl rfl rfl rfl (by first | (simp only [List.setIfInBounds_toArray, List.set_cons_zero, List.set_cons_succ]; exact rfl) | exact rfl) (by first | (simp only [List.set_cons_zero, List.set_cons_succ]; exact rfl) | exact rfl) (by first | exact (fun _ h => nomatch h) | simp [SubS] | (intro p hp; simp [hp])) ?_; refine HB_end ?_; refine HL_nil ?_; refine HQ_postN rfl rfl .nil (fun w1 hs1 => ?_); exact ⟨rfl, _, List.mem_cons_self, hs1⟩
set_option maxRecDepth 10000 in
theorem S_bare {R : List (Nat × Obj)} {v out : Vl} {f : FuncId} {rv : Nat} (ef : Enters Tryz.prog f) (hv : v.In R) (ho : out.In R) (hk : Keeps f v out) (hr : vBlk rv v ∈ R) : PureR Tryz.prog 200 [v.val, clV f rv].toArray (.bool (sameV v out)) R := by
  have hsm := S_Same hv out ho
  obtain ⟨a, b, c, d, bits, pb, items, pi, pick⟩ := v
  obtain ⟨a', b', c', d', bits', pb', items', pi', pick'⟩ := out
  refine pureR_of_HC Tryz.func200 rfl rfl fun w => ?_; refine HC_seq fun K1 hK1 => HC_region ?_; refine HL_box (cs := #[_, _, _, _, _, _, _]) rfl rfl rfl rfl fun r1 => ?_; refine HLm rfl ?_; refine HL_nil (hK1 _ _ _ _ ?_); refine HC_seq fun K2 hK2 => HC_region ?_; refine HL_alloc (cs := #[_, _, _, _, _, _, _]) rfl rfl rfl rfl fun r2 => ?_; refine HL_nil (hK2 _ _ _ _ ?_); refine HC_seq fun K3 hK3 => HC_region ?_; refine HLm rfl ?_; refine HL_callMR (k := 0) rfl rfl rfl ef rfl (fun hne => hk rv r2 (hne _ List.mem_cons_self)) (fun q hq => by rw [List.mem_singleton.1 hq]; exact hr) rfl ?_; refine HL_nil (hK3 _ _ _ _ ?_); refine HC_seq fun K4 hK4 => HC_region ?_; refine HL_r rfl rfl rfl rfl (R_loadA (vs := [_, _, _, _, _, _, _]) rfl (known_L (k := 1) rfl) rfl rfl rfl rfl) ?_; refine HL_r rfl rfl rfl rfl (R_loadA (vs := [_, _, _, _, _, _, _]) rfl (known_L (k := 0) rfl) rfl rfl rfl rfl) ?_; refine HL_callR rfl rfl rfl (enters_of Tryz.func23 (by kernel_rfl) rfl) hsm (fun q hq => Or.inr hq) ?_; refine HLm rfl ?_; refine HL_nil (hK4 _ _ _ _ ?_); refine HC_ret ?_; refine HQ_post rfl rfl (.cons (res_tmp rfl) .nil) (fun w1 hs1 => ?_); exact ⟨rfl, hs1.keep⟩
theorem In_bits {R : List (Nat × Obj)} {a b c d : Nat} {bits : List Bool} {pb : Pl} {items : List Vl} {pi : Pl} {pick : Int} (h : Vl.In R (.mk a b c d bits pb items pi pick)) : Vl.In R (.mk a b c d [] none [] none 0) ∧ Vl.In R (.mk 0 0 0 0 [] none items pi 0) ∧ Vl.In R (.mk 0 0 0 0 bits pb [] none 0) ∧ Vl.In R (.mk 0 0 0 0 [] none items pi pick) := by
  cases h with
  | mk ha hb hc hd hlb hsb hl hs hp hi =>
  have z : U64 0 := by unfold U64; omega
  have i0 : I64 0 := by unfold I64; omega
  refine ⟨.mk ha hb hc hd (by simp) rfl (by simp) rfl i0 (by simp), .mk z z z z (by simp) rfl hl hs i0 hi, .mk z z z z hlb hsb (by simp) rfl i0 (by simp), .mk z z z z (by simp) rfl hl hs hp hi⟩
theorem sameL_refl (l : List Vl) : sameL l l = true := sameL_spec.2 ⟨rfl, fun i x y hx hy => by rw [hx] at hy; cases hy; exact sameV_refl x⟩
theorem sameL_nil (l : List Vl) : sameL l [] = decide (l.length = 0) := by cases l <;> simp [sameL]
theorem bare_number {a b c d : Nat} {bits : List Bool} {pb : Pl} {items : List Vl} {pi : Pl} {pick : Int} : sameV (.mk a b c d bits pb items pi pick) (.mk a b c d [] none [] none 0) = onlyB (.mk a b c d bits pb items pi pick) true false false false := by
  rw [sameV_mk, onlyB_mk, sameL_nil]
  by_cases h1 : bits = [] <;> by_cases h2 : items = [] <;> by_cases h3 : pick = 0 <;> simp [h1, h2, h3]
theorem bare_items {a b c d : Nat} {bits : List Bool} {pb : Pl} {items : List Vl} {pi : Pl} {pick : Int} : sameV (.mk a b c d bits pb items pi pick) (.mk 0 0 0 0 [] none items pi 0) = onlyB (.mk a b c d bits pb items pi pick) false false true false := by
  rw [sameV_mk, onlyB_mk, sameL_refl]
  by_cases h1 : bits = [] <;> by_cases h3 : pick = 0 <;> simp [h1, h3]
theorem bare_bits {a b c d : Nat} {bits : List Bool} {pb : Pl} {items : List Vl} {pi : Pl} {pick : Int} : sameV (.mk a b c d bits pb items pi pick) (.mk 0 0 0 0 bits pb [] none 0) = onlyB (.mk a b c d bits pb items pi pick) false true false false := by
  rw [sameV_mk, onlyB_mk, sameL_nil]
  by_cases h2 : items = [] <;> by_cases h3 : pick = 0 <;> simp [h2, h3]
theorem bare_pick {a b c d : Nat} {bits : List Bool} {pb : Pl} {items : List Vl} {pi : Pl} {pick : Int} : sameV (.mk a b c d bits pb items pi pick) (.mk 0 0 0 0 [] none items pi pick) = onlyB (.mk a b c d bits pb items pi pick) false false true true := by
  rw [sameV_mk, onlyB_mk, sameL_refl]
  by_cases h1 : bits = [] <;> simp [h1]
set_option maxRecDepth 10000 in
theorem S_number {R : List (Nat × Obj)} {v : Vl} (hv : v.In R) : PureR Tryz.prog 143 [v.val].toArray (.bool (onlyB v true false false false)) R := by
  obtain ⟨a, b, c, d, bits, pb, items, pi, pick⟩ := v
  have hb4 := In_bits hv
  refine pureR_of_HC Tryz.func143 rfl rfl fun w => ?_; rw [← bare_number (pb := pb) (pi := pi)]; refine HC_seq fun K1 hK1 => HC_region ?_; refine HL_box (cs := #[_, _, _, _, _, _, _]) rfl rfl rfl rfl fun r1 => ?_; refine HLm rfl ?_; refine HL_nil (hK1 _ _ _ _ ?_); refine HC_seq fun K2 hK2 => HC_region ?_; refine HL_r rfl rfl rfl rfl (R_loadA (vs := [_, _, _, _, _, _, _]) rfl (known_L (k := 0) rfl) rfl rfl rfl rfl) ?_; refine HL_r rfl rfl rfl rfl (R_makeFunc rfl rfl) ?_
  refine HL_callR (Rl := vBlk r1 (.mk a b c d bits pb items pi pick) :: R) rfl rfl rfl (enters_of Tryz.func200 (by kernel_rfl) rfl) (S_bare (enters_of Tryz.func201 (by kernel_rfl) rfl) (hv.mono fun q hq => List.mem_cons_of_mem _ hq) (hb4.1.mono fun q hq => List.mem_cons_of_mem _ hq) (K_number a b c d bits pb items pi pick) List.mem_cons_self) (fun q hq => by rcases List.mem_cons.1 hq with rfl | hq; exact .inl List.mem_cons_self; exact .inr hq) ?_; refine HLm rfl ?_; refine HL_nil (hK2 _ _ _ _ ?_); refine HC_ret ?_; refine HQ_post rfl rfl (.cons (res_tmp rfl) .nil) (fun w1 hs1 => ?_); exact ⟨rfl, hs1.keep⟩
set_option maxRecDepth 10000 in
theorem S_items {R : List (Nat × Obj)} {v : Vl} (hv : v.In R) : PureR Tryz.prog 156 [v.val].toArray (.bool (onlyB v false false true false)) R := by
  obtain ⟨a, b, c, d, bits, pb, items, pi, pick⟩ := v
  have hb4 := In_bits hv
  refine pureR_of_HC Tryz.func156 rfl rfl fun w => ?_; rw [← bare_items (pb := pb) (pi := pi)]; refine HC_seq fun K1 hK1 => HC_region ?_; refine HL_box (cs := #[_, _, _, _, _, _, _]) rfl rfl rfl rfl fun r1 => ?_; refine HLm rfl ?_; refine HL_nil (hK1 _ _ _ _ ?_); refine HC_seq fun K2 hK2 => HC_region ?_; refine HL_r rfl rfl rfl rfl (R_loadA (vs := [_, _, _, _, _, _, _]) rfl (known_L (k := 0) rfl) rfl rfl rfl rfl) ?_; refine HL_r rfl rfl rfl rfl (R_makeFunc rfl rfl) ?_
  refine HL_callR (Rl := vBlk r1 (.mk a b c d bits pb items pi pick) :: R) rfl rfl rfl (enters_of Tryz.func200 (by kernel_rfl) rfl) (S_bare (enters_of Tryz.func204 (by kernel_rfl) rfl) (hv.mono fun q hq => List.mem_cons_of_mem _ hq) (hb4.2.1.mono fun q hq => List.mem_cons_of_mem _ hq) (K_items a b c d bits pb items pi pick) List.mem_cons_self) (fun q hq => by rcases List.mem_cons.1 hq with rfl | hq; exact .inl List.mem_cons_self; exact .inr hq) ?_; refine HLm rfl ?_; refine HL_nil (hK2 _ _ _ _ ?_); refine HC_ret ?_; refine HQ_post rfl rfl (.cons (res_tmp rfl) .nil) (fun w1 hs1 => ?_); exact ⟨rfl, hs1.keep⟩
set_option maxRecDepth 10000 in
theorem S_bits {R : List (Nat × Obj)} {v : Vl} (hv : v.In R) : PureR Tryz.prog 163 [v.val].toArray (.bool (onlyB v false true false false)) R := by
  obtain ⟨a, b, c, d, bits, pb, items, pi, pick⟩ := v
  have hb4 := In_bits hv
  refine pureR_of_HC Tryz.func163 rfl rfl fun w => ?_; rw [← bare_bits (pb := pb) (pi := pi)]; refine HC_seq fun K1 hK1 => HC_region ?_; refine HL_box (cs := #[_, _, _, _, _, _, _]) rfl rfl rfl rfl fun r1 => ?_; refine HLm rfl ?_; refine HL_nil (hK1 _ _ _ _ ?_); refine HC_seq fun K2 hK2 => HC_region ?_; refine HL_r rfl rfl rfl rfl (R_loadA (vs := [_, _, _, _, _, _, _]) rfl (known_L (k := 0) rfl) rfl rfl rfl rfl) ?_; refine HL_r rfl rfl rfl rfl (R_makeFunc rfl rfl) ?_
  refine HL_callR (Rl := vBlk r1 (.mk a b c d bits pb items pi pick) :: R) rfl rfl rfl (enters_of Tryz.func200 (by kernel_rfl) rfl) (S_bare (enters_of Tryz.func205 (by kernel_rfl) rfl) (hv.mono fun q hq => List.mem_cons_of_mem _ hq) (hb4.2.2.1.mono fun q hq => List.mem_cons_of_mem _ hq) (K_bits a b c d bits pb items pi pick) List.mem_cons_self) (fun q hq => by rcases List.mem_cons.1 hq with rfl | hq; exact .inl List.mem_cons_self; exact .inr hq) ?_; refine HLm rfl ?_; refine HL_nil (hK2 _ _ _ _ ?_); refine HC_ret ?_; refine HQ_post rfl rfl (.cons (res_tmp rfl) .nil) (fun w1 hs1 => ?_); exact ⟨rfl, hs1.keep⟩
set_option maxRecDepth 10000 in
theorem S_pick {R : List (Nat × Obj)} {v : Vl} (hv : v.In R) : PureR Tryz.prog 172 [v.val].toArray (.bool (onlyB v false false true true)) R := by
  obtain ⟨a, b, c, d, bits, pb, items, pi, pick⟩ := v
  have hb4 := In_bits hv
  refine pureR_of_HC Tryz.func172 rfl rfl fun w => ?_; rw [← bare_pick (pb := pb) (pi := pi)]; refine HC_seq fun K1 hK1 => HC_region ?_; refine HL_box (cs := #[_, _, _, _, _, _, _]) rfl rfl rfl rfl fun r1 => ?_; refine HLm rfl ?_; refine HL_nil (hK1 _ _ _ _ ?_); refine HC_seq fun K2 hK2 => HC_region ?_; refine HL_r rfl rfl rfl rfl (R_loadA (vs := [_, _, _, _, _, _, _]) rfl (known_L (k := 0) rfl) rfl rfl rfl rfl) ?_; refine HL_r rfl rfl rfl rfl (R_makeFunc rfl rfl) ?_
  refine HL_callR (Rl := vBlk r1 (.mk a b c d bits pb items pi pick) :: R) rfl rfl rfl (enters_of Tryz.func200 (by kernel_rfl) rfl) (S_bare (enters_of Tryz.func206 (by kernel_rfl) rfl) (hv.mono fun q hq => List.mem_cons_of_mem _ hq) (hb4.2.2.2.mono fun q hq => List.mem_cons_of_mem _ hq) (K_pick a b c d bits pb items pi pick) List.mem_cons_self) (fun q hq => by rcases List.mem_cons.1 hq with rfl | hq; exact .inl List.mem_cons_self; exact .inr hq) ?_; refine HLm rfl ?_; refine HL_nil (hK2 _ _ _ _ ?_); refine HC_ret ?_; refine HQ_post rfl rfl (.cons (res_tmp rfl) .nil) (fun w1 hs1 => ?_); exact ⟨rfl, hs1.keep⟩
end Go.Proofs.YtlcbfphioeppaaaGreatDoor
namespace Go.Proofs.YtlcbfphioeppaaaGreatDoor
set_option linter.all false
open Go.SL Go.RowKit Go.Shelf
theorem less1 {l : List Nat} (hl : WOk l) : (!lessB [1, 0, 0, 0] l) = (decide (l = [0, 0, 0, 0]) || decide (l = [1, 0, 0, 0])) := by
  have h0 : WOk [0, 0, 0, 0] := ⟨rfl, fun x hx => by simp at hx; omega⟩
  have h1 : WOk [1, 0, 0, 0] := ⟨rfl, fun x hx => by simp at hx; omega⟩
  rw [lessB_eq h1 hl, show wN [1, 0, 0, 0] = 1 from rfl]
  by_cases e0 : l = [0, 0, 0, 0]
  · subst e0; rfl
  by_cases e1 : l = [1, 0, 0, 0]
  · subst e1; rfl
  have n0 : wN l ≠ 0 := fun h => e0 (wN_inj hl h0 h)
  have n1 : wN l ≠ 1 := fun h => e1 (wN_inj hl h1 h)
  simp [e0, e1]
  omega
set_option maxRecDepth 10000 in
theorem O_1 {R : List (Nat × Obj)} {n : Int} {p : Pl} {ins : List Ty} {v : Vl} (ht : Ty.In R (.mk 1 n p ins)) (hv : v.In R) : PureR Tryz.prog 142 [Ty.val (.mk 1 n p ins), v.val].toArray (.bool (ofT 1 n ins.length v)) R := by
  have hnu := S_number hv
  have hit := S_items hv
  have hbi := S_bits hv
  have hpk := S_pick hv
  cases ht with
  | mk hk hn hlt hst hit0 =>
  cases hv with
  | @mk a b c d bits pb items pi pick ha hb hc hd hlb hsb hl hs hp hi =>
  have hw : WOk [a, b, c, d] := ⟨rfl, fun x hx => by simp at hx; rcases hx with rfl | rfl | rfl | rfl <;> assumption⟩
  have hw1 : WOk [1, 0, 0, 0] := ⟨rfl, fun x hx => by simp at hx; omega⟩
  have hl1 := less1 hw
  rw [ofT_mk _ n ins.length a b c d bits pb items pi pick _ rfl]; refine pureR_of_HC Tryz.func142 rfl rfl fun w => ?_; refine HC_seq fun K1 hK1 => HC_region ?_; refine HL_box (cs := #[_, _, _]) rfl rfl rfl rfl fun r1 => ?_; refine HL_box (cs := #[_, _, _, _, _, _, _]) rfl rfl rfl rfl fun r2 => ?_; refine HLm rfl ?_; refine HL_nil (hK1 _ _ _ _ ?_); clear hK1 K1; refine HC_seq fun K2 hK2 => ?_; refine HC_draw 12 (by kernel_rfl) (by kernel_rfl) ?_; refine HD_r rfl rfl rfl (R_loadA (vs := [_, _, _, _, _, _, _]) rfl (known_L (k := 0) rfl) rfl rfl rfl rfl) ?_; refine HD_callR rfl rfl rfl (enters_of Tryz.func143 (by kernel_rfl) rfl) hnu (fun q hq => Or.inr hq) ?_; refine HD_r rfl rfl rfl (R_move rfl) ?_
  refine HD_case 7 rfl (fun hb3 => ?_) (fun hb3 => ?_) <;> (try simp only [ZZ] at hb3) <;> first | (refine HD_r rfl rfl rfl (R_fieldAddr rfl rfl (by first | (simp only [Nat.zero_add, Nat.reduceAdd, Nat.reduceMul, Nat.zero_mul, Nat.mul_one, Nat.add_zero]; exact rfl) | exact rfl)) ?_) | (refine HD_skip rfl rfl rfl ?_)
  all_goals first
    | (refine HD_r rfl rfl rfl (R_loadA (vs := [_, _, _, _]) rfl (known_L (k := 0) rfl) rfl rfl rfl rfl) ?_)
    | (refine HD_skip rfl rfl rfl ?_)
  all_goals first
    | (refine HD_callP rfl rfl rfl (enters_of Tryz.func144 (by kernel_rfl) rfl) (P_word_Bytes hw) ?_)
    | (refine HD_skip rfl rfl rfl ?_)
  all_goals first
    | (refine HD_r rfl rfl rfl (R_lenBs rfl rfl) ?_)
    | (refine HD_skip rfl rfl rfl ?_)
  all_goals first
    | (refine HD_r rfl rfl rfl (R_fieldAddr rfl rfl (by first | (simp only [Nat.zero_add, Nat.reduceAdd, Nat.reduceMul, Nat.zero_mul, Nat.mul_one, Nat.add_zero]; exact rfl) | exact rfl)) ?_)
    | (refine HD_skip rfl rfl rfl ?_)
  all_goals first
    | (refine HD_r rfl rfl rfl (R_load rfl (known_L (k := 1) rfl) rfl rfl) ?_)
    | (refine HD_skip rfl rfl rfl ?_)
  all_goals first
    | (refine HD_r rfl rfl rfl (R_pure rfl rfl rfl) ?_)
    | (refine HD_skip rfl rfl rfl ?_)
  all_goals first
    | (refine HD_r rfl rfl rfl (R_pickT rfl rfl) ?_)
    | (refine HD_r rfl rfl rfl (R_pickF rfl rfl) ?_)
  all_goals refine HD_r rfl rfl rfl (R_assign rfl) ?_
  all_goals refine HD_end ?_
  all_goals refine HL_nil ?_
  all_goals (
   refine hK2 _ _ _ _ ?_; clear hK2 K2; refine HC_ret ?_; refine HQ_post rfl rfl (.cons (res_tmp rfl) .nil) (fun w1 hs1 => ?_); refine ⟨?_, hs1.keep⟩
   simp_all [resVal]
   skip)
set_option maxRecDepth 10000 in
theorem O_2 {R : List (Nat × Obj)} {n : Int} {p : Pl} {ins : List Ty} {v : Vl} (ht : Ty.In R (.mk 2 n p ins)) (hv : v.In R) : PureR Tryz.prog 148 [Ty.val (.mk 2 n p ins), v.val].toArray (.bool (ofT 2 n ins.length v)) R := by
  have hnu := S_number hv
  have hit := S_items hv
  have hbi := S_bits hv
  have hpk := S_pick hv
  cases ht with
  | mk hk hn hlt hst hit0 =>
  cases hv with
  | @mk a b c d bits pb items pi pick ha hb hc hd hlb hsb hl hs hp hi =>
  have hw : WOk [a, b, c, d] := ⟨rfl, fun x hx => by simp at hx; rcases hx with rfl | rfl | rfl | rfl <;> assumption⟩
  have hw1 : WOk [1, 0, 0, 0] := ⟨rfl, fun x hx => by simp at hx; omega⟩
  have hl1 := less1 hw
  rw [ofT_mk _ n ins.length a b c d bits pb items pi pick _ rfl]; refine pureR_of_HC Tryz.func148 rfl rfl fun w => ?_; refine HC_seq fun K1 hK1 => HC_region ?_; refine HL_box (cs := #[_, _, _]) rfl rfl rfl rfl fun r1 => ?_; refine HL_box (cs := #[_, _, _, _, _, _, _]) rfl rfl rfl rfl fun r2 => ?_; refine HLm rfl ?_; refine HL_nil (hK1 _ _ _ _ ?_); clear hK1 K1; refine HC_seq fun K2 hK2 => ?_; refine HC_draw 10 (by kernel_rfl) (by kernel_rfl) ?_; refine HD_r rfl rfl rfl (R_loadA (vs := [_, _, _, _, _, _, _]) rfl (known_L (k := 0) rfl) rfl rfl rfl rfl) ?_; refine HD_callR rfl rfl rfl (enters_of Tryz.func143 (by kernel_rfl) rfl) hnu (fun q hq => Or.inr hq) ?_; refine HD_r rfl rfl rfl (R_move rfl) ?_
  refine HD_case 7 rfl (fun hb3 => ?_) (fun hb3 => ?_) <;> (try simp only [ZZ] at hb3) <;> first | (refine HD_callP rfl rfl rfl (enters_of Tryz.func150 (by kernel_rfl) rfl) (P_word_Of ..) ?_) | (refine HD_skip rfl rfl rfl ?_)
  all_goals first
    | (refine HD_r rfl rfl rfl (R_fieldAddr rfl rfl (by first | (simp only [Nat.zero_add, Nat.reduceAdd, Nat.reduceMul, Nat.zero_mul, Nat.mul_one, Nat.add_zero]; exact rfl) | exact rfl)) ?_)
    | (refine HD_skip rfl rfl rfl ?_)
  all_goals first
    | (refine HD_r rfl rfl rfl (R_loadA (vs := [_, _, _, _]) rfl (known_L (k := 0) rfl) rfl rfl rfl rfl) ?_)
    | (refine HD_skip rfl rfl rfl ?_)
  all_goals first
    | (refine HD_callP rfl rfl rfl (enters_of Tryz.func149 (by kernel_rfl) rfl) (P_word_Less hw1 hw) ?_)
    | (refine HD_skip rfl rfl rfl ?_)
  all_goals first
    | (refine HD_r rfl rfl rfl (R_pure rfl rfl rfl) ?_)
    | (refine HD_skip rfl rfl rfl ?_)
  all_goals first
    | (refine HD_r rfl rfl rfl (R_pickT rfl rfl) ?_)
    | (refine HD_r rfl rfl rfl (R_pickF rfl rfl) ?_)
  all_goals refine HD_r rfl rfl rfl (R_assign rfl) ?_
  all_goals refine HD_end ?_
  all_goals refine HL_nil ?_
  all_goals (
   refine hK2 _ _ _ _ ?_; clear hK2 K2; refine HC_ret ?_; refine HQ_post rfl rfl (.cons (res_tmp rfl) .nil) (fun w1 hs1 => ?_); refine ⟨?_, hs1.keep⟩
   simp_all [resVal]
   skip)
set_option maxRecDepth 10000 in
theorem O_3 {R : List (Nat × Obj)} {n : Int} {p : Pl} {ins : List Ty} {v : Vl} (ht : Ty.In R (.mk 3 n p ins)) (hv : v.In R) : PureR Tryz.prog 155 [Ty.val (.mk 3 n p ins), v.val].toArray (.bool (ofT 3 n ins.length v)) R := by
  have hnu := S_number hv
  have hit := S_items hv
  have hbi := S_bits hv
  have hpk := S_pick hv
  cases ht with
  | mk hk hn hlt hst hit0 =>
  cases hv with
  | @mk a b c d bits pb items pi pick ha hb hc hd hlb hsb hl hs hp hi =>
  have hw : WOk [a, b, c, d] := ⟨rfl, fun x hx => by simp at hx; rcases hx with rfl | rfl | rfl | rfl <;> assumption⟩
  have hw1 : WOk [1, 0, 0, 0] := ⟨rfl, fun x hx => by simp at hx; omega⟩
  have hl1 := less1 hw
  rw [ofT_mk _ n ins.length a b c d bits pb items pi pick _ rfl]; refine pureR_of_HC Tryz.func155 rfl rfl fun w => ?_; refine HC_seq fun K1 hK1 => HC_region ?_; refine HL_box (cs := #[_, _, _]) rfl rfl rfl rfl fun r1 => ?_; refine HL_box (cs := #[_, _, _, _, _, _, _]) rfl rfl rfl rfl fun r2 => ?_; refine HLm rfl ?_; refine HL_nil (hK1 _ _ _ _ ?_); clear hK1 K1; refine HC_seq fun K2 hK2 => HC_region ?_; refine HL_r rfl rfl rfl rfl (R_loadA (vs := [_, _, _, _, _, _, _]) rfl (known_L (k := 0) rfl) rfl rfl rfl rfl) ?_; refine HL_callR rfl rfl rfl (enters_of Tryz.func156 (by kernel_rfl) rfl) hit (fun q hq => Or.inr hq) ?_; refine HLm rfl ?_
  refine HL_case 7 rfl (fun hb3 => ?_) (fun hb3 => ?_) <;> (try simp only [ZZ] at hb3) <;> first | (refine HL_r rfl rfl rfl rfl (R_fieldAddr rfl rfl (by first | (simp only [Nat.zero_add, Nat.reduceAdd, Nat.reduceMul, Nat.zero_mul, Nat.mul_one, Nat.add_zero]; exact rfl) | exact rfl)) ?_) | (refine HL_skip rfl rfl rfl ?_)
  all_goals first
    | (refine HL_r rfl rfl rfl rfl (R_load rfl (known_L (k := 0) rfl) rfl rfl) ?_)
    | (refine HL_skip rfl rfl rfl ?_)
  all_goals first
    | (refine HL_r rfl rfl rfl rfl (R_lenPl rfl hs rfl) ?_)
    | (refine HL_skip rfl rfl rfl ?_)
  all_goals first
    | (refine HL_r rfl rfl rfl rfl (R_fieldAddr rfl rfl (by first | (simp only [Nat.zero_add, Nat.reduceAdd, Nat.reduceMul, Nat.zero_mul, Nat.mul_one, Nat.add_zero]; exact rfl) | exact rfl)) ?_)
    | (refine HL_skip rfl rfl rfl ?_)
  all_goals first
    | (refine HL_r rfl rfl rfl rfl (R_load rfl (known_L (k := 1) rfl) rfl rfl) ?_)
    | (refine HL_skip rfl rfl rfl ?_)
  all_goals first
    | (refine HLp rfl ?_)
    | (refine HL_skip rfl rfl rfl ?_)
  all_goals first
    | (refine HL_r rfl rfl rfl rfl (R_pickT rfl rfl) ?_)
    | (refine HL_r rfl rfl rfl rfl (R_pickF rfl rfl) ?_)
  all_goals refine HLm rfl ?_
  all_goals refine HL_nil ?_
  all_goals (
   refine hK2 _ _ _ _ ?_; clear hK2 K2; refine HC_ret ?_; refine HQ_post rfl rfl (.cons (res_tmp rfl) .nil) (fun w1 hs1 => ?_); refine ⟨?_, hs1.keep⟩
   simp_all [resVal]
   all_goals first | done | rfl | omega | (rw [Bool.eq_iff_iff]; simp only [Bool.and_eq_true, Bool.or_eq_true, decide_eq_true_eq, beq_iff_eq]; omega) | (simp only [decide_eq_true_eq, decide_eq_false_iff_not]; omega)
   skip)
set_option maxRecDepth 10000 in
theorem O_4 {R : List (Nat × Obj)} {n : Int} {p : Pl} {ins : List Ty} {v : Vl} (ht : Ty.In R (.mk 4 n p ins)) (hv : v.In R) : PureR Tryz.prog 160 [Ty.val (.mk 4 n p ins), v.val].toArray (.bool (ofT 4 n ins.length v)) R := by
  have hnu := S_number hv
  have hit := S_items hv
  have hbi := S_bits hv
  have hpk := S_pick hv
  cases ht with
  | mk hk hn hlt hst hit0 =>
  cases hv with
  | @mk a b c d bits pb items pi pick ha hb hc hd hlb hsb hl hs hp hi =>
  have hw : WOk [a, b, c, d] := ⟨rfl, fun x hx => by simp at hx; rcases hx with rfl | rfl | rfl | rfl <;> assumption⟩
  have hw1 : WOk [1, 0, 0, 0] := ⟨rfl, fun x hx => by simp at hx; omega⟩
  have hl1 := less1 hw
  rw [ofT_mk _ n ins.length a b c d bits pb items pi pick _ rfl]; refine pureR_of_HC Tryz.func160 rfl rfl fun w => ?_; refine HC_seq fun K1 hK1 => HC_region ?_; refine HL_box (cs := #[_, _, _]) rfl rfl rfl rfl fun r1 => ?_; refine HL_box (cs := #[_, _, _, _, _, _, _]) rfl rfl rfl rfl fun r2 => ?_; refine HLm rfl ?_; refine HL_nil (hK1 _ _ _ _ ?_); clear hK1 K1; refine HC_seq fun K2 hK2 => HC_region ?_; refine HL_r rfl rfl rfl rfl (R_loadA (vs := [_, _, _, _, _, _, _]) rfl (known_L (k := 0) rfl) rfl rfl rfl rfl) ?_; refine HL_callR rfl rfl rfl (enters_of Tryz.func156 (by kernel_rfl) rfl) hit (fun q hq => Or.inr hq) ?_; refine HLm rfl ?_; refine HL_nil (hK2 _ _ _ _ ?_); clear hK2 K2; refine HC_ret ?_; refine HQ_post rfl rfl (.cons (res_tmp rfl) .nil) (fun w1 hs1 => ?_); refine ⟨?_, hs1.keep⟩
  simp_all [resVal]
set_option maxRecDepth 10000 in
theorem O_5 {R : List (Nat × Obj)} {n : Int} {p : Pl} {ins : List Ty} {v : Vl} (ht : Ty.In R (.mk 5 n p ins)) (hv : v.In R) : PureR Tryz.prog 162 [Ty.val (.mk 5 n p ins), v.val].toArray (.bool (ofT 5 n ins.length v)) R := by
  have hnu := S_number hv
  have hit := S_items hv
  have hbi := S_bits hv
  have hpk := S_pick hv
  cases ht with
  | mk hk hn hlt hst hit0 =>
  cases hv with
  | @mk a b c d bits pb items pi pick ha hb hc hd hlb hsb hl hs hp hi =>
  have hw : WOk [a, b, c, d] := ⟨rfl, fun x hx => by simp at hx; rcases hx with rfl | rfl | rfl | rfl <;> assumption⟩
  have hw1 : WOk [1, 0, 0, 0] := ⟨rfl, fun x hx => by simp at hx; omega⟩
  have hl1 := less1 hw
  rw [ofT_mk _ n ins.length a b c d bits pb items pi pick _ rfl]; refine pureR_of_HC Tryz.func162 rfl rfl fun w => ?_; refine HC_seq fun K1 hK1 => HC_region ?_; refine HL_box (cs := #[_, _, _]) rfl rfl rfl rfl fun r1 => ?_; refine HL_box (cs := #[_, _, _, _, _, _, _]) rfl rfl rfl rfl fun r2 => ?_; refine HLm rfl ?_; refine HL_nil (hK1 _ _ _ _ ?_); clear hK1 K1; refine HC_seq fun K2 hK2 => HC_region ?_; refine HL_r rfl rfl rfl rfl (R_loadA (vs := [_, _, _, _, _, _, _]) rfl (known_L (k := 0) rfl) rfl rfl rfl rfl) ?_; refine HL_callR rfl rfl rfl (enters_of Tryz.func163 (by kernel_rfl) rfl) hbi (fun q hq => Or.inr hq) ?_; refine HLm rfl ?_
  refine HL_case 7 rfl (fun hb3 => ?_) (fun hb3 => ?_) <;> (try simp only [ZZ] at hb3) <;> first | (refine HL_r rfl rfl rfl rfl (R_fieldAddr rfl rfl (by first | (simp only [Nat.zero_add, Nat.reduceAdd, Nat.reduceMul, Nat.zero_mul, Nat.mul_one, Nat.add_zero]; exact rfl) | exact rfl)) ?_) | (refine HL_skip rfl rfl rfl ?_)
  all_goals first
    | (refine HL_r rfl rfl rfl rfl (R_load rfl (known_L (k := 0) rfl) rfl rfl) ?_)
    | (refine HL_skip rfl rfl rfl ?_)
  all_goals first
    | (refine HL_r rfl rfl rfl rfl (R_lenPl rfl hsb rfl) ?_)
    | (refine HL_skip rfl rfl rfl ?_)
  all_goals first
    | (refine HL_r rfl rfl rfl rfl (R_fieldAddr rfl rfl (by first | (simp only [Nat.zero_add, Nat.reduceAdd, Nat.reduceMul, Nat.zero_mul, Nat.mul_one, Nat.add_zero]; exact rfl) | exact rfl)) ?_)
    | (refine HL_skip rfl rfl rfl ?_)
  all_goals first
    | (refine HL_r rfl rfl rfl rfl (R_load rfl (known_L (k := 1) rfl) rfl rfl) ?_)
    | (refine HL_skip rfl rfl rfl ?_)
  all_goals first
    | (refine HLp rfl ?_)
    | (refine HL_skip rfl rfl rfl ?_)
  all_goals first
    | (refine HL_r rfl rfl rfl rfl (R_pickT rfl rfl) ?_)
    | (refine HL_r rfl rfl rfl rfl (R_pickF rfl rfl) ?_)
  all_goals refine HLm rfl ?_
  all_goals refine HL_nil ?_
  all_goals (
   refine hK2 _ _ _ _ ?_; clear hK2 K2; refine HC_ret ?_; refine HQ_post rfl rfl (.cons (res_tmp rfl) .nil) (fun w1 hs1 => ?_); refine ⟨?_, hs1.keep⟩
   simp_all [resVal]
   all_goals first | done | rfl | omega | (rw [Bool.eq_iff_iff]; simp only [Bool.and_eq_true, Bool.or_eq_true, decide_eq_true_eq, beq_iff_eq]; omega) | (simp only [decide_eq_true_eq, decide_eq_false_iff_not]; omega)
   skip)
set_option maxRecDepth 10000 in
theorem O_6 {R : List (Nat × Obj)} {n : Int} {p : Pl} {ins : List Ty} {v : Vl} (ht : Ty.In R (.mk 6 n p ins)) (hv : v.In R) : PureR Tryz.prog 166 [Ty.val (.mk 6 n p ins), v.val].toArray (.bool (ofT 6 n ins.length v)) R := by
  have hnu := S_number hv
  have hit := S_items hv
  have hbi := S_bits hv
  have hpk := S_pick hv
  cases ht with
  | mk hk hn hlt hst hit0 =>
  cases hv with
  | @mk a b c d bits pb items pi pick ha hb hc hd hlb hsb hl hs hp hi =>
  have hw : WOk [a, b, c, d] := ⟨rfl, fun x hx => by simp at hx; rcases hx with rfl | rfl | rfl | rfl <;> assumption⟩
  have hw1 : WOk [1, 0, 0, 0] := ⟨rfl, fun x hx => by simp at hx; omega⟩
  have hl1 := less1 hw
  rw [ofT_mk _ n ins.length a b c d bits pb items pi pick _ rfl]; refine pureR_of_HC Tryz.func166 rfl rfl fun w => ?_; refine HC_seq fun K1 hK1 => HC_region ?_; refine HL_box (cs := #[_, _, _]) rfl rfl rfl rfl fun r1 => ?_; refine HL_box (cs := #[_, _, _, _, _, _, _]) rfl rfl rfl rfl fun r2 => ?_; refine HLm rfl ?_; refine HL_nil (hK1 _ _ _ _ ?_); clear hK1 K1; refine HC_seq fun K2 hK2 => HC_region ?_; refine HL_r rfl rfl rfl rfl (R_loadA (vs := [_, _, _, _, _, _, _]) rfl (known_L (k := 0) rfl) rfl rfl rfl rfl) ?_; refine HL_callR rfl rfl rfl (enters_of Tryz.func163 (by kernel_rfl) rfl) hbi (fun q hq => Or.inr hq) ?_; refine HLm rfl ?_; refine HL_nil (hK2 _ _ _ _ ?_); clear hK2 K2; refine HC_ret ?_; refine HQ_post rfl rfl (.cons (res_tmp rfl) .nil) (fun w1 hs1 => ?_); refine ⟨?_, hs1.keep⟩
  simp_all [resVal]
set_option maxRecDepth 10000 in
theorem O_7 {R : List (Nat × Obj)} {n : Int} {p : Pl} {ins : List Ty} {v : Vl} (ht : Ty.In R (.mk 7 n p ins)) (hv : v.In R) : PureR Tryz.prog 168 [Ty.val (.mk 7 n p ins), v.val].toArray (.bool (ofT 7 n ins.length v)) R := by
  have hnu := S_number hv
  have hit := S_items hv
  have hbi := S_bits hv
  have hpk := S_pick hv
  cases ht with
  | mk hk hn hlt hst hit0 =>
  cases hv with
  | @mk a b c d bits pb items pi pick ha hb hc hd hlb hsb hl hs hp hi =>
  have hw : WOk [a, b, c, d] := ⟨rfl, fun x hx => by simp at hx; rcases hx with rfl | rfl | rfl | rfl <;> assumption⟩
  have hw1 : WOk [1, 0, 0, 0] := ⟨rfl, fun x hx => by simp at hx; omega⟩
  have hl1 := less1 hw
  rw [ofT_mk _ n ins.length a b c d bits pb items pi pick _ rfl]; refine pureR_of_HC Tryz.func168 rfl rfl fun w => ?_; refine HC_seq fun K1 hK1 => HC_region ?_; refine HL_box (cs := #[_, _, _]) rfl rfl rfl rfl fun r1 => ?_; refine HL_box (cs := #[_, _, _, _, _, _, _]) rfl rfl rfl rfl fun r2 => ?_; refine HLm rfl ?_; refine HL_nil (hK1 _ _ _ _ ?_); clear hK1 K1; refine HC_seq fun K2 hK2 => HC_region ?_; refine HL_r rfl rfl rfl rfl (R_loadA (vs := [_, _, _, _, _, _, _]) rfl (known_L (k := 0) rfl) rfl rfl rfl rfl) ?_; refine HL_callR rfl rfl rfl (enters_of Tryz.func156 (by kernel_rfl) rfl) hit (fun q hq => Or.inr hq) ?_; refine HLm rfl ?_
  refine HL_case 7 rfl (fun hb3 => ?_) (fun hb3 => ?_) <;> (try simp only [ZZ] at hb3) <;> first | (refine HL_r rfl rfl rfl rfl (R_fieldAddr rfl rfl (by first | (simp only [Nat.zero_add, Nat.reduceAdd, Nat.reduceMul, Nat.zero_mul, Nat.mul_one, Nat.add_zero]; exact rfl) | exact rfl)) ?_) | (refine HL_skip rfl rfl rfl ?_)
  all_goals first
    | (refine HL_r rfl rfl rfl rfl (R_load rfl (known_L (k := 0) rfl) rfl rfl) ?_)
    | (refine HL_skip rfl rfl rfl ?_)
  all_goals first
    | (refine HL_r rfl rfl rfl rfl (R_lenPl rfl hs rfl) ?_)
    | (refine HL_skip rfl rfl rfl ?_)
  all_goals first
    | (refine HL_r rfl rfl rfl rfl (R_fieldAddr rfl rfl (by first | (simp only [Nat.zero_add, Nat.reduceAdd, Nat.reduceMul, Nat.zero_mul, Nat.mul_one, Nat.add_zero]; exact rfl) | exact rfl)) ?_)
    | (refine HL_skip rfl rfl rfl ?_)
  all_goals first
    | (refine HL_r rfl rfl rfl rfl (R_load rfl (known_L (k := 1) rfl) rfl rfl) ?_)
    | (refine HL_skip rfl rfl rfl ?_)
  all_goals first
    | (refine HL_r rfl rfl rfl rfl (R_lenPl rfl hst rfl) ?_)
    | (refine HL_skip rfl rfl rfl ?_)
  all_goals first
    | (refine HLp rfl ?_)
    | (refine HL_skip rfl rfl rfl ?_)
  all_goals first
    | (refine HL_r rfl rfl rfl rfl (R_pickT rfl rfl) ?_)
    | (refine HL_r rfl rfl rfl rfl (R_pickF rfl rfl) ?_)
  all_goals refine HLm rfl ?_
  all_goals refine HL_nil ?_
  all_goals (
   refine hK2 _ _ _ _ ?_; clear hK2 K2; refine HC_ret ?_; refine HQ_post rfl rfl (.cons (res_tmp rfl) .nil) (fun w1 hs1 => ?_); refine ⟨?_, hs1.keep⟩
   simp_all [resVal]
   all_goals first | done | rfl | omega | (rw [Bool.eq_iff_iff]; simp only [Bool.and_eq_true, Bool.or_eq_true, decide_eq_true_eq, beq_iff_eq]; omega) | (simp only [decide_eq_true_eq, decide_eq_false_iff_not]; omega)
   skip)
set_option maxRecDepth 10000 in
theorem O_8 {R : List (Nat × Obj)} {n : Int} {p : Pl} {ins : List Ty} {v : Vl} (ht : Ty.In R (.mk 8 n p ins)) (hv : v.In R) : PureR Tryz.prog 171 [Ty.val (.mk 8 n p ins), v.val].toArray (.bool (ofT 8 n ins.length v)) R := by
  have hnu := S_number hv
  have hit := S_items hv
  have hbi := S_bits hv
  have hpk := S_pick hv
  cases ht with
  | mk hk hn hlt hst hit0 =>
  cases hv with
  | @mk a b c d bits pb items pi pick ha hb hc hd hlb hsb hl hs hp hi =>
  have hw : WOk [a, b, c, d] := ⟨rfl, fun x hx => by simp at hx; rcases hx with rfl | rfl | rfl | rfl <;> assumption⟩
  have hw1 : WOk [1, 0, 0, 0] := ⟨rfl, fun x hx => by simp at hx; omega⟩
  have hl1 := less1 hw
  rw [ofT_mk _ n ins.length a b c d bits pb items pi pick _ rfl]; refine pureR_of_HC Tryz.func171 rfl rfl fun w => ?_; refine HC_seq fun K1 hK1 => HC_region ?_; refine HL_box (cs := #[_, _, _]) rfl rfl rfl rfl fun r1 => ?_; refine HL_box (cs := #[_, _, _, _, _, _, _]) rfl rfl rfl rfl fun r2 => ?_; refine HLm rfl ?_; refine HL_nil (hK1 _ _ _ _ ?_); clear hK1 K1; refine HC_seq fun K2 hK2 => HC_region ?_; refine HL_r rfl rfl rfl rfl (R_loadA (vs := [_, _, _, _, _, _, _]) rfl (known_L (k := 0) rfl) rfl rfl rfl rfl) ?_; refine HL_callR rfl rfl rfl (enters_of Tryz.func172 (by kernel_rfl) rfl) hpk (fun q hq => Or.inr hq) ?_; refine HLm rfl ?_
  refine HL_case 7 rfl (fun hb3 => ?_) (fun hb3 => ?_) <;> (try simp only [ZZ] at hb3) <;> first | (refine HL_r rfl rfl rfl rfl (R_fieldAddr rfl rfl (by first | (simp only [Nat.zero_add, Nat.reduceAdd, Nat.reduceMul, Nat.zero_mul, Nat.mul_one, Nat.add_zero]; exact rfl) | exact rfl)) ?_) | (refine HL_skip rfl rfl rfl ?_)
  all_goals first
    | (refine HL_r rfl rfl rfl rfl (R_load rfl (known_L (k := 0) rfl) rfl rfl) ?_)
    | (refine HL_skip rfl rfl rfl ?_)
  all_goals first
    | (refine HL_r rfl rfl rfl rfl (R_lenPl rfl hs rfl) ?_)
    | (refine HL_skip rfl rfl rfl ?_)
  all_goals first
    | (refine HLp rfl ?_)
    | (refine HL_skip rfl rfl rfl ?_)
  all_goals first
    | (refine HL_r rfl rfl rfl rfl (R_pickT rfl rfl) ?_)
    | (refine HL_r rfl rfl rfl rfl (R_pickF rfl rfl) ?_)
  all_goals refine HLm rfl ?_
  all_goals first
    | (refine HL_skip rfl rfl rfl ?_)
    | (refine HL_case 13 rfl (fun hb7 => ?_) (fun hb7 => ?_) <;> (try simp only [ZZ] at hb7) <;> first | (refine HL_r rfl rfl rfl rfl (R_fieldAddr rfl rfl (by first | (simp only [Nat.zero_add, Nat.reduceAdd, Nat.reduceMul, Nat.zero_mul, Nat.mul_one, Nat.add_zero]; exact rfl) | exact rfl)) ?_) | (refine HL_skip rfl rfl rfl ?_))
  all_goals first
    | (refine HL_r rfl rfl rfl rfl (R_load rfl (known_L (k := 0) rfl) rfl rfl) ?_)
    | (refine HL_skip rfl rfl rfl ?_)
  all_goals first
    | (refine HLp rfl ?_)
    | (refine HL_skip rfl rfl rfl ?_)
  all_goals first
    | (refine HL_r rfl rfl rfl rfl (R_pickT rfl rfl) ?_)
    | (refine HL_r rfl rfl rfl rfl (R_pickF rfl rfl) ?_)
  all_goals refine HLm rfl ?_
  all_goals first
    | (refine HL_skip rfl rfl rfl ?_)
    | (refine HL_case 18 rfl (fun hb10 => ?_) (fun hb10 => ?_) <;> (try simp only [ZZ] at hb10) <;> first | (refine HL_r rfl rfl rfl rfl (R_fieldAddr rfl rfl (by first | (simp only [Nat.zero_add, Nat.reduceAdd, Nat.reduceMul, Nat.zero_mul, Nat.mul_one, Nat.add_zero]; exact rfl) | exact rfl)) ?_) | (refine HL_skip rfl rfl rfl ?_))
  all_goals first
    | (refine HL_r rfl rfl rfl rfl (R_load rfl (known_L (k := 0) rfl) rfl rfl) ?_)
    | (refine HL_skip rfl rfl rfl ?_)
  all_goals first
    | (refine HL_r rfl rfl rfl rfl (R_fieldAddr rfl rfl (by first | (simp only [Nat.zero_add, Nat.reduceAdd, Nat.reduceMul, Nat.zero_mul, Nat.mul_one, Nat.add_zero]; exact rfl) | exact rfl)) ?_)
    | (refine HL_skip rfl rfl rfl ?_)
  all_goals first
    | (refine HL_r rfl rfl rfl rfl (R_load rfl (known_L (k := 1) rfl) rfl rfl) ?_)
    | (refine HL_skip rfl rfl rfl ?_)
  all_goals first
    | (refine HL_r rfl rfl rfl rfl (R_lenPl rfl hst rfl) ?_)
    | (refine HL_skip rfl rfl rfl ?_)
  all_goals first
    | (refine HLp rfl ?_)
    | (refine HL_skip rfl rfl rfl ?_)
  all_goals first
    | (refine HL_r rfl rfl rfl rfl (R_pickT rfl rfl) ?_)
    | (refine HL_r rfl rfl rfl rfl (R_pickF rfl rfl) ?_)
  all_goals refine HLm rfl ?_
  all_goals refine HL_nil ?_
  all_goals (
   refine hK2 _ _ _ _ ?_; clear hK2 K2; refine HC_ret ?_; refine HQ_post rfl rfl (.cons (res_tmp rfl) .nil) (fun w1 hs1 => ?_); refine ⟨?_, hs1.keep⟩
   simp_all [resVal]
   all_goals first | done | rfl | omega | (rw [Bool.eq_iff_iff]; simp only [Bool.and_eq_true, Bool.or_eq_true, decide_eq_true_eq, beq_iff_eq]; omega) | (simp only [decide_eq_true_eq, decide_eq_false_iff_not]; omega)
   skip)
theorem O_all {R : List (Nat × Obj)} {k n : Int} {p : Pl} {ins : List Ty} {v : Vl} (ht : Ty.In R (.mk k n p ins)) (hv : v.In R) (h : isK k = true) : Enters Tryz.prog (ofF k) ∧ PureR Tryz.prog (ofF k) [Ty.val (.mk k n p ins), v.val].toArray (.bool (ofT k n ins.length v)) R := by
  have := isK_iff.1 h
  have : k = 1 ∨ k = 2 ∨ k = 3 ∨ k = 4 ∨ k = 5 ∨ k = 6 ∨ k = 7 ∨ k = 8 := by omega
  rcases this with rfl | rfl | rfl | rfl | rfl | rfl | rfl | rfl
  · exact ⟨enters_of Tryz.func142 (by kernel_rfl) rfl, O_1 ht hv⟩
  · exact ⟨enters_of Tryz.func148 (by kernel_rfl) rfl, O_2 ht hv⟩
  · exact ⟨enters_of Tryz.func155 (by kernel_rfl) rfl, O_3 ht hv⟩
  · exact ⟨enters_of Tryz.func160 (by kernel_rfl) rfl, O_4 ht hv⟩
  · exact ⟨enters_of Tryz.func162 (by kernel_rfl) rfl, O_5 ht hv⟩
  · exact ⟨enters_of Tryz.func166 (by kernel_rfl) rfl, O_6 ht hv⟩
  · exact ⟨enters_of Tryz.func168 (by kernel_rfl) rfl, O_7 ht hv⟩
  · exact ⟨enters_of Tryz.func171 (by kernel_rfl) rfl, O_8 ht hv⟩
end Go.Proofs.YtlcbfphioeppaaaGreatDoor
namespace Go.Proofs.YtlcbfphioeppaaaGreatDoor
set_option linter.all false
open Go.SL Go.RowKit Go.Shelf
def tBlk (r : Nat) (t : Ty) : Nat × Obj := (r, .cells t.cells.toArray 24 (0, 0))
instance : Inhabited Vl := ⟨zVl⟩
def itm (l : List Vl) (i : Nat) : Vl := l.getD i default
theorem itm_get {l : List Vl} {i : Nat} (h : i < l.length) : l[i]? = some (itm l i) ∧ itm l i ∈ l := by
  unfold itm
  rw [List.getD_eq_getElem?_getD, List.getElem?_eq_getElem h]; exact ⟨rfl, List.getElem_mem h⟩
set_option maxRecDepth 10000 in
theorem E_within (t : Ty) (v : Vl) : PureE (α := Nat × Nat) Tryz.prog 92 [t.val, v.val].toArray (fun p => .func (.func 173) #[] #[.pointer (some ⟨p.2, 0, none⟩), .pointer (some ⟨p.1, 0, none⟩)])
    (fun p => [vBlk p.2 v, tBlk p.1 t]) := by
  obtain ⟨k, n, p, ins⟩ := t
  obtain ⟨a, b, c, d, bits, pb, items, pi, pick⟩ := v
  refine pureE_of_HC Tryz.func92 rfl rfl fun w => ?_; refine HC_seq fun K1 hK1 => HC_region ?_; refine HL_box (cs := #[_, _, _]) rfl rfl rfl rfl fun r1 => ?_; refine HL_box (cs := #[_, _, _, _, _, _, _]) rfl rfl rfl rfl fun r2 => ?_; refine HLm rfl ?_; refine HL_nil (hK1 _ _ _ _ ?_); refine HC_seq fun K2 hK2 => HC_region ?_; refine HL_r rfl rfl rfl rfl (R_makeFunc rfl rfl) ?_; refine HLm rfl ?_; refine HL_nil (hK2 _ _ _ _ ?_); refine HC_ret ?_; refine HQ_post rfl rfl (.cons (res_tmp rfl) .nil) (fun w1 hs1 => ?_); exact ⟨(r1, r2), rfl, hs1⟩
def wVals (k pick : Int) (ins : List Ty) (items : List Vl) (i : Nat) : List Value := [(inTy k pick ins i).val, (itm items i).val]
set_option maxRecDepth 10000 in
theorem I_within {R : List (Nat × Obj)} {k n : Int} {p : Pl} {ins : List Ty} {a b c d : Nat} {bits : List Bool} {pb : Pl} {items : List Vl} {pi : Pl} {pick : Int} (hl : items.length ≤ 9223372036854775807) (hlt : ins.length ≤ 9223372036854775807) (hs : Seg R items.length (vlsC items) pi) (hst : Seg R ins.length (tysC ins) p)
    (hx : ∀ i, i < items.length → inX k pick i < ins.length) (hp8 : k = 8 → 0 ≤ pick) (rt rv : Nat) :
    Iter Tryz.prog 173 [.pointer (some ⟨rv, 0, none⟩), .pointer (some ⟨rt, 0, none⟩)] (vBlk rv (.mk a b c d bits pb items pi pick) :: tBlk rt (.mk k n p ins) :: R) 0 (nxN (wVals k pick ins items) items.length) (finN items.length) := by
  have hs := hs.mono (R' := vBlk rv (.mk a b c d bits pb items pi pick) :: tBlk rt (.mk k n p ins) :: R) fun q hq => List.mem_cons_of_mem _ (List.mem_cons_of_mem _ hq)
  have hst := hst.mono (R' := vBlk rv (.mk a b c d bits pb items pi pick) :: tBlk rt (.mk k n p ins) :: R) fun q hq => List.mem_cons_of_mem _ (List.mem_cons_of_mem _ hq)
  refine iter_of_HC Tryz.func173 rfl rfl fun q xids w2 XI XF hY => ?_; refine HC_seq fun K1 hK1 => HC_region ?_
  refine HL_r rfl rfl rfl rfl (R_fieldAddr rfl rfl (by first | (simp only [Nat.zero_add, Nat.reduceAdd, Nat.reduceMul, Nat.zero_mul, Nat.mul_one, Nat.add_zero]; exact rfl) | exact rfl)) ?_; refine HL_r rfl rfl rfl rfl (R_load rfl (known_R (k := 0) rfl) rfl rfl) ?_; refine HL_r rfl rfl rfl rfl (R_lenPl rfl hs rfl) ?_; refine HLm rfl ?_; refine HL_nil (hK1 _ _ _ _ ?_); refine HC_block (HC_loop (σ := Nat) (fun i => i ≤ items.length) (fun i => [(0, .func (.yield q) #[] #[]), (1, .pointer (some ⟨rv, 0, none⟩)), (2, .pointer (some ⟨rt, 0, none⟩)), (8, plV items.length pi), (9, .int .i64 (items.length : Int)), (10, .int .i64 (i : Int))]) (fun _ => []) (fun i => XI i) (fun i => items.length - i) 0 (Nat.zero_le _) (.cons rfl (.cons rfl (.cons rfl (.cons rfl (.cons rfl (.cons rfl .nil)))))) (List.nil_sublist _) (fun _ _ h => h) ?_); intro i hi; refine HC_seq fun K2 hK2 => HC_region ?_; refine HLp rfl ?_; refine HL_nil (hK2 _ _ _ _ ?_); refine HC_seq fun K3 hK3 => ?_; refine HC_cond rfl (fun h4 => ?_) (fun h4 => ?_)
  · try exact Bool.noConfusion h4
    try simp only [ZZ] at h4
    refine HC_skip (hK3 _ _ _ _ ?_); refine HC_seq fun K5 hK5 => HC_block ?_; refine HC_seq fun K6 hK6 => ?_
    have hil : i < items.length := by omega
    have hix := itm_get hil
    have hty := inTy_get (hx i hil)
    refine HC_region (HLm rfl (HL_r rfl rfl rfl rfl (R_indexPl (j := i) rfl hs rfl rfl rfl rfl (by omega)) ?_)); refine HL_r rfl rfl rfl rfl (R_loadVl (fun q hq => Or.inr hq) rfl hs hix.1 rfl rfl) ?_; refine HL_alloc (cs := #[_, _, _, _, _, _, _]) rfl rfl rfl rfl fun r1 => ?_; refine HLm rfl (HL_storeArr (k := 0) (n := 7) (ys := (itm items i).cells) rfl rfl rfl rfl rfl (itm items i).len rfl (itm items i).one rfl ?_); refine HL_nil (hK6 _ _ _ _ ?_); refine HC_seq fun K7 hK7 => HC_region ?_; refine HLm rfl ?_; refine HL_nil (hK7 _ _ _ _ ?_); refine HC_seq fun K8 hK8 => ?_; refine HC_seq fun K9 hK9 => HC_region ?_
    refine HL_r rfl rfl rfl rfl (R_fieldAddr rfl rfl (by first | (simp only [Nat.zero_add, Nat.reduceAdd, Nat.reduceMul, Nat.zero_mul, Nat.mul_one, Nat.add_zero]; exact rfl) | exact rfl)) ?_; refine HL_r rfl rfl rfl rfl (R_load rfl (known_R (k := 1) rfl) rfl rfl) ?_; refine HL_nil (hK9 _ _ _ _ ?_); refine HC_block (HC_seq fun K10 hK10 => HC_region ?_); refine HLp rfl (HLm rfl ?_); refine HL_nil (hK10 _ _ _ _ ?_); refine HC_cond rfl (fun h11 => ?_) (fun h11 => ?_)
    · try exact Bool.noConfusion h11
      try simp only [ZZ] at h11
      refine HC_region (HLm rfl ?_); refine HLm rfl (HL_nil ?_); refine HQ_blockN (hK8 _ _ _ _ ?_); refine HC_seq fun K12 hK12 => ?_; refine HC_draw 7 (by kernel_rfl) (by kernel_rfl) ?_; refine HD_r rfl rfl rfl (R_move rfl) ?_
      refine HD_r rfl rfl rfl (R_fieldAddr rfl rfl (by first | (simp only [Nat.zero_add, Nat.reduceAdd, Nat.reduceMul, Nat.zero_mul, Nat.mul_one, Nat.add_zero]; exact rfl) | exact rfl)) ?_; refine HD_r rfl rfl rfl (R_load rfl (known_R (k := 1) rfl) rfl rfl) ?_; refine HD_r rfl rfl rfl (R_move rfl) ?_
      refine HD_r rfl rfl rfl (R_indexPl (j := inX k pick i) rfl hst rfl rfl rfl (by unfold inX; first | (rw [if_pos (by assumption)]) | (rw [if_neg (by assumption), if_pos (by assumption)]; have := hp8 (by assumption); omega) | (rw [if_neg (by assumption), if_neg (by assumption)]; rfl)) (hx i hil)) ?_; refine HD_r rfl rfl rfl (R_loadTy (fun q hq => Or.inr hq) rfl hst hty.1 rfl rfl) ?_; refine HD_r rfl rfl rfl (R_loadArr (xs := (itm items i).cells) (n := 7) rfl (known_L (k := 0) rfl) rfl rfl (itm items i).len) ?_; refine HD_end ?_; refine HL_yield (XT := XI (i + 1)) (XF := XF) rfl rfl rfl rfl (hY i (wVals k pick ins items i) (i + 1) ⟨hil, rfl, rfl⟩) ?_ ?_
      all_goals refine HLp rfl ?_
      all_goals refine HL_nil ?_
      all_goals (
       refine hK12 _ _ _ _ ?_; refine HC_cond rfl (fun h13 => ?_) (fun h13 => ?_)
       · try exact Bool.noConfusion h13
         all_goals try simp only [ZZ] at h13
         all_goals (
          refine HC_ret (HQ_blockR (HQ_thenR ?_)); refine HQ_thenR (HQ_blockR ?_); refine HQ_post rfl rfl .nil (fun w1 hs1 => ?_)
          obtain ⟨xs1, hx1⟩ := hs1.now
          exact ⟨⟨_, rfl⟩, hs1.keep, .inr ⟨_, hx1⟩⟩
          skip)
       · try exact Bool.noConfusion h13
         all_goals try simp only [ZZ] at h13
         all_goals (
          refine HC_skip (HQ_blockN (hK5 _ _ _ _ ?_)); refine HC_region (HLp rfl (HL_wrap_i64 (by omega) (by omega) ?_)); refine HLm rfl (HL_nil (HQ_then ?_)); exact HQ_again (i + 1) (by omega) (by omega) (.cons rfl (.cons rfl (.cons rfl (.cons rfl (.cons rfl (.cons rfl .nil)))))) (List.nil_sublist _) (fun _ _ h => h)
          skip)
       skip)
    · try exact Bool.noConfusion h11
      try simp only [ZZ] at h11
      refine HC_seq fun K14 hK14 => HC_region ?_; refine HLp rfl (HLm rfl ?_); refine HL_nil (hK14 _ _ _ _ ?_); refine HC_cond rfl (fun h15 => ?_) (fun h15 => ?_)
      · try exact Bool.noConfusion h15
        try simp only [ZZ] at h15
        refine HC_region ?_
        refine HL_r rfl rfl rfl rfl (R_fieldAddr rfl rfl (by first | (simp only [Nat.zero_add, Nat.reduceAdd, Nat.reduceMul, Nat.zero_mul, Nat.mul_one, Nat.add_zero]; exact rfl) | exact rfl)) ?_; refine HL_r rfl rfl rfl rfl (R_load rfl (known_R (k := 0) rfl) rfl rfl) ?_; refine HLm rfl (HL_nil ?_); refine HQ_blockN (hK8 _ _ _ _ ?_); refine HC_seq fun K16 hK16 => ?_; refine HC_draw 7 (by kernel_rfl) (by kernel_rfl) ?_; refine HD_r rfl rfl rfl (R_move rfl) ?_
        refine HD_r rfl rfl rfl (R_fieldAddr rfl rfl (by first | (simp only [Nat.zero_add, Nat.reduceAdd, Nat.reduceMul, Nat.zero_mul, Nat.mul_one, Nat.add_zero]; exact rfl) | exact rfl)) ?_; refine HD_r rfl rfl rfl (R_load rfl (known_R (k := 1) rfl) rfl rfl) ?_; refine HD_r rfl rfl rfl (R_move rfl) ?_
        refine HD_r rfl rfl rfl (R_indexPl (j := inX k pick i) rfl hst rfl rfl rfl (by unfold inX; first | (rw [if_pos (by assumption)]) | (rw [if_neg (by assumption), if_pos (by assumption)]; have := hp8 (by assumption); omega) | (rw [if_neg (by assumption), if_neg (by assumption)]; rfl)) (hx i hil)) ?_; refine HD_r rfl rfl rfl (R_loadTy (fun q hq => Or.inr hq) rfl hst hty.1 rfl rfl) ?_; refine HD_r rfl rfl rfl (R_loadArr (xs := (itm items i).cells) (n := 7) rfl (known_L (k := 0) rfl) rfl rfl (itm items i).len) ?_; refine HD_end ?_; refine HL_yield (XT := XI (i + 1)) (XF := XF) rfl rfl rfl rfl (hY i (wVals k pick ins items i) (i + 1) ⟨hil, rfl, rfl⟩) ?_ ?_
        all_goals refine HLp rfl ?_
        all_goals refine HL_nil ?_
        all_goals (
         refine hK16 _ _ _ _ ?_; refine HC_cond rfl (fun h17 => ?_) (fun h17 => ?_)
         · try exact Bool.noConfusion h17
           all_goals try simp only [ZZ] at h17
           all_goals (
            refine HC_ret (HQ_blockR (HQ_thenR ?_)); refine HQ_thenR (HQ_blockR ?_); refine HQ_post rfl rfl .nil (fun w1 hs1 => ?_)
            obtain ⟨xs1, hx1⟩ := hs1.now
            exact ⟨⟨_, rfl⟩, hs1.keep, .inr ⟨_, hx1⟩⟩
            skip)
         · try exact Bool.noConfusion h17
           all_goals try simp only [ZZ] at h17
           all_goals (
            refine HC_skip (HQ_blockN (hK5 _ _ _ _ ?_)); refine HC_region (HLp rfl (HL_wrap_i64 (by omega) (by omega) ?_)); refine HLm rfl (HL_nil (HQ_then ?_)); exact HQ_again (i + 1) (by omega) (by omega) (.cons rfl (.cons rfl (.cons rfl (.cons rfl (.cons rfl (.cons rfl .nil)))))) (List.nil_sublist _) (fun _ _ h => h)
            skip)
         skip)
      · try exact Bool.noConfusion h15
        try simp only [ZZ] at h15
        refine HC_skip (HQ_blockN (hK8 _ _ _ _ ?_)); refine HC_seq fun K18 hK18 => ?_; refine HC_draw 7 (by kernel_rfl) (by kernel_rfl) ?_; refine HD_r rfl rfl rfl (R_move rfl) ?_
        refine HD_r rfl rfl rfl (R_fieldAddr rfl rfl (by first | (simp only [Nat.zero_add, Nat.reduceAdd, Nat.reduceMul, Nat.zero_mul, Nat.mul_one, Nat.add_zero]; exact rfl) | exact rfl)) ?_; refine HD_r rfl rfl rfl (R_load rfl (known_R (k := 1) rfl) rfl rfl) ?_; refine HD_r rfl rfl rfl (R_move rfl) ?_
        refine HD_r rfl rfl rfl (R_indexPl (j := inX k pick i) rfl hst rfl rfl rfl (by unfold inX; first | (rw [if_pos (by assumption)]) | (rw [if_neg (by assumption), if_pos (by assumption)]; have := hp8 (by assumption); omega) | (rw [if_neg (by assumption), if_neg (by assumption)]; rfl)) (hx i hil)) ?_; refine HD_r rfl rfl rfl (R_loadTy (fun q hq => Or.inr hq) rfl hst hty.1 rfl rfl) ?_; refine HD_r rfl rfl rfl (R_loadArr (xs := (itm items i).cells) (n := 7) rfl (known_L (k := 0) rfl) rfl rfl (itm items i).len) ?_; refine HD_end ?_; refine HL_yield (XT := XI (i + 1)) (XF := XF) rfl rfl rfl rfl (hY i (wVals k pick ins items i) (i + 1) ⟨hil, rfl, rfl⟩) ?_ ?_
        all_goals refine HLp rfl ?_
        all_goals refine HL_nil ?_
        all_goals (
         refine hK18 _ _ _ _ ?_; refine HC_cond rfl (fun h19 => ?_) (fun h19 => ?_)
         · try exact Bool.noConfusion h19
           all_goals try simp only [ZZ] at h19
           all_goals (
            refine HC_ret (HQ_blockR (HQ_thenR ?_)); refine HQ_thenR (HQ_blockR ?_); refine HQ_post rfl rfl .nil (fun w1 hs1 => ?_)
            obtain ⟨xs1, hx1⟩ := hs1.now
            exact ⟨⟨_, rfl⟩, hs1.keep, .inr ⟨_, hx1⟩⟩
            skip)
         · try exact Bool.noConfusion h19
           all_goals try simp only [ZZ] at h19
           all_goals (
            refine HC_skip (HQ_blockN (hK5 _ _ _ _ ?_)); refine HC_region (HLp rfl (HL_wrap_i64 (by omega) (by omega) ?_)); refine HLm rfl (HL_nil (HQ_then ?_)); exact HQ_again (i + 1) (by omega) (by omega) (.cons rfl (.cons rfl (.cons rfl (.cons rfl (.cons rfl (.cons rfl .nil)))))) (List.nil_sublist _) (fun _ _ h => h)
            skip)
         skip)
  · try exact Bool.noConfusion h4
    try simp only [ZZ] at h4
    refine HC_exit (HQ_thenE ?_); refine HQ_thenE (HQ_blockE ?_); refine HQ_postN rfl rfl .nil (fun w1 hs1 => ?_)
    obtain ⟨xs1, hx1⟩ := hs1.now
    exact ⟨⟨_, rfl⟩, hs1.keep, .inl ⟨i, _, (by show i = items.length; omega), hx1⟩⟩
theorem fit_ok {a b c d : Nat} {bits : List Bool} {pb : Pl} {items : List Vl} {pi : Pl} {pick k n : Int} {p : Pl} {ins : List Ty} (h1 : ¬ ((k = 4 ∧ n < items.length) ∨ (k = 6 ∧ n < bits.length))) (h2 : ofT k n ins.length (.mk a b c d bits pb items pi pick) = true) : fitT (.mk a b c d bits pb items pi pick) (.mk k n p ins) = fitL items k pick ins 0 := by
  rw [fitT, if_neg h1, if_neg (by rw [h2]; simp)]
set_option maxRecDepth 10000 in
theorem S_fits {R : List (Nat × Obj)} {v : Vl} (hv : v.In R) : ∀ (t : Ty) (dp : Int), t.In R → chk t dp = 0 → PureR Tryz.prog 46 [t.val, v.val].toArray (.int .i64 (fitT v t)) R := by
  have hv0 := hv
  induction hv with
  | @mk a b c d bits pb items pi pick ha hb hc hd hlb hsb hl hs hp hi ih =>
  intro t dp ht hck
  have ht0 := ht
  cases ht with
  | @mk k n p ins hk hn hlt hst hit =>
  obtain ⟨hk8, ho, h6, hci⟩ := chk_mk hck
  have hkk := isK_iff.2 hk8
  have hO := O_all ht0 hv0 hkk
  refine pureR_of_HC Tryz.func46 rfl rfl fun w => ?_; refine HC_seq fun K1 hK1 => HC_region ?_; refine HL_box (cs := #[_, _, _]) rfl rfl rfl rfl fun r1 => ?_; refine HL_box (cs := #[_, _, _, _, _, _, _]) rfl rfl rfl rfl fun r2 => ?_; refine HL_alloc (cs := #[_]) rfl rfl rfl rfl fun r3 => ?_; refine HL_nil (hK1 _ _ _ _ ?_); refine HC_seq fun K2 hK2 => HC_block ?_; refine HC_seq fun K3 hK3 => ?_; refine HC_seq fun K4 hK4 => HC_region ?_
  refine HL_r rfl rfl rfl rfl (R_fieldAddr rfl rfl (by first | (simp only [Nat.zero_add, Nat.reduceAdd, Nat.reduceMul, Nat.zero_mul, Nat.mul_one, Nat.add_zero]; exact rfl) | exact rfl)) ?_; refine HL_r rfl rfl rfl rfl (R_load rfl (known_L (k := 2) rfl) rfl rfl) ?_; refine HLp rfl (HLm rfl ?_)
  refine HL_case 12 rfl (fun hb5 => ?_) (fun hb5 => ?_) <;> (try simp only [ZZ] at hb5) <;> first | (refine HL_r rfl rfl rfl rfl (R_fieldAddr rfl rfl (by first | (simp only [Nat.zero_add, Nat.reduceAdd, Nat.reduceMul, Nat.zero_mul, Nat.mul_one, Nat.add_zero]; exact rfl) | exact rfl)) ?_) | (refine HL_skip rfl rfl rfl ?_)
  all_goals first
    | (refine HL_r rfl rfl rfl rfl (R_load rfl (known_L (k := 1) rfl) rfl rfl) ?_)
    | (refine HL_skip rfl rfl rfl ?_)
  all_goals first
    | (refine HL_r rfl rfl rfl rfl (R_lenPl rfl hs rfl) ?_)
    | (refine HL_skip rfl rfl rfl ?_)
  all_goals first
    | (refine HL_r rfl rfl rfl rfl (R_fieldAddr rfl rfl (by first | (simp only [Nat.zero_add, Nat.reduceAdd, Nat.reduceMul, Nat.zero_mul, Nat.mul_one, Nat.add_zero]; exact rfl) | exact rfl)) ?_)
    | (refine HL_skip rfl rfl rfl ?_)
  all_goals first
    | (refine HL_r rfl rfl rfl rfl (R_load rfl (known_L (k := 2) rfl) rfl rfl) ?_)
    | (refine HL_skip rfl rfl rfl ?_)
  all_goals first
    | (refine HLp rfl ?_)
    | (refine HL_skip rfl rfl rfl ?_)
  all_goals first
    | (refine HL_r rfl rfl rfl rfl (R_pickT rfl rfl) ?_)
    | (refine HL_r rfl rfl rfl rfl (R_pickF rfl rfl) ?_)
  all_goals refine HLm rfl ?_
  all_goals refine HL_nil ?_
  all_goals (
   refine hK4 _ _ _ _ ?_; refine HC_cond rfl (fun h11 => ?_) (fun h11 => ?_)
   · try exact Bool.noConfusion h11
     all_goals try simp only [ZZ] at h11
     all_goals (
      refine HC_skip (hK3 _ _ _ _ ?_); refine HC_cond rfl (fun h12 => ?_) (fun h12 => ?_)
      · try exact Bool.noConfusion h12
        try simp only [ZZ] at h12
        refine HC_seq fun K13 hK13 => HC_region ?_
        refine HL_store (k := 0) rfl rfl rfl rfl rfl rfl rfl rfl (by first | (simp only [List.setIfInBounds_toArray, List.set_cons_zero, List.set_cons_succ]; exact rfl) | exact rfl) (by first | (simp only [List.set_cons_zero, List.set_cons_succ]; exact rfl) | exact rfl) ?_; refine HL_nil (hK13 _ _ _ _ ?_); refine HC_ret (HQ_blockR (HQ_thenR ?_))
        first
          | (refine HQ_mark (k := 0) rfl rfl ?_
             refine HQ_post rfl rfl (.cons (res_cell rfl (known_L (k := 1) rfl) rfl rfl) .nil) (fun w1 hs1 => ?_)
             first | exact ⟨by rw [hfo, ← he]; rfl, hs1.keep⟩ | exact ⟨by rw [hfo, hz]; rfl, hs1.keep⟩)
          | (refine HQ_post rfl rfl (.cons (res_cell rfl (known_L (k := 0) rfl) rfl rfl) .nil) (fun w1 hs1 => ?_)
             first | exact ⟨by rw [fitT, if_pos (by omega)]; rfl, hs1.keep⟩ | exact ⟨by rw [fitT, if_neg (by omega), if_pos (by assumption)]; rfl, hs1.keep⟩)
          | (refine HQ_post rfl rfl (.cons (res_cell rfl (known_L (k := 1) rfl) rfl rfl) .nil) (fun w1 hs1 => ?_)
             first | exact ⟨by rw [fitT, if_pos (by omega)]; rfl, hs1.keep⟩ | exact ⟨by rw [fitT, if_neg (by omega), if_pos (by assumption)]; rfl, hs1.keep⟩)
      · try exact Bool.noConfusion h12
        try simp only [ZZ] at h12
        refine HC_seq fun K14 hK14 => ?_
        refine HC_drawB [] [(0, .grow (geCall 0 (fun r : Nat => Value.map (some r)) (fun r => [(r, kObj)]))), (1, .pure), (4, .pure), (8, .pure), (9, .pure)] 10 [1, 2, 5, 6, 0, 3, 4, 7, 8, 9] (by kernel_rfl) (by kernel_rfl) (by first | exact (fun _ h => nomatch h) | simp [SubS] | (intro p hp; simp [hp])) ?_
        refine HB_p (k := 1) rfl rfl rfl rfl rfl (fun _ hS => (R_fieldAddr rfl rfl (by first | (simp only [Nat.zero_add, Nat.reduceAdd, Nat.reduceMul, Nat.zero_mul, Nat.mul_one, Nat.add_zero]; exact rfl) | exact rfl))) ?_; refine HB_r (k := 2) rfl rfl rfl rfl rfl (R_load rfl (known_L (k := 2) rfl) rfl rfl) ?_; refine HB_r (k := 5) rfl rfl rfl rfl rfl (R_loadA (vs := [_, _, _]) rfl (known_L (k := 2) rfl) rfl rfl rfl rfl) ?_; refine HB_r (k := 6) rfl rfl rfl rfl rfl (R_loadA (vs := [_, _, _, _, _, _, _]) rfl (known_L (k := 1) rfl) rfl rfl rfl rfl) ?_; refine HB_callPE (k := 0) rfl rfl rfl rfl rfl (enters_of Tryz.func91 (by kernel_rfl) rfl) E_kinds fun mr => ?_; refine HB_r (k := 3) rfl rfl rfl rfl rfl (R_lookup (keyI (t := 3) (by kernel_rfl)) rfl rfl (known_L (k := 0) rfl) rfl rfl ⟨_, rfl⟩ kMap_dom (kMap_val0 hkk)) ?_; refine HB_p (k := 4) rfl rfl rfl rfl rfl (fun _ hS => (R_pure rfl rfl rfl)) ?_; refine HB_as (fnV_t hkk) ?_; refine HB_callR (k := 7) rfl rfl rfl rfl rfl hO.1 hO.2 (fun q hq => Or.inr hq) ?_; refine HB_p (k := 8) rfl rfl rfl rfl rfl (fun _ hS => (R_pure rfl rfl rfl)) ?_; refine HB_p (k := 9) rfl rfl rfl rfl rfl (fun _ hS => (R_assign rfl)) ?_; refine HB_end ?_; refine HL_nil (hK14 _ _ _ _ ?_); refine HC_cond rfl (fun h15 => ?_) (fun h15 => ?_)
        · try exact Bool.noConfusion h15
          try simp only [ZZ] at h15
          refine HC_seq fun K16 hK16 => HC_region ?_
          refine HL_store (k := 1) rfl rfl rfl rfl rfl rfl rfl rfl (by first | (simp only [List.setIfInBounds_toArray, List.set_cons_zero, List.set_cons_succ]; exact rfl) | exact rfl) (by first | (simp only [List.set_cons_zero, List.set_cons_succ]; exact rfl) | exact rfl) ?_; refine HL_nil (hK16 _ _ _ _ ?_); refine HC_ret (HQ_blockR (HQ_thenR ?_))
          (refine HQ_post rfl rfl (.cons (res_cell rfl (known_L (k := 1) rfl) rfl rfl) .nil) (fun w1 hs1 => ?_)
           first | exact ⟨by rw [fitT, if_pos (by omega)]; rfl, hs1.keep⟩ | exact ⟨by rw [fitT, if_neg (by omega), if_pos (by assumption)]; rfl, hs1.keep⟩)
        · try exact Bool.noConfusion h15
          try simp only [ZZ] at h15
          refine HC_skip (HQ_blockN (hK2 _ _ _ _ ?_)); refine HC_seq fun K17 hK17 => ?_; refine HC_seq fun K18 hK18 => ?_
          have hfo := fit_ok (a := a) (b := b) (c := c) (d := d) (pb := pb) (pi := pi) (p := p) (show ¬ ((k = 4 ∧ n < items.length) ∨ (k = 6 ∧ n < bits.length)) by omega) (by assumption)
          have hxl : ∀ i, i < items.length → inX k pick i < ins.length := fun i hi => inX_lt (v := .mk a b c d bits pb items pi pick) hck (by assumption) hi
          have hp8 : k = 8 → 0 ≤ pick := fun h => by subst h; exact ofT_8 (v := .mk a b c d bits pb items pi pick) (by assumption)
          refine HC_region (HL_r rfl rfl rfl rfl (R_loadA (vs := [_, _, _]) rfl (known_L (k := 3) rfl) rfl rfl rfl rfl) (HL_r rfl rfl rfl rfl (R_loadA (vs := [_, _, _, _, _, _, _]) rfl (known_L (k := 2) rfl) rfl rfl rfl rfl) ?_)); refine HL_callPE rfl rfl rfl (enters_of Tryz.func92 (by kernel_rfl) rfl) (E_within (.mk k n p ins) (.mk a b c d bits pb items pi pick)) fun pp => ?_
          obtain ⟨rt, rv⟩ := pp
          change HL _ _ _ (vBlk rv (.mk a b c d bits pb items pi pick) :: tBlk rt (.mk k n p ins) :: _) _ _ _ _; refine HL_nil (hK18 _ _ _ _ ?_); refine HC_block (HC_sel [3, 0, 1, 2, 4, 5] (L' := [_, _, _, _, _, _]) (by decide) rfl ?_)
          refine HC_rangeR (τ := Int) (fun i (_ : Unit) => i ≤ items.length ∧ fitL (items.drop i) k pick ins i = fitL items k pick ins 0) (fun _ => [(r3, .cells #[.int .i64 (0)] 34 (0, 0))]) (fun j e => j = .ret ∧ e = fitL items k pick ins 0) (fun e => [(r3, .cells #[.int .i64 (e)] 34 (0, 0))]) [vBlk rv (.mk a b c d bits pb items pi pick), tBlk rt (.mk k n p ins), _, _, _] () rfl rfl (enters_of Tryz.func173 (by kernel_rfl) rfl) (I_within (n := n) (a := a) (b := b) (c := c) (d := d) (bits := bits) (pb := pb) hl hlt hs hst hxl hp8 rt rv) (by rintro _ _ _ ⟨_, rfl, _⟩; rfl) rfl (fun q hq => by rcases List.mem_cons.1 hq with rfl | hq; exact .inl (by simp); rcases List.mem_cons.1 hq with rfl | hq; exact .inl (by simp); exact .inr hq) rfl ⟨Nat.zero_le _, rfl⟩ ?_ ?_ ?_
          · rintro q Xr Xb w3 i _ _ ⟨⟩ ⟨hii, rfl, rfl⟩ ⟨hil, hinv⟩ Kr hKr
            have hix := itm_get hii
            have hty := inTy_get (hxl i hii)
            rw [dropI hix.1, fitL] at hinv
            unfold wVals
            refine HC_seq fun K19 hK19 => HC_region ?_; refine HL_alloc (cs := #[_, _, _]) rfl rfl rfl rfl fun r4 => ?_; refine HL_storeArr (k := 0) (n := 3) (ys := (inTy k pick ins i).cells) rfl rfl rfl rfl rfl (inTy k pick ins i).len rfl (inTy k pick ins i).one rfl ?_; refine HL_nil (hK19 _ _ _ _ ?_); refine HC_region (HL_alloc (cs := #[_, _, _, _, _, _, _]) rfl rfl rfl rfl fun r5 => (HL_storeArr (k := 0) (n := 7) (ys := (itm items i).cells) rfl rfl rfl rfl rfl (itm items i).len rfl (itm items i).one rfl ?_)); refine HL_nil ?_; refine hKr _ _ ?_; clear hKr; refine HC_block (HC_seq fun K20 hK20 => HC_region (HL_r rfl rfl rfl rfl (R_loadArr (xs := (inTy k pick ins i).cells) (n := 3) rfl (known_L (k := 1) rfl) rfl rfl (inTy k pick ins i).len) ?_)); refine HL_r rfl rfl rfl rfl (R_loadArr (xs := (itm items i).cells) (n := 7) rfl (known_L (k := 0) rfl) rfl rfl (itm items i).len) ?_; refine HL_callR rfl rfl rfl (enters_of Tryz.func46 (by kernel_rfl) rfl) (ih _ hix.2 (hi _ hix.2) _ (dp + 1) (hit _ hty.2) (hci _ hty.2)) (fun q hq => Or.inr (List.mem_append_right _ hq)) ?_; refine HLm rfl ?_; refine HL_nil (hK20 _ _ _ _ ?_); refine HC_seq fun K21 hK21 => HC_region ?_; refine HLm rfl (HLp rfl ?_); refine HL_nil (hK21 _ _ _ _ ?_); refine HC_cond rfl (fun h22 => ?_) (fun h22 => ?_)
            · try exact Bool.noConfusion h22
              try simp only [ZZ] at h22
              refine HC_seq fun K23 hK23 => HC_region ?_; refine HLm rfl ?_
              refine HL_store (k := 2) rfl rfl rfl rfl rfl rfl rfl rfl (by first | (simp only [List.setIfInBounds_toArray, List.set_cons_zero, List.set_cons_succ]; exact rfl) | exact rfl) (by first | (simp only [List.set_cons_zero, List.set_cons_succ]; exact rfl) | exact rfl) ?_; refine HL_nil (hK23 _ _ _ _ ?_); refine HC_ret (HQ_blockR (HQ_sel [2] (L' := [_]) (by decide) rfl ?_)); refine HQ_roundR (fitT (itm items i) (inTy k pick ins i)) ⟨rfl, by rw [if_neg (by assumption)] at hinv; exact hinv⟩ rfl
            · try exact Bool.noConfusion h22
              try simp only [ZZ] at h22
              refine HC_skip (HQ_blockN (HQ_sel [2] (L' := [_]) (by decide) rfl ?_)); refine HQ_round () ⟨by omega, by rw [if_pos (by assumption)] at hinv; exact hinv⟩ rfl
          · rintro D i ⟨⟩ hfi ⟨hil, hinv⟩
            have hin : i = items.length := hfi
            have hz : fitL items k pick ins 0 = 0 := by rw [← hinv, hin, List.drop_length, fitL]
            refine HQ_blockN (hK17 _ _ _ _ ?_); refine HC_seq fun K24 hK24 => HC_region ?_
            refine HL_store (k := 1) rfl rfl rfl rfl rfl rfl rfl rfl (by first | (simp only [List.setIfInBounds_toArray, List.set_cons_zero, List.set_cons_succ]; exact rfl) | exact rfl) (by first | (simp only [List.set_cons_zero, List.set_cons_succ]; exact rfl) | exact rfl) ?_; refine HL_nil (hK24 _ _ _ _ ?_); refine HC_ret ?_
            (refine HQ_mark (k := 0) rfl rfl ?_
             refine HQ_post rfl rfl (.cons (res_cell rfl (known_L (k := 1) rfl) rfl rfl) .nil) (fun w1 hs1 => ?_)
             first | exact ⟨by rw [hfo, ← he]; rfl, hs1.keep⟩ | exact ⟨by rw [hfo, hz]; rfl, hs1.keep⟩)
          · rintro D j e ⟨rfl, he⟩
            refine HC_ret (HQ_blockR (HQ_thenR ?_))
            first
              | (refine HQ_mark (k := 0) rfl rfl ?_
                 refine HQ_post rfl rfl (.cons (res_cell rfl (known_L (k := 1) rfl) rfl rfl) .nil) (fun w1 hs1 => ?_)
                 first | exact ⟨by rw [hfo, ← he]; rfl, hs1.keep⟩ | exact ⟨by rw [hfo, hz]; rfl, hs1.keep⟩)
              | (refine HQ_post rfl rfl (.cons (res_cell rfl (known_L (k := 0) rfl) rfl rfl) .nil) (fun w1 hs1 => ?_)
                 first | exact ⟨by rw [fitT, if_pos (by omega)]; rfl, hs1.keep⟩ | exact ⟨by rw [fitT, if_neg (by omega), if_pos (by assumption)]; rfl, hs1.keep⟩)
              | (refine HQ_post rfl rfl (.cons (res_cell rfl (known_L (k := 1) rfl) rfl rfl) .nil) (fun w1 hs1 => ?_)
                 first | exact ⟨by rw [fitT, if_pos (by omega)]; rfl, hs1.keep⟩ | exact ⟨by rw [fitT, if_neg (by omega), if_pos (by assumption)]; rfl, hs1.keep⟩)
      skip)
   · try exact Bool.noConfusion h11
     try simp only [ZZ] at h11
     refine HC_region ?_
     refine HL_r rfl rfl rfl rfl (R_fieldAddr rfl rfl (by first | (simp only [Nat.zero_add, Nat.reduceAdd, Nat.reduceMul, Nat.zero_mul, Nat.mul_one, Nat.add_zero]; exact rfl) | exact rfl)) ?_; refine HL_r rfl rfl rfl rfl (R_load rfl (known_L (k := 2) rfl) rfl rfl) ?_; refine HLp rfl (HLm rfl ?_)
     refine HL_case 23 rfl (fun hb25 => ?_) (fun hb25 => ?_) <;> (try simp only [ZZ] at hb25) <;> first | (refine HL_r rfl rfl rfl rfl (R_fieldAddr rfl rfl (by first | (simp only [Nat.zero_add, Nat.reduceAdd, Nat.reduceMul, Nat.zero_mul, Nat.mul_one, Nat.add_zero]; exact rfl) | exact rfl)) ?_) | (refine HL_skip rfl rfl rfl ?_)
     all_goals first
       | (refine HL_r rfl rfl rfl rfl (R_load rfl (known_L (k := 1) rfl) rfl rfl) ?_)
       | (refine HL_skip rfl rfl rfl ?_)
     all_goals first
       | (refine HL_r rfl rfl rfl rfl (R_lenPl rfl hsb rfl) ?_)
       | (refine HL_skip rfl rfl rfl ?_)
     all_goals first
       | (refine HL_r rfl rfl rfl rfl (R_fieldAddr rfl rfl (by first | (simp only [Nat.zero_add, Nat.reduceAdd, Nat.reduceMul, Nat.zero_mul, Nat.mul_one, Nat.add_zero]; exact rfl) | exact rfl)) ?_)
       | (refine HL_skip rfl rfl rfl ?_)
     all_goals first
       | (refine HL_r rfl rfl rfl rfl (R_load rfl (known_L (k := 2) rfl) rfl rfl) ?_)
       | (refine HL_skip rfl rfl rfl ?_)
     all_goals first
       | (refine HLp rfl ?_)
       | (refine HL_skip rfl rfl rfl ?_)
     all_goals first
       | (refine HL_r rfl rfl rfl rfl (R_pickT rfl rfl) ?_)
       | (refine HL_r rfl rfl rfl rfl (R_pickF rfl rfl) ?_)
     all_goals refine HLm rfl ?_
     all_goals refine HL_nil ?_
     all_goals (
      refine hK3 _ _ _ _ ?_; refine HC_cond rfl (fun h31 => ?_) (fun h31 => ?_)
      · try exact Bool.noConfusion h31
        all_goals try simp only [ZZ] at h31
        all_goals (
         refine HC_seq fun K32 hK32 => HC_region ?_
         refine HL_store (k := 0) rfl rfl rfl rfl rfl rfl rfl rfl (by first | (simp only [List.setIfInBounds_toArray, List.set_cons_zero, List.set_cons_succ]; exact rfl) | exact rfl) (by first | (simp only [List.set_cons_zero, List.set_cons_succ]; exact rfl) | exact rfl) ?_; refine HL_nil (hK32 _ _ _ _ ?_); refine HC_ret (HQ_blockR (HQ_thenR ?_))
         first
           | (refine HQ_mark (k := 0) rfl rfl ?_
              refine HQ_post rfl rfl (.cons (res_cell rfl (known_L (k := 1) rfl) rfl rfl) .nil) (fun w1 hs1 => ?_)
              first | exact ⟨by rw [hfo, ← he]; rfl, hs1.keep⟩ | exact ⟨by rw [hfo, hz]; rfl, hs1.keep⟩)
           | (refine HQ_post rfl rfl (.cons (res_cell rfl (known_L (k := 0) rfl) rfl rfl) .nil) (fun w1 hs1 => ?_)
              first | exact ⟨by rw [fitT, if_pos (by omega)]; rfl, hs1.keep⟩ | exact ⟨by rw [fitT, if_neg (by omega), if_pos (by assumption)]; rfl, hs1.keep⟩)
           | (refine HQ_post rfl rfl (.cons (res_cell rfl (known_L (k := 1) rfl) rfl rfl) .nil) (fun w1 hs1 => ?_)
              first | exact ⟨by rw [fitT, if_pos (by omega)]; rfl, hs1.keep⟩ | exact ⟨by rw [fitT, if_neg (by omega), if_pos (by assumption)]; rfl, hs1.keep⟩)
         skip)
      · try exact Bool.noConfusion h31
        try simp only [ZZ] at h31
        refine HC_seq fun K33 hK33 => ?_
        refine HC_drawB [] [(0, .grow (geCall 0 (fun r : Nat => Value.map (some r)) (fun r => [(r, kObj)]))), (1, .pure), (4, .pure), (8, .pure), (9, .pure)] 10 [1, 2, 5, 6, 0, 3, 4, 7, 8, 9] (by kernel_rfl) (by kernel_rfl) (by first | exact (fun _ h => nomatch h) | simp [SubS] | (intro p hp; simp [hp])) ?_
        refine HB_p (k := 1) rfl rfl rfl rfl rfl (fun _ hS => (R_fieldAddr rfl rfl (by first | (simp only [Nat.zero_add, Nat.reduceAdd, Nat.reduceMul, Nat.zero_mul, Nat.mul_one, Nat.add_zero]; exact rfl) | exact rfl))) ?_; refine HB_r (k := 2) rfl rfl rfl rfl rfl (R_load rfl (known_L (k := 2) rfl) rfl rfl) ?_; refine HB_r (k := 5) rfl rfl rfl rfl rfl (R_loadA (vs := [_, _, _]) rfl (known_L (k := 2) rfl) rfl rfl rfl rfl) ?_; refine HB_r (k := 6) rfl rfl rfl rfl rfl (R_loadA (vs := [_, _, _, _, _, _, _]) rfl (known_L (k := 1) rfl) rfl rfl rfl rfl) ?_; refine HB_callPE (k := 0) rfl rfl rfl rfl rfl (enters_of Tryz.func91 (by kernel_rfl) rfl) E_kinds fun mr => ?_; refine HB_r (k := 3) rfl rfl rfl rfl rfl (R_lookup (keyI (t := 3) (by kernel_rfl)) rfl rfl (known_L (k := 0) rfl) rfl rfl ⟨_, rfl⟩ kMap_dom (kMap_val0 hkk)) ?_; refine HB_p (k := 4) rfl rfl rfl rfl rfl (fun _ hS => (R_pure rfl rfl rfl)) ?_; refine HB_as (fnV_t hkk) ?_; refine HB_callR (k := 7) rfl rfl rfl rfl rfl hO.1 hO.2 (fun q hq => Or.inr hq) ?_; refine HB_p (k := 8) rfl rfl rfl rfl rfl (fun _ hS => (R_pure rfl rfl rfl)) ?_; refine HB_p (k := 9) rfl rfl rfl rfl rfl (fun _ hS => (R_assign rfl)) ?_; refine HB_end ?_; refine HL_nil (hK33 _ _ _ _ ?_); refine HC_cond rfl (fun h34 => ?_) (fun h34 => ?_)
        · try exact Bool.noConfusion h34
          try simp only [ZZ] at h34
          refine HC_seq fun K35 hK35 => HC_region ?_
          refine HL_store (k := 1) rfl rfl rfl rfl rfl rfl rfl rfl (by first | (simp only [List.setIfInBounds_toArray, List.set_cons_zero, List.set_cons_succ]; exact rfl) | exact rfl) (by first | (simp only [List.set_cons_zero, List.set_cons_succ]; exact rfl) | exact rfl) ?_; refine HL_nil (hK35 _ _ _ _ ?_); refine HC_ret (HQ_blockR (HQ_thenR ?_))
          (refine HQ_post rfl rfl (.cons (res_cell rfl (known_L (k := 1) rfl) rfl rfl) .nil) (fun w1 hs1 => ?_)
           first | exact ⟨by rw [fitT, if_pos (by omega)]; rfl, hs1.keep⟩ | exact ⟨by rw [fitT, if_neg (by omega), if_pos (by assumption)]; rfl, hs1.keep⟩)
        · try exact Bool.noConfusion h34
          try simp only [ZZ] at h34
          refine HC_skip (HQ_blockN (hK2 _ _ _ _ ?_)); refine HC_seq fun K36 hK36 => ?_; refine HC_seq fun K37 hK37 => ?_
          have hfo := fit_ok (a := a) (b := b) (c := c) (d := d) (pb := pb) (pi := pi) (p := p) (show ¬ ((k = 4 ∧ n < items.length) ∨ (k = 6 ∧ n < bits.length)) by omega) (by assumption)
          have hxl : ∀ i, i < items.length → inX k pick i < ins.length := fun i hi => inX_lt (v := .mk a b c d bits pb items pi pick) hck (by assumption) hi
          have hp8 : k = 8 → 0 ≤ pick := fun h => by subst h; exact ofT_8 (v := .mk a b c d bits pb items pi pick) (by assumption)
          refine HC_region (HL_r rfl rfl rfl rfl (R_loadA (vs := [_, _, _]) rfl (known_L (k := 3) rfl) rfl rfl rfl rfl) (HL_r rfl rfl rfl rfl (R_loadA (vs := [_, _, _, _, _, _, _]) rfl (known_L (k := 2) rfl) rfl rfl rfl rfl) ?_)); refine HL_callPE rfl rfl rfl (enters_of Tryz.func92 (by kernel_rfl) rfl) (E_within (.mk k n p ins) (.mk a b c d bits pb items pi pick)) fun pp => ?_
          obtain ⟨rt, rv⟩ := pp
          change HL _ _ _ (vBlk rv (.mk a b c d bits pb items pi pick) :: tBlk rt (.mk k n p ins) :: _) _ _ _ _; refine HL_nil (hK37 _ _ _ _ ?_); refine HC_block (HC_sel [3, 0, 1, 2, 4, 5] (L' := [_, _, _, _, _, _]) (by decide) rfl ?_)
          refine HC_rangeR (τ := Int) (fun i (_ : Unit) => i ≤ items.length ∧ fitL (items.drop i) k pick ins i = fitL items k pick ins 0) (fun _ => [(r3, .cells #[.int .i64 (0)] 34 (0, 0))]) (fun j e => j = .ret ∧ e = fitL items k pick ins 0) (fun e => [(r3, .cells #[.int .i64 (e)] 34 (0, 0))]) [vBlk rv (.mk a b c d bits pb items pi pick), tBlk rt (.mk k n p ins), _, _, _] () rfl rfl (enters_of Tryz.func173 (by kernel_rfl) rfl) (I_within (n := n) (a := a) (b := b) (c := c) (d := d) (bits := bits) (pb := pb) hl hlt hs hst hxl hp8 rt rv) (by rintro _ _ _ ⟨_, rfl, _⟩; rfl) rfl (fun q hq => by rcases List.mem_cons.1 hq with rfl | hq; exact .inl (by simp); rcases List.mem_cons.1 hq with rfl | hq; exact .inl (by simp); exact .inr hq) rfl ⟨Nat.zero_le _, rfl⟩ ?_ ?_ ?_
          · rintro q Xr Xb w3 i _ _ ⟨⟩ ⟨hii, rfl, rfl⟩ ⟨hil, hinv⟩ Kr hKr
            have hix := itm_get hii
            have hty := inTy_get (hxl i hii)
            rw [dropI hix.1, fitL] at hinv
            unfold wVals
            refine HC_seq fun K38 hK38 => HC_region ?_; refine HL_alloc (cs := #[_, _, _]) rfl rfl rfl rfl fun r6 => ?_; refine HL_storeArr (k := 0) (n := 3) (ys := (inTy k pick ins i).cells) rfl rfl rfl rfl rfl (inTy k pick ins i).len rfl (inTy k pick ins i).one rfl ?_; refine HL_nil (hK38 _ _ _ _ ?_); refine HC_region (HL_alloc (cs := #[_, _, _, _, _, _, _]) rfl rfl rfl rfl fun r7 => (HL_storeArr (k := 0) (n := 7) (ys := (itm items i).cells) rfl rfl rfl rfl rfl (itm items i).len rfl (itm items i).one rfl ?_)); refine HL_nil ?_; refine hKr _ _ ?_; clear hKr; refine HC_block (HC_seq fun K39 hK39 => HC_region (HL_r rfl rfl rfl rfl (R_loadArr (xs := (inTy k pick ins i).cells) (n := 3) rfl (known_L (k := 1) rfl) rfl rfl (inTy k pick ins i).len) ?_)); refine HL_r rfl rfl rfl rfl (R_loadArr (xs := (itm items i).cells) (n := 7) rfl (known_L (k := 0) rfl) rfl rfl (itm items i).len) ?_; refine HL_callR rfl rfl rfl (enters_of Tryz.func46 (by kernel_rfl) rfl) (ih _ hix.2 (hi _ hix.2) _ (dp + 1) (hit _ hty.2) (hci _ hty.2)) (fun q hq => Or.inr (List.mem_append_right _ hq)) ?_; refine HLm rfl ?_; refine HL_nil (hK39 _ _ _ _ ?_); refine HC_seq fun K40 hK40 => HC_region ?_; refine HLm rfl (HLp rfl ?_); refine HL_nil (hK40 _ _ _ _ ?_); refine HC_cond rfl (fun h41 => ?_) (fun h41 => ?_)
            · try exact Bool.noConfusion h41
              try simp only [ZZ] at h41
              refine HC_seq fun K42 hK42 => HC_region ?_; refine HLm rfl ?_
              refine HL_store (k := 2) rfl rfl rfl rfl rfl rfl rfl rfl (by first | (simp only [List.setIfInBounds_toArray, List.set_cons_zero, List.set_cons_succ]; exact rfl) | exact rfl) (by first | (simp only [List.set_cons_zero, List.set_cons_succ]; exact rfl) | exact rfl) ?_; refine HL_nil (hK42 _ _ _ _ ?_); refine HC_ret (HQ_blockR (HQ_sel [2] (L' := [_]) (by decide) rfl ?_)); refine HQ_roundR (fitT (itm items i) (inTy k pick ins i)) ⟨rfl, by rw [if_neg (by assumption)] at hinv; exact hinv⟩ rfl
            · try exact Bool.noConfusion h41
              try simp only [ZZ] at h41
              refine HC_skip (HQ_blockN (HQ_sel [2] (L' := [_]) (by decide) rfl ?_)); refine HQ_round () ⟨by omega, by rw [if_pos (by assumption)] at hinv; exact hinv⟩ rfl
          · rintro D i ⟨⟩ hfi ⟨hil, hinv⟩
            have hin : i = items.length := hfi
            have hz : fitL items k pick ins 0 = 0 := by rw [← hinv, hin, List.drop_length, fitL]
            refine HQ_blockN (hK36 _ _ _ _ ?_); refine HC_seq fun K43 hK43 => HC_region ?_
            refine HL_store (k := 1) rfl rfl rfl rfl rfl rfl rfl rfl (by first | (simp only [List.setIfInBounds_toArray, List.set_cons_zero, List.set_cons_succ]; exact rfl) | exact rfl) (by first | (simp only [List.set_cons_zero, List.set_cons_succ]; exact rfl) | exact rfl) ?_; refine HL_nil (hK43 _ _ _ _ ?_); refine HC_ret ?_
            (refine HQ_mark (k := 0) rfl rfl ?_
             refine HQ_post rfl rfl (.cons (res_cell rfl (known_L (k := 1) rfl) rfl rfl) .nil) (fun w1 hs1 => ?_)
             first | exact ⟨by rw [hfo, ← he]; rfl, hs1.keep⟩ | exact ⟨by rw [hfo, hz]; rfl, hs1.keep⟩)
          · rintro D j e ⟨rfl, he⟩
            refine HC_ret (HQ_blockR (HQ_thenR ?_))
            first
              | (refine HQ_mark (k := 0) rfl rfl ?_
                 refine HQ_post rfl rfl (.cons (res_cell rfl (known_L (k := 1) rfl) rfl rfl) .nil) (fun w1 hs1 => ?_)
                 first | exact ⟨by rw [hfo, ← he]; rfl, hs1.keep⟩ | exact ⟨by rw [hfo, hz]; rfl, hs1.keep⟩)
              | (refine HQ_post rfl rfl (.cons (res_cell rfl (known_L (k := 0) rfl) rfl rfl) .nil) (fun w1 hs1 => ?_)
                 first | exact ⟨by rw [fitT, if_pos (by omega)]; rfl, hs1.keep⟩ | exact ⟨by rw [fitT, if_neg (by omega), if_pos (by assumption)]; rfl, hs1.keep⟩)
              | (refine HQ_post rfl rfl (.cons (res_cell rfl (known_L (k := 1) rfl) rfl rfl) .nil) (fun w1 hs1 => ?_)
                 first | exact ⟨by rw [fitT, if_pos (by omega)]; rfl, hs1.keep⟩ | exact ⟨by rw [fitT, if_neg (by omega), if_pos (by assumption)]; rfl, hs1.keep⟩)
      skip)
   skip)
end Go.Proofs.YtlcbfphioeppaaaGreatDoor
namespace Go.Proofs.YtlcbfphioeppaaaGreatDoor
set_option linter.all false
open Go.SL Go.RowKit Go.Shelf
set_option maxRecDepth 10000 in
theorem S_Fits {R : List (Nat × Obj)} {t : Ty} {v : Vl} (ht : t.In R) (hv : v.In R) : PureR Tryz.prog 22 [t.val, v.val].toArray (.int .i64 (fitsT t v)) R := by
  have h1 := S_Check ht
  have h2 := S_fits hv t 0 ht
  obtain ⟨k, n, p, ins⟩ := t
  obtain ⟨a, b, c, d, bits, pb, items, pi, pick⟩ := v
  refine pureR_of_HC Tryz.func22 rfl rfl fun w => ?_; refine HC_seq fun K1 hK1 => HC_region ?_; refine HL_box (cs := #[_, _, _]) rfl rfl rfl rfl fun r1 => ?_; refine HL_box (cs := #[_, _, _, _, _, _, _]) rfl rfl rfl rfl fun r2 => ?_; refine HLm rfl ?_; refine HL_nil (hK1 _ _ _ _ ?_); refine HC_seq fun K2 hK2 => ?_; refine HC_seq fun K3 hK3 => HC_region ?_; refine HL_r rfl rfl rfl rfl (R_loadA (vs := [_, _, _]) rfl (known_L (k := 1) rfl) rfl rfl rfl rfl) ?_; refine HL_callR rfl rfl rfl (enters_of Tryz.func41 (by kernel_rfl) rfl) h1 (fun q hq => Or.inr hq) ?_; refine HLm rfl ?_; refine HL_nil (hK3 _ _ _ _ ?_); refine HC_seq fun K4 hK4 => HC_region ?_; refine HLm rfl (HLp rfl ?_); refine HL_nil (hK4 _ _ _ _ ?_); refine HC_cond rfl (fun h5 => ?_) (fun h5 => ?_)
  · try exact Bool.noConfusion h5
    try simp only [ZZ] at h5
    refine HC_seq fun K6 hK6 => HC_region ?_; refine HLm rfl (HLm rfl ?_); refine HL_nil (hK6 _ _ _ _ ?_); refine HC_ret (HQ_thenR ?_); refine HQ_post rfl rfl (.cons (res_tmp rfl) .nil) (fun w1 hs1 => ?_); refine ⟨?_, hs1.keep⟩; rw [fitsT, if_neg (by assumption)]; rfl
  · try exact Bool.noConfusion h5
    try simp only [ZZ] at h5
    refine HC_skip (hK2 _ _ _ _ ?_); refine HC_seq fun K7 hK7 => HC_region ?_; refine HL_r rfl rfl rfl rfl (R_loadA (vs := [_, _, _]) rfl (known_L (k := 1) rfl) rfl rfl rfl rfl) ?_; refine HL_r rfl rfl rfl rfl (R_loadA (vs := [_, _, _, _, _, _, _]) rfl (known_L (k := 0) rfl) rfl rfl rfl rfl) ?_; refine HL_callR rfl rfl rfl (enters_of Tryz.func46 (by kernel_rfl) rfl) (h2 (by assumption)) (fun q hq => Or.inr hq) ?_; refine HLm rfl ?_; refine HL_nil (hK7 _ _ _ _ ?_); refine HC_ret ?_; refine HQ_post rfl rfl (.cons (res_tmp rfl) .nil) (fun w1 hs1 => ?_); refine ⟨?_, hs1.keep⟩; rw [fitsT, if_pos (by assumption)]; rfl
def fewB (t : Ty) (v : Vl) : Bool := decide (typN t 60 9 ≤ 60) && decide (valN v 150 9 ≤ 150)
set_option maxRecDepth 10000 in
theorem S_Few {R : List (Nat × Obj)} {t : Ty} {v : Vl} (ht : t.In R) (hv : v.In R) : PureR Tryz.prog 35 [t.val, v.val].toArray (.bool (fewB t v)) R := by
  have h1 := S_ref_Types ht 60 9 (by omega) (by omega) (by omega) (by omega)
  have h2 := S_ref_Vals hv 150 9 (by omega) (by omega) (by omega) (by omega)
  obtain ⟨k, n, p, ins⟩ := t
  obtain ⟨a, b, c, d, bits, pb, items, pi, pick⟩ := v
  refine pureR_of_HC Tryz.func35 rfl rfl fun w => ?_; refine HC_seq fun K1 hK1 => HC_region ?_; refine HL_box (cs := #[_, _, _]) rfl rfl rfl rfl fun r1 => ?_; refine HL_box (cs := #[_, _, _, _, _, _, _]) rfl rfl rfl rfl fun r2 => ?_; refine HLm rfl ?_; refine HL_nil (hK1 _ _ _ _ ?_); clear hK1 K1; refine HC_seq fun K2 hK2 => HC_region ?_; refine HL_r rfl rfl rfl rfl (R_loadA (vs := [_, _, _]) rfl (known_L (k := 1) rfl) rfl rfl rfl rfl) ?_; refine HL_callR rfl rfl rfl (enters_of Tryz.func65 (by kernel_rfl) rfl) h1 (fun q hq => Or.inr hq) ?_; refine HLp rfl (HLm rfl ?_)
  refine HL_case 8 rfl (fun hb3 => ?_) (fun hb3 => ?_) <;> (try simp only [ZZ] at hb3) <;> first | (refine HL_r rfl rfl rfl rfl (R_loadA (vs := [_, _, _, _, _, _, _]) rfl (known_L (k := 0) rfl) rfl rfl rfl rfl) ?_) | (refine HL_r rfl rfl rfl rfl (R_loadA (vs := [_, _, _, _, _, _, _]) rfl (known_L (k := 1) rfl) rfl rfl rfl rfl) ?_) | (refine HL_skip rfl rfl rfl ?_)
  all_goals first
    | (refine HL_callR rfl rfl rfl (enters_of Tryz.func66 (by kernel_rfl) rfl) h2 (fun q hq => Or.inr hq) ?_)
    | (refine HL_skip rfl rfl rfl ?_)
  all_goals first
    | (refine HLp rfl ?_)
    | (refine HL_skip rfl rfl rfl ?_)
  all_goals first
    | (refine HL_r rfl rfl rfl rfl (R_pickT rfl rfl) ?_)
    | (refine HL_r rfl rfl rfl rfl (R_pickF rfl rfl) ?_)
  all_goals refine HLm rfl ?_
  all_goals refine HL_nil ?_
  all_goals (
   refine hK2 _ _ _ _ ?_; clear hK2 K2; refine HC_ret ?_; refine HQ_post rfl rfl (.cons (res_tmp rfl) .nil) (fun w1 hs1 => ?_); refine ⟨?_, hs1.keep⟩
   simp_all [resVal, fewB]
   all_goals first | done | (intros; omega)
   skip)
def tTwo : Ty := .mk 1 2 none []
def vNum (n : Nat) : Vl := .mk n 0 0 0 [] none [] none 0
section
variable {R : List (Nat × Obj)}
theorem iz (z : Int) (h : -9223372036854775808 ≤ z ∧ z ≤ 9223372036854775807 := by decide) : I64 z := h
theorem uz (z : Nat) (h : z < 18446744073709551616 := by decide) : U64 z := h
theorem in_two : tTwo.In R := .mk (iz 1) (iz 2) (by simp) rfl (by simp)
theorem in_num (n : Nat) (h : n < 18446744073709551616) : (vNum n).In R := .mk h (uz 0) (uz 0) (uz 0) (by simp) rfl (by simp) rfl (iz 0) (by simp)
theorem in_ty0 {k n : Int} (hk : I64 k) (hn : I64 n) : (Ty.mk k n none []).In R := .mk hk hn (by simp) rfl (by simp)
end
end Go.Proofs.YtlcbfphioeppaaaGreatDoor
namespace Go.Proofs.YtlcbfphioeppaaaGreatDoor
set_option linter.all false
open Go.SL Go.RowKit Go.Shelf
theorem ofNat_zero_iff {n : Nat} (h : n < 256) : UInt8.ofNat n = 0 ↔ n = 0 := by
  constructor
  · intro e
    have := congrArg UInt8.toNat e
    rw [UInt8.toNat_ofNat', Nat.mod_eq_of_lt h] at this; exact this
  · rintro rfl; rfl
theorem trim_len (l : List Nat) : ∀ n k, (Lib.trimLeftB (beD l n) 0).length ≤ k ↔ ∀ t, k ≤ t → t < n → dg l t = 0
  | 0, k => by simp [beD, Lib.trimLeftB]
  | n + 1, k => by
    have ih := trim_len l n k
    by_cases hz : dg l n = 0
    · have e : Lib.trimLeftB (beD l (n + 1)) 0 = Lib.trimLeftB (beD l n) 0 := by simp [beD, Lib.trimLeftB, hz]
      rw [e, ih]
      constructor
      · intro h t h1 h2
        by_cases ht : t = n
        · rw [ht]; exact hz
        · exact h t h1 (by omega)
      · intro h t h1 h2; exact h t h1 (by omega)
    · have hne : ¬ UInt8.ofNat (dg l n) = 0 := fun e => hz ((ofNat_zero_iff (dg_lt l n)).1 e)
      have e : Lib.trimLeftB (beD l (n + 1)) 0 = beD l (n + 1) := by simp [beD, Lib.trimLeftB, hne]
      rw [e, beD_len]
      constructor
      · intro h t h1 h2; omega
      · intro h
        rcases Nat.lt_or_ge n k with hk | hk
        · omega
        · exact absurd (h n hk (by omega)) hz
theorem repeat_rep : ∀ n, Lib.repeatL [0] n = List.replicate n 0
  | 0 => rfl
  | n + 1 => by rw [Lib.repeatL, repeat_rep n]; rfl
end Go.Proofs.YtlcbfphioeppaaaGreatDoor
namespace Go.Proofs.YtlcbfphioeppaaaGreatDoor
set_option linter.all false
open Go.SL Go.RowKit Go.Shelf
end Go.Proofs.YtlcbfphioeppaaaGreatDoor
namespace Go.Proofs.YtlcbfphioeppaaaGreatDoor
set_option linter.all false
open Go.SL Go.RowKit Go.Shelf
end Go.Proofs.YtlcbfphioeppaaaGreatDoor
namespace Go.Proofs.YtlcbfphioeppaaaGreatDoor
set_option linter.all false
open Go.SL Go.RowKit Go.Shelf
theorem wokN {n : Nat} (h : n < 18446744073709551616) : WOk [n, 0, 0, 0] := ⟨rfl, fun x hx => by simp at hx; rcases hx with rfl | rfl <;> simp_all⟩
def beN (n : Nat) : List UInt8 := bytesW [n, 0, 0, 0]
theorem dgN_lo {n t : Nat} (h : t < 8) : dg [n, 0, 0, 0] t = n / 256 ^ t % 256 := by
  have e : t / 8 = 0 := by omega
  have e2 : t % 8 = t := by omega
  simp only [dg, e, e2, List.getD_cons_zero]; rw [show (256 : Nat) = 2 ^ 8 from rfl, ← Nat.pow_mul, Nat.mul_comm]
theorem dgN_hi {n t : Nat} (h : 8 ≤ t) (h2 : t < 32) : dg [n, 0, 0, 0] t = 0 := by
  have hj : t / 8 = 1 ∨ t / 8 = 2 ∨ t / 8 = 3 := by omega
  rcases hj with e | e | e <;> simp [dg, e]
theorem beN_len {n k : Nat} (hn : n < 18446744073709551616) (hk : k ≤ 8) : (beN n).length ≤ k ↔ n < 256 ^ k := by
  unfold beN bytesW
  rw [trim_len]
  constructor
  · intro h
    have h' : ∀ t, k ≤ t → t < 8 → n / 256 ^ t % 256 = 0 := fun t h1 h2 => by rw [← dgN_lo h2]; exact h t h1 (by omega)
    have key : ∀ j, k ≤ j → j ≤ 8 → n < 256 ^ j → n < 256 ^ k := by
      intro j
      induction j with
      | zero => intro h1 _ h3; rw [show k = 0 from by omega]; exact h3
      | succ j ih =>
        intro h1 h2 h3
        by_cases e : k = j + 1
        · rw [e]; exact h3
        · refine ih (by omega) (by omega) ?_
          have h4 := h' j (by omega) (by omega)
          have h5 : n / 256 ^ j < 256 := by
            rw [Nat.div_lt_iff_lt_mul (Nat.pow_pos (by decide))]; rw [Nat.pow_succ, Nat.mul_comm] at h3; exact h3
          rw [Nat.mod_eq_of_lt h5] at h4
          rcases Nat.div_eq_zero_iff.1 h4 with h6 | h6
          · have := Nat.pow_pos (n := j) (show 0 < 256 by decide); omega
          · exact h6
    exact key 8 hk (Nat.le_refl _) hn
  · intro h t h1 h2
    by_cases ht : t < 8
    · rw [dgN_lo ht, Nat.div_eq_of_lt (Nat.lt_of_lt_of_le h (Nat.pow_le_pow_right (by decide) h1))]
    · exact dgN_hi (by omega) h2
set_option maxRecDepth 10000 in
theorem P_num_Be {n : Nat} (hn : n < 18446744073709551616) : Pure Tryz.prog 101 [uV n].toArray (.string (bs (beN n))) := by
  refine pure_of_HC Tryz.func101 rfl rfl fun w => ?_; refine HC_seq fun K1 hK1 => HC_region ?_; refine HLm rfl ?_; refine HL_nil (hK1 _ _ _ _ ?_); refine HC_seq fun K2 hK2 => HC_region ?_; refine HLm rfl (HL_callP rfl rfl rfl (enters_of Tryz.func150 (by kernel_rfl) rfl) (P_word_Of n) (HL_callP rfl rfl rfl (enters_of Tryz.func144 (by kernel_rfl) rfl) (P_word_Bytes (wokN hn)) ?_)); refine HLm rfl ?_; refine HL_nil (hK2 _ _ _ _ ?_); refine HC_ret ?_; refine HQ_post rfl rfl (.cons (res_tmp rfl) .nil) (fun w1 hs1 => ?_); exact ⟨rfl, hs1.keep⟩
set_option maxRecDepth 10000 in
theorem P_ref_Be {n : Nat} (hn : n < 18446744073709551616) : Pure Tryz.prog 195 [uV n].toArray (.string (bs (beN n))) := by
  refine pure_of_HC Tryz.func195 rfl rfl fun w => ?_; refine HC_seq fun K1 hK1 => HC_region ?_; refine HLm rfl ?_; refine HL_nil (hK1 _ _ _ _ ?_); refine HC_seq fun K2 hK2 => HC_region ?_; refine HLm rfl (HL_r rfl rfl rfl rfl (R_build (r := [_, _, _, _]) rfl rfl) (HL_callP rfl rfl rfl (enters_of Tryz.func193 (by kernel_rfl) rfl) (P_ref_Bytes (l := [n, 0, 0, 0]) (wokN hn)) ?_)); refine HLm rfl ?_; refine HL_nil (hK2 _ _ _ _ ?_); refine HC_ret ?_; refine HQ_post rfl rfl (.cons (res_tmp rfl) .nil) (fun w1 hs1 => ?_); exact ⟨rfl, hs1.keep⟩
def leR (n : Nat) (w : Int) : List UInt8 × Int := if w < 1 ∨ w > 8 ∨ ((beN n).length : Int) > w then ([], 1) else (leN n w.toNat, 0)
def resS (p : List UInt8 × Int) : Value := .tuple #[.string (bs p.1), .int .i64 p.2]
theorem le_step {n i k : Nat} (h : i < k) : ((leN n i ++ List.replicate (k - i) 0).map bV).set i (bV (UInt8.ofNat (n / 2 ^ (8 * i) % 256))) = (leN n (i + 1) ++ List.replicate (k - (i + 1)) 0).map bV := by
  rw [← List.map_set, List.set_append_right _ _ (by rw [leN_len]; exact Nat.le_refl _), leN_len, Nat.sub_self, show k - i = (k - (i + 1)) + 1 from by omega, List.replicate_succ, List.set_cons_zero, leN_snoc, List.append_assoc]; rw [show (256 : Nat) ^ i = 2 ^ (8 * i) from by rw [show (256 : Nat) = 2 ^ 8 from rfl, ← Nat.pow_mul]]
  rfl
set_option maxRecDepth 10000 in
theorem P_num_Le {n : Nat} (hn : n < 18446744073709551616) (k : Int) : Pure Tryz.prog 56 [uV n, .int .i64 k].toArray (resS (leR n k)) := by
  refine pure_of_HC Tryz.func56 rfl rfl fun w => ?_; refine HC_seq fun K1 hK1 => HC_region ?_; refine HLm rfl (HLm rfl ?_); refine HL_nil (hK1 _ _ _ _ ?_); refine HC_seq fun K2 hK2 => ?_; refine HC_seq fun K3 hK3 => HC_region ?_; refine HLm rfl (HLp rfl (HLm rfl ?_))
  refine HL_case 10 rfl (fun hb4 => ?_) (fun hb4 => ?_) <;> (try simp only [ZZ] at hb4) <;> first | (refine HLm rfl ?_) | (refine HL_skip rfl rfl rfl ?_)
  all_goals first
    | (refine HLp rfl ?_)
    | (refine HL_skip rfl rfl rfl ?_)
  all_goals first
    | (refine HL_r rfl rfl rfl rfl (R_pickT rfl rfl) ?_)
    | (refine HL_r rfl rfl rfl rfl (R_pickF rfl rfl) ?_)
  all_goals refine HLm rfl ?_
  all_goals first
    | (refine HL_skip rfl rfl rfl ?_)
    | (refine HL_case 14 rfl (fun hb6 => ?_) (fun hb6 => ?_) <;> (try simp only [ZZ] at hb6) <;> first | (refine HLm rfl ?_) | (refine HL_skip rfl rfl rfl ?_))
  all_goals first
    | (refine HL_callP rfl rfl rfl (enters_of Tryz.func101 (by kernel_rfl) rfl) (P_num_Be hn) ?_)
    | (refine HL_skip rfl rfl rfl ?_)
  all_goals first
    | (refine HL_r rfl rfl rfl rfl (R_lenBs rfl rfl) ?_)
    | (refine HL_skip rfl rfl rfl ?_)
  all_goals first
    | (refine HLm rfl ?_)
    | (refine HL_skip rfl rfl rfl ?_)
  all_goals first
    | (refine HLp rfl ?_)
    | (refine HL_skip rfl rfl rfl ?_)
  all_goals first
    | (refine HL_r rfl rfl rfl rfl (R_pickT rfl rfl) ?_)
    | (refine HL_r rfl rfl rfl rfl (R_pickF rfl rfl) ?_)
  all_goals refine HL_nil ?_
  all_goals (
   refine hK3 _ _ _ _ ?_; refine HC_cond rfl (fun h11 => ?_) (fun h11 => ?_)
   · try exact Bool.noConfusion h11
     try simp only [ZZ] at h11
     refine HC_seq fun K12 hK12 => HC_region ?_; refine HLm rfl (HLm rfl ?_); refine HL_nil (hK12 _ _ _ _ ?_); refine HC_ret (HQ_thenR ?_); refine HQ_post rfl rfl (.cons (res_tmp rfl) (.cons (res_tmp rfl) .nil)) (fun w1 hs1 => ?_); refine ⟨?_, hs1.keep⟩; rw [show leR n k = ([], 1) from by unfold leR; rw [if_pos (by omega)]]; rfl
   · try exact Bool.noConfusion h11
     all_goals try simp only [ZZ] at h11
     all_goals (
      refine HC_skip (hK2 _ _ _ _ ?_); refine HC_seq fun K13 hK13 => ?_
      have hk1 : 1 ≤ k ∧ k ≤ 8 ∧ ((beN n).length : Int) ≤ k := by omega
      have hlr : leR n k = (leN n k.toNat, 0) := by unfold leR; rw [if_neg (by omega)]
      obtain ⟨k, rfl⟩ : ∃ j : Nat, k = j := ⟨k.toNat, by omega⟩
      rw [Int.toNat_natCast] at hlr; refine HC_region (HLm rfl (HL_make (n := k) (b := 1) rfl rfl rfl rfl rfl rfl rfl rfl rfl (by omega) (by omega) fun r2 => ?_)); refine HLm rfl ?_; refine HL_nil (hK13 _ _ _ _ ?_); refine HC_seq fun K14 hK14 => ?_; refine HC_seq fun K15 hK15 => HC_region ?_; refine HLm rfl (HL_r rfl rfl rfl rfl (R_lenSl rfl rfl) (HLm rfl ?_)); refine HL_nil (hK15 _ _ _ _ ?_); refine HC_block (HC_loop (σ := Nat) (fun i => i ≤ k) (fun i => [(0, uV n), (6, .slice (some ⟨r2, 0, none⟩) k k), (24, .int .i64 (k : Int)), (25, .int .i64 (i : Int))]) (fun i => [(r2, .cells ((leN n i ++ List.replicate (k - i) 0).map bV).toArray 5 (0, 0))]) (fun _ _ _ => True) (fun i => k - i) 0 (Nat.zero_le _) (.cons rfl (.cons rfl (.cons rfl (.cons rfl .nil)))) (by simp [leN, bV]) (fun _ _ h => h) ?_); intro i hi; refine HC_seq fun K16 hK16 => HC_region ?_; refine HLp rfl ?_; refine HL_nil (hK16 _ _ _ _ ?_); refine HC_seq fun K17 hK17 => ?_; refine HC_cond rfl (fun h18 => ?_) (fun h18 => ?_)
      · try exact Bool.noConfusion h18
        try simp only [ZZ] at h18
        refine HC_skip (hK17 _ _ _ _ ?_); refine HC_seq fun K19 hK19 => HC_block ?_; refine HC_seq fun K20 hK20 => HC_region ?_; refine HLm rfl (HLm rfl ?_); refine HL_nil (hK20 _ _ _ _ ?_); refine HC_region (HLm rfl ?_); refine HLm rfl (HLm rfl ?_); refine HLm rfl (HLp rfl ?_); refine HL_as (show _ = Value.int .i64 ((8 * i : Nat) : Int) from congrArg (Value.int .i64) (by rw [wrap_i64 (by omega) (by omega)]; omega)) ?_; refine HL_r rfl rfl rfl rfl (R_shr (n := 8 * i) rfl rfl (by omega) (show _ ≤ 64 from by omega) (by omega) (shr_nat _ _)) ?_; refine HLp rfl (HL_as (show _ = bV (UInt8.ofNat (n / 2 ^ (8 * i) % 256)) from byte_mod _) (HL_r rfl rfl rfl rfl (R_indexS (j := i) (m := 1) (off' := i) rfl rfl rfl rfl (by omega) (by omega) (by omega)) ?_)); refine HL_storeAt (k := 0) (off := i) (xs := (leN n i ++ List.replicate (k - i) 0).map bV) (ys := (leN n (i + 1) ++ List.replicate (k - (i + 1)) 0).map bV) rfl rfl rfl rfl rfl rfl (by simp [leN_len]; omega) (le_step (by omega)) rfl ?_; refine HL_nil ?_; refine HQ_blockN (hK19 _ _ _ _ ?_); refine HC_region (HLp rfl (HL_wrap_i64 (by omega) (by omega) ?_)); refine HLm rfl (HL_nil (HQ_then ?_)); exact HQ_again (i + 1) (by omega) (by omega) (.cons rfl (.cons rfl (.cons rfl (.cons rfl .nil)))) (List.Sublist.refl _) (fun _ _ h => h)
      · try exact Bool.noConfusion h18
        try simp only [ZZ] at h18
        refine HC_exit (HQ_thenE ?_); refine HQ_thenE (HQ_blockE (hK14 _ _ _ _ ?_)); refine HC_seq fun K21 hK21 => ?_
        have hik : k = i := by omega
        subst hik; refine HC_region (HLm rfl ?_); refine HL_r rfl rfl rfl rfl (R_bytesStr (b := leN n k) (row := some (r2, k, [])) (e := 5) (show _ = some (rowV (leN n k).length (some (r2, k, []))) from by rw [leN_len]; rfl) ⟨by simp [leN_len], by simp [leN_len]⟩ (fun p hp => .inl (by rw [List.mem_singleton.1 hp]; simp)) rfl rfl rfl) ?_; refine HLm rfl (HLm rfl ?_); refine HL_nil (hK21 _ _ _ _ ?_); refine HC_ret ?_; refine HQ_post rfl rfl (.cons (res_tmp rfl) (.cons (res_tmp rfl) .nil)) (fun w1 hs1 => ?_); refine ⟨?_, hs1.keep⟩; rw [hlr]; rfl
      skip)
   skip)
end Go.Proofs.YtlcbfphioeppaaaGreatDoor
namespace Go.Proofs.YtlcbfphioeppaaaGreatDoor
set_option linter.all false
open Go.SL Go.RowKit Go.Shelf
theorem div_succ (n d i : Nat) : n / d ^ (i + 1) = n / d ^ i / d := by rw [Nat.pow_succ, Nat.div_div_eq_div_mul]
theorem leN_snocV (n i : Nat) : (leN n (i + 1)).map bV = (leN n i).map bV ++ [bV (UInt8.ofNat (n / 256 ^ i % 256))] := by rw [leN_snoc]; simp
set_option maxRecDepth 10000 in
theorem P_ref_Le {n : Nat} (hn : n < 18446744073709551616) (k : Int) : Pure Tryz.prog 129 [uV n, .int .i64 k].toArray (resS (leR n k)) := by
  refine pure_of_HC Tryz.func129 rfl rfl fun w => ?_; refine HC_seq fun K1 hK1 => HC_region ?_; refine HLm rfl (HLm rfl ?_); refine HL_nil (hK1 _ _ _ _ ?_); refine HC_seq fun K2 hK2 => ?_; refine HC_seq fun K3 hK3 => HC_region ?_; refine HLm rfl (HLp rfl (HLm rfl ?_))
  refine HL_case 10 rfl (fun hb4 => ?_) (fun hb4 => ?_) <;> (try simp only [ZZ] at hb4) <;> first | (refine HLm rfl ?_) | (refine HL_skip rfl rfl rfl ?_)
  all_goals first
    | (refine HLp rfl ?_)
    | (refine HL_skip rfl rfl rfl ?_)
  all_goals first
    | (refine HL_r rfl rfl rfl rfl (R_pickT rfl rfl) ?_)
    | (refine HL_r rfl rfl rfl rfl (R_pickF rfl rfl) ?_)
  all_goals refine HLm rfl ?_
  all_goals first
    | (refine HL_skip rfl rfl rfl ?_)
    | (refine HL_case 14 rfl (fun hb6 => ?_) (fun hb6 => ?_) <;> (try simp only [ZZ] at hb6) <;> first | (refine HLm rfl ?_) | (refine HL_skip rfl rfl rfl ?_))
  all_goals first
    | (refine HL_callP rfl rfl rfl (enters_of Tryz.func195 (by kernel_rfl) rfl) (P_ref_Be hn) ?_)
    | (refine HL_skip rfl rfl rfl ?_)
  all_goals first
    | (refine HL_r rfl rfl rfl rfl (R_lenBs rfl rfl) ?_)
    | (refine HL_skip rfl rfl rfl ?_)
  all_goals first
    | (refine HLm rfl ?_)
    | (refine HL_skip rfl rfl rfl ?_)
  all_goals first
    | (refine HLp rfl ?_)
    | (refine HL_skip rfl rfl rfl ?_)
  all_goals first
    | (refine HL_r rfl rfl rfl rfl (R_pickT rfl rfl) ?_)
    | (refine HL_r rfl rfl rfl rfl (R_pickF rfl rfl) ?_)
  all_goals refine HL_nil ?_
  all_goals (
   refine hK3 _ _ _ _ ?_; refine HC_cond rfl (fun h11 => ?_) (fun h11 => ?_)
   · try exact Bool.noConfusion h11
     try simp only [ZZ] at h11
     refine HC_seq fun K12 hK12 => HC_region ?_; refine HLm rfl (HLm rfl ?_); refine HL_nil (hK12 _ _ _ _ ?_); refine HC_ret (HQ_thenR ?_); refine HQ_post rfl rfl (.cons (res_tmp rfl) (.cons (res_tmp rfl) .nil)) (fun w1 hs1 => ?_); refine ⟨?_, hs1.keep⟩; rw [show leR n k = ([], 1) from by unfold leR; rw [if_pos (by omega)]]; rfl
   · try exact Bool.noConfusion h11
     all_goals try simp only [ZZ] at h11
     all_goals (
      refine HC_skip (hK2 _ _ _ _ ?_); refine HC_seq fun K13 hK13 => HC_region ?_; refine HLm rfl ?_; refine HL_nil (hK13 _ _ _ _ ?_); refine HC_seq fun K14 hK14 => ?_; refine HC_seq fun K15 hK15 => ?_
      have hk1 : 1 ≤ k ∧ k ≤ 8 ∧ ((beN n).length : Int) ≤ k := by omega
      have hlr : leR n k = (leN n k.toNat, 0) := by unfold leR; rw [if_neg (by omega)]
      obtain ⟨k, rfl⟩ : ∃ j : Nat, k = j := ⟨k.toNat, by omega⟩
      rw [Int.toNat_natCast] at hlr; refine HC_region (HLm rfl ?_); refine HL_nil (hK15 _ _ _ _ ?_); refine HC_block ?_; refine HC_loop (σ := Nat × List Value × Row) (fun q => q.1 ≤ k ∧ q.2.1 = (leN n q.1).map bV ∧ rowOk 1 q.1 q.2.1 q.2.2) (fun q => [(0, uV (n / 256 ^ q.1)), (1, .int .i64 (k : Int)), (6, rowV q.1 q.2.2), (7, .int .i64 (q.1 : Int))]) (fun q => rowL 5 q.2.1 q.2.2) (fun _ _ _ => True) (fun q => k - q.1) (0, [], none) ⟨by simp, rfl, ⟨rfl, rfl⟩⟩ (.cons (by simp only [Nat.pow_zero, Nat.div_one]; rfl) (.cons rfl (.cons rfl (.cons rfl .nil)))) (List.nil_sublist _) (fun _ _ h => h) ?_; rintro ⟨i, xs, row⟩ ⟨hi, hxs, hrow⟩; simp only at hi hxs hrow ⊢; refine HC_seq fun K16 hK16 => ?_; refine HC_seq fun K17 hK17 => HC_region ?_; refine HLm rfl (HLm rfl (HLp rfl ?_)); refine HL_nil (hK17 _ _ _ _ ?_); refine HC_cond rfl (fun h18 => ?_) (fun h18 => ?_)
      · try exact Bool.noConfusion h18
        try simp only [ZZ] at h18
        refine HC_skip (hK16 _ _ _ _ ?_); refine HC_seq fun K19 hK19 => HC_block ?_; refine HC_seq fun K20 hK20 => HC_region ?_; refine HLm rfl (HLm rfl ?_); refine HLp rfl (HL_as (show _ = uV (n / 256 ^ i % 256) from congrArg (Value.int .u64) (rem_nat _ 256)) ?_); refine HLp rfl (HL_as (show _ = bV (UInt8.ofNat (n / 256 ^ i % 256)) from byte_of (Nat.mod_lt _ (by decide))) ?_); refine HL_buildSlice (vs := [_]) (zs := [_]) (r := [_]) rfl rfl rfl rfl rfl rfl rfl rfl rfl (by show (madeCells #[_] _).toList = _; rw [made_one]; exact rfl) rfl fun r1 => ?_; refine HL_appendRow (L0 := [_]) (xs := xs) (row := row) (n := i) (sz := 1) (b := 1) (news := [_]) (List.perm_append_comm (l₁ := [_])) rfl rfl rfl rfl (known_L (k := 0) rfl) rfl rfl rfl rfl rfl (by decide) rfl rfl rfl (by decide) hrow (by omega) (by omega) fun ra cap sp hra => ?_; refine HLm rfl ?_; refine HL_nil (hK20 _ _ _ _ ?_); refine HC_region (HLm rfl (HLp rfl ?_)); refine HL_as (show _ = uV (n / 256 ^ (i + 1)) from congrArg (Value.int .u64) (by rw [div_succ]; exact quoU (by have := Nat.div_le_self n (256 ^ i); omega))) ?_; refine HLm rfl (HL_nil ?_); refine HQ_blockN (hK19 _ _ _ _ ?_); refine HC_region (HLm rfl ?_); refine HLp rfl (HL_wrap_i64 (by omega) (by omega) ?_); refine HLm rfl (HL_nil (HQ_then ?_)); refine HQ_sel [0] (L' := [_]) (by decide) rfl ?_; exact HQ_again (i + 1, xs ++ [bV (UInt8.ofNat (n / 256 ^ i % 256))], some (ra, cap, sp)) ⟨by simp only; omega, by simp only; rw [leN_snocV, hxs], hra⟩ (by simp only; omega) (.cons rfl (.cons rfl (.cons rfl (.cons rfl .nil)))) (List.Sublist.refl _) (fun _ _ h => h)
      · try exact Bool.noConfusion h18
        try simp only [ZZ] at h18
        refine HC_exit (HQ_thenE ?_); refine HQ_thenE (HQ_blockE (hK14 _ _ _ _ ?_)); refine HC_seq fun K21 hK21 => ?_
        have hik : k = i := by omega
        subst hik; refine HC_region (HLm rfl ?_); refine HL_r rfl rfl rfl rfl (R_bytesStr (b := leN n k) (row := row) (e := 5) (show _ = some (rowV (leN n k).length row) from by rw [leN_len]; rfl) (by rw [leN_len, ← hxs]; exact hrow) (fun p hp => .inl (by rw [hxs]; exact hp)) rfl rfl rfl) ?_; refine HLm rfl (HLm rfl ?_); refine HL_nil (hK21 _ _ _ _ ?_); refine HC_ret ?_; refine HQ_post rfl rfl (.cons (res_tmp rfl) (.cons (res_tmp rfl) .nil)) (fun w1 hs1 => ?_); refine ⟨?_, hs1.keep⟩; rw [hlr]; rfl
      skip)
   skip)
end Go.Proofs.YtlcbfphioeppaaaGreatDoor
/-! ### Bits, 8 a byte; numbers, the lowest byte first -/
namespace Go.SL
set_option linter.all false
open Go Go.RowKit Go.Shelf
/-- A number's bytes, the lowest ones first. -/
def leW (w : List Nat) (n : Nat) : List UInt8 := (beD w 32).reverse.take n
theorem leW_len (w : List Nat) {n : Nat} (h : n ≤ 32) : (leW w n).length = n := by
  unfold leW; rw [List.length_take, List.length_reverse, beD_len]; omega
/-- The number of bytes. -/
def padZ (s : List UInt8) : List UInt8 := s ++ List.replicate (32 - s.length) 0
theorem padZ_len {s : List UInt8} (h : s.length ≤ 32) : (padZ s).length = 32 := by unfold padZ; rw [List.length_append, List.length_replicate]; omega
/-! bits -/
def packS (l : List Bool) (N : Nat) : Nat → List UInt8
  | 0 => List.replicate N 0
  | i + 1 => if l.getD i false = true then (packS l N i).set (i / 8) (UInt8.ofNat (((packS l N i).getD (i / 8) 0).toNat ||| 2 ^ (i % 8))) else packS l N i
theorem packS_len (l : List Bool) (N : Nat) : ∀ i, (packS l N i).length = N
  | 0 => by rw [packS, List.length_replicate]
  | i + 1 => by
    rw [packS]
    split
    · rw [List.length_set, packS_len l N i]
    · exact packS_len l N i
theorem or_lt {x m : Nat} (hx : x < 256) (hm : m < 8) : x ||| 2 ^ m < 256 := Nat.or_lt_two_pow (n := 8) hx (Nat.pow_lt_pow_right (by decide) hm)
theorem packS_bit (l : List Bool) (N : Nat) : ∀ (i q j : Nat), i ≤ 8 * N → q < N → j < 8 → ((packS l N i).getD q 0).toNat.testBit j = (decide (8 * q + j < i) && l.getD (8 * q + j) false)
  | 0, q, j, _, hq, hj => by
    rw [packS, List.getD_eq_getElem?_getD, List.getElem?_replicate, if_pos hq]
    simp
  | i + 1, q, j, hi, hq, hj => by
    have ih := packS_bit l N i q j (by omega) hq hj
    rw [packS]
    split
    · rename_i hl
      rw [List.getD_eq_getElem?_getD, List.getElem?_set, packS_len]
      by_cases hqi : i / 8 = q
      · subst hqi
        rw [if_pos rfl, if_pos (by omega)]
        show (UInt8.ofNat _).toNat.testBit j = _
        rw [UInt8.toNat_ofNat', Nat.mod_eq_of_lt (or_lt (u8_lt _) (Nat.mod_lt _ (by decide))), Nat.testBit_or, ih, Nat.testBit_two_pow]
        by_cases hij : i % 8 = j
        · have e : 8 * (i / 8) + j = i := by omega
          rw [e, hl, decide_eq_true hij, decide_eq_true (Nat.lt_succ_self i)]
          simp
        · rw [decide_eq_false hij, Bool.or_false]
          congr 1
          rw [decide_eq_decide]; omega
      · rw [if_neg hqi, ← List.getD_eq_getElem?_getD, ih]
        congr 1
        rw [decide_eq_decide]; omega
    · rename_i hl
      rw [ih]
      by_cases hij : 8 * q + j = i
      · rw [hij, decide_eq_false (Nat.lt_irrefl i), decide_eq_true (Nat.lt_succ_self i)]
        simp at hl ⊢; exact hl
      · congr 1
        rw [decide_eq_decide]; omega
def packB (l : List Bool) : List UInt8 := packS l ((l.length + 7) / 8) l.length
theorem packB_len (l : List Bool) : (packB l).length = (l.length + 7) / 8 := packS_len _ _ _
end Go.SL
namespace Go.Proofs.YtlcbfphioeppaaaGreatDoor
set_option linter.all false
open Go.SL Go.RowKit Go.Shelf
/-! ### Values as bytes, in plain Lean -/
mutual
def wV : Vl → Nat
  | .mk _ _ _ _ bits _ items _ _ => 1 + bits.length / 8 + wL items
def wL : List Vl → Nat
  | [] => 0
  | x :: xs => wV x + wL xs
end
theorem valL_ge : ∀ (l : List Vl) (most deep n : Int), n ≤ valL l most deep n
  | [], _, _, n => by rw [valL]; exact Int.le_refl _
  | x :: xs, most, deep, n => by
    rw [valL]
    split
    · have h1 := (valN_le x (most - n) (deep - 1) (by omega)).1
      have h2 := valL_ge xs most deep (n + valN x (most - n) (deep - 1))
      omega
    · exact Int.le_refl _
theorem valN_w (v : Vl) : ∀ most deep : Int, valN v most deep ≤ most → valN v most deep = (wV v : Nat) := by
  induction v using Vl.ind with
  | h a b c d bits pb items pi pick ih =>
    intro most deep h; rw [valN] at h ⊢
    split at h
    · omega
    · rename_i h1
      rw [if_neg h1]
      have key : ∀ l : List Vl, (∀ x ∈ l, x ∈ items) → ∀ n : Int, valL l most deep n ≤ most → valL l most deep n = n + (wL l : Nat) := by
        intro l
        induction l with
        | nil => intro _ n _; rw [valL, wL]; simp
        | cons x xs ihl =>
          intro hs n hn
          have hnm : n ≤ most := Int.le_trans (valL_ge (x :: xs) most deep n) hn
          rw [valL] at hn ⊢; rw [if_pos hnm] at hn ⊢
          have h3 := ihl (fun y hy => hs y (List.mem_cons_of_mem _ hy)) _ hn
          have h4 := valL_ge xs most deep (n + valN x (most - n) (deep - 1))
          have h5 := ih x (hs x List.mem_cons_self) (most - n) (deep - 1) (by omega)
          rw [h3, h5, wL]
          first | omega | (push_cast; omega)
      rw [key items (fun _ h => h) _ h, wV]
      first | omega | (push_cast; omega)
theorem few_w {t : Ty} {v : Vl} (h : fewB t v = true) : wV v ≤ 150 := by
  unfold fewB at h
  rw [Bool.and_eq_true, decide_eq_true_eq, decide_eq_true_eq] at h
  have := valN_w v 150 9 h.2
  omega
/-- A row's bytes: what stands in the front, then the rest. -/
def rowF (head : Nat) : List (Ty × List UInt8) → List UInt8 → List UInt8 → List UInt8
  | [], f, th => f ++ th
  | (x, s) :: l, f, th => if isFix x then rowF head l (f ++ s) th else rowF head l (f ++ (leR (head + th.length) 4).1) (th ++ s)
def begT (x : Ty) : Int := if isFix x then sizT x else 4
def begL : List Ty → Int
  | [] => 0
  | x :: l => begT x + begL l
mutual
def putV : Vl → Ty → List UInt8
  | .mk a b c d bits _ items _ pick, t =>
    if t.k = 1 then leW [a, b, c, d] t.n.toNat else if t.k = 2 then leW [a, b, c, d] 1 else if t.k = 5 then packB bits else if t.k = 6 then packB (bits ++ [true])
    else if t.k = 8 then UInt8.ofNat pick.toNat :: ((putL items t.k pick t.ins 0).headD (default, [])).2
    else rowF (begL ((putL items t.k pick t.ins 0).map Prod.fst)).toNat (putL items t.k pick t.ins 0) [] []
def putL : List Vl → Int → Int → List Ty → Nat → List (Ty × List UInt8)
  | [], _, _, _, _ => []
  | x :: xs, k, pick, ins, i => (inTy k pick ins i, putV x (inTy k pick ins i)) :: putL xs k pick ins (i + 1)
end
theorem leR4_len (n : Nat) : (leR n 4).1.length ≤ 4 := by
  unfold leR
  split
  · exact Nat.zero_le _
  · rw [leN_len]; decide
theorem rowF_len (head : Nat) : ∀ (l : List (Ty × List UInt8)) (f th : List UInt8), (rowF head l f th).length ≤ f.length + th.length + (l.map fun p => p.2.length + 4).sum
  | [], f, th => by rw [rowF, List.length_append]; simp
  | (x, s) :: l, f, th => by
    rw [rowF, List.map_cons, List.sum_cons]
    have h4 := leR4_len (head + th.length)
    split
    · have := rowF_len head l (f ++ s) th
      rw [List.length_append] at this
      simp only
      omega
    · have := rowF_len head l (f ++ (leR (head + th.length) 4).1) (th ++ s)
      rw [List.length_append, List.length_append] at this
      simp only
      omega
theorem putV_len (v : Vl) : ∀ t : Ty, (putV v t).length + 4 ≤ 40 * wV v := by
  induction v using Vl.ind with
  | h a b c d bits pb items pi pick ih =>
    intro t
    have key : ∀ (l : List Vl) (i : Nat), (∀ x ∈ l, x ∈ items) → ((putL l t.k pick t.ins i).map fun p => p.2.length + 4).sum ≤ 40 * wL l := by
      intro l
      induction l with
      | nil => intro i _; rw [putL, wL]; exact Nat.zero_le _
      | cons x xs ihl =>
        intro i hs; rw [putL, wL, List.map_cons, List.sum_cons]
        have h1 := ih x (hs x List.mem_cons_self) (inTy t.k pick t.ins i)
        have h2 := ihl (i + 1) fun y hy => hs y (List.mem_cons_of_mem _ hy)
        simp only at h1 ⊢; omega
    have hk := key items 0 fun _ h => h
    have hle : ∀ n, (leW [a, b, c, d] n).length ≤ 32 := fun n => by unfold leW; rw [List.length_take, List.length_reverse, beD_len]; omega
    rw [putV, wV]
    split
    · have := hle t.n.toNat; omega
    · split
      · have := hle 1; omega
      · split
        · rw [packB_len]; omega
        · split
          · rw [packB_len, List.length_append]; simp only [List.length_cons, List.length_nil]; omega
          · split
            · rw [List.length_cons]
              cases items with
              | nil => rw [putL]; simp only [List.headD_nil, List.length_nil]; omega
              | cons x xs =>
                rw [putL, List.headD_cons]
                have h1 := ih x List.mem_cons_self (inTy t.k pick t.ins 0)
                rw [wL]
                simp only
                omega
            · have h1 := rowF_len (begL ((putL items t.k pick t.ins 0).map Prod.fst)).toNat (putL items t.k pick t.ins 0) [] []
              simp only [List.length_nil] at h1; omega
def putR (t : Ty) (v : Vl) : List UInt8 × Int := if fitsT t v ≠ 0 then ([], fitsT t v) else if (putV v t).length > 65536 then ([], 5) else (putV v t, 0)
end Go.Proofs.YtlcbfphioeppaaaGreatDoor
/-! ### Keccak, lane by lane -/
namespace Go.SL
set_option linter.all false
open Go
def SOk (n : Nat) (a : List Nat) : Prop := a.length = n ∧ ∀ x ∈ a, x < 18446744073709551616
theorem SOk.get {n : Nat} {a : List Nat} (h : SOk n a) (j : Nat) : a.getD j 0 < 18446744073709551616 := by
  by_cases hj : j < a.length
  · have : a.getD j 0 ∈ a := by simp [List.getD_eq_getElem?_getD, hj]
    exact h.2 _ this
  · rw [List.getD_eq_getElem?_getD, List.getElem?_eq_none (by omega)]; decide
theorem SOk.set {n : Nat} {a : List Nat} (h : SOk n a) (j : Nat) {x : Nat} (hx : x < 18446744073709551616) : SOk n (a.set j x) :=
  ⟨by rw [List.length_set, h.1], fun y hy => (List.mem_or_eq_of_mem_set hy).elim (h.2 y) fun e => e ▸ hx⟩
def rotN (n k : Nat) : Nat := n * 2 ^ (k % 64) % 18446744073709551616 ||| n / 2 ^ (64 - k % 64)
theorem or_lt64 {a b : Nat} (ha : a < 18446744073709551616) (hb : b < 18446744073709551616) : a ||| b < 18446744073709551616 := Nat.or_lt_two_pow (n := 64) ha hb
theorem xor_lt64 {a b : Nat} (ha : a < 18446744073709551616) (hb : b < 18446744073709551616) : a ^^^ b < 18446744073709551616 := Nat.xor_lt_two_pow (n := 64) ha hb
theorem and_lt64 {a b : Nat} (hb : b < 18446744073709551616) : a &&& b < 18446744073709551616 := Nat.lt_of_le_of_lt Nat.and_le_right hb
theorem rotN_lt {n : Nat} (hn : n < 18446744073709551616) (k : Nat) : rotN n k < 18446744073709551616 :=
  or_lt64 (Nat.mod_lt _ (by decide)) (Nat.lt_of_le_of_lt (Nat.div_le_self _ _) hn)
def cS (a : List Nat) : Nat → List Nat
  | 0 => [0, 0, 0, 0, 0]
  | i + 1 => (cS a i).set (i % 5) ((cS a i).getD (i % 5) 0 ^^^ a.getD i 0)
theorem cS_ok {a : List Nat} (h : SOk 25 a) : ∀ i, SOk 5 (cS a i)
  | 0 => ⟨rfl, by simp [cS]⟩
  | i + 1 => (cS_ok h i).set _ (xor_lt64 ((cS_ok h i).get _) (h.get _))
def mS (c a : List Nat) : Nat → List Nat
  | 0 => a
  | i + 1 => (mS c a i).set i ((mS c a i).getD i 0 ^^^ (c.getD ((i % 5 + 5 - 1) % 5) 0 ^^^ rotN (c.getD ((i % 5 + 1) % 5) 0) 1))
theorem mS_ok {c a : List Nat} (hc : SOk 5 c) (h : SOk 25 a) : ∀ i, SOk 25 (mS c a i)
  | 0 => h
  | i + 1 => (mS_ok hc h i).set _ (xor_lt64 ((mS_ok hc h i).get _) (xor_lt64 (hc.get _) (rotN_lt (hc.get _) 1)))
def mixA (a : List Nat) : List Nat := mS (cS a 25) a 25
theorem mixA_ok {a : List Nat} (h : SOk 25 a) : SOk 25 (mixA a) := mS_ok (cS_ok h 25) h 25
def z25 : List Nat := [0, 0, 0, 0, 0, 0, 0, 0, 0, 0, 0, 0, 0, 0, 0, 0, 0, 0, 0, 0, 0, 0, 0, 0, 0]
set_option maxRecDepth 4000 in
theorem z25_ok : SOk 25 z25 := ⟨rfl, by simp [z25]⟩
def rS (a b : List Nat) : Nat → List Nat
  | 0 => z25
  | i + 1 => (rS a b i).set (i / 5 + 5 * ((2 * (i % 5) + 3 * (i / 5)) % 5)) (rotN (a.getD i 0) (b.getD i 0))
theorem rS_ok {a : List Nat} (b : List Nat) (h : SOk 25 a) : ∀ i, SOk 25 (rS a b i)
  | 0 => z25_ok
  | i + 1 => (rS_ok b h i).set _ (rotN_lt (h.get _) _)
def chiN (b : List Nat) (i : Nat) : Nat := b.getD i 0 ^^^ ((18446744073709551615 ^^^ b.getD (i - i % 5 + (i % 5 + 1) % 5) 0) &&& b.getD (i - i % 5 + (i % 5 + 2) % 5) 0)
theorem chiN_lt {b : List Nat} (h : SOk 25 b) (i : Nat) : chiN b i < 18446744073709551616 := xor_lt64 (h.get _) (and_lt64 (h.get _))
def xS (b a : List Nat) : Nat → List Nat
  | 0 => a
  | i + 1 => (xS b a i).set i (chiN b i)
theorem xS_ok {b a : List Nat} (hb : SOk 25 b) (h : SOk 25 a) : ∀ i, SOk 25 (xS b a i)
  | 0 => h
  | i + 1 => (xS_ok hb h i).set _ (chiN_lt hb _)
def iotaA (a : List Nat) (n : Nat) : List Nat := a.set 0 (a.getD 0 0 ^^^ n)
def roundA (by_ a : List Nat) (n : Nat) : List Nat := iotaA (xS (rS (mixA a) by_ 25) (mixA a) 25) n
theorem iotaA_ok {a : List Nat} (h : SOk 25 a) {n : Nat} (hn : n < 18446744073709551616) : SOk 25 (iotaA a n) := h.set _ (xor_lt64 (h.get _) hn)
theorem roundA_ok {a : List Nat} (by_ : List Nat) (h : SOk 25 a) {n : Nat} (hn : n < 18446744073709551616) : SOk 25 (roundA by_ a n) :=
  iotaA_ok (xS_ok (rS_ok by_ (mixA_ok h) 25) (mixA_ok h) 25) hn
def turnsL : List Nat := [0, 1, 62, 28, 27, 36, 44, 6, 55, 20, 3, 10, 43, 25, 39, 41, 45, 15, 21, 8, 18, 2, 61, 56, 14]
def numsL : List Nat := [0x0000000000000001, 0x0000000000008082, 0x800000000000808A, 0x8000000080008000, 0x000000000000808B, 0x0000000080000001,
  0x8000000080008081, 0x8000000000008009, 0x000000000000008A, 0x0000000000000088, 0x0000000080008009, 0x000000008000000A,
  0x000000008000808B, 0x800000000000008B, 0x8000000000008089, 0x8000000000008003, 0x8000000000008002, 0x8000000000000080,
  0x000000000000800A, 0x800000008000000A, 0x8000000080008081, 0x8000000000008080, 0x0000000080000001, 0x8000000080008008]
set_option maxRecDepth 10000 in
theorem numsL_ok : SOk 24 numsL := ⟨rfl, by decide +kernel⟩
def permS (a : List Nat) : Nat → List Nat
  | 0 => a
  | i + 1 => roundA turnsL (permS a i) (numsL.getD i 0)
theorem permS_ok {a : List Nat} (h : SOk 25 a) : ∀ i, SOk 25 (permS a i)
  | 0 => h
  | i + 1 => roundA_ok turnsL (permS_ok h i) (numsL_ok.get i)
def permA (a : List Nat) : List Nat := permS a 24
theorem permA_ok {a : List Nat} (h : SOk 25 a) : SOk 25 (permA a) := by unfold permA; exact permS_ok h 24
def abS (a : List Nat) (s : List UInt8) : Nat → List Nat
  | 0 => a
  | i + 1 => (abS a s i).set (i / 8) ((abS a s i).getD (i / 8) 0 ^^^ (s.getD i 0).toNat * 2 ^ (i % 8 * 8))
theorem abS_ok {a : List Nat} (s : List UInt8) (h : SOk 25 a) : ∀ i, SOk 25 (abS a s i)
  | 0 => h
  | i + 1 => (abS_ok s h i).set _ (xor_lt64 ((abS_ok s h i).get _) (sh_lt (u8_lt _) (by omega)))
def sumS (t : List UInt8) : Nat → List Nat
  | 0 => z25
  | j + 1 => permA (abS (sumS t j) (t.drop (136 * j)) 136)
theorem sumS_ok (t : List UInt8) : ∀ j, SOk 25 (sumS t j)
  | 0 => z25_ok
  | j + 1 => by unfold sumS; exact permA_ok (abS_ok _ (sumS_ok t j) 136)
def padL (n : Nat) : List UInt8 := if 136 - n % 136 = 1 then [129] else 1 :: (List.replicate (134 - n % 136) 0 ++ [128])
theorem padL_len (n : Nat) : (padL n).length = 136 - n % 136 := by
  unfold padL; split
  · simp; omega
  · simp; omega
def outL (a : List Nat) : Nat → List UInt8
  | 0 => []
  | i + 1 => outL a i ++ [UInt8.ofNat (a.getD (i / 8) 0 / 2 ^ (i % 8 * 8) % 256)]
theorem outL_len (a : List Nat) : ∀ i, (outL a i).length = i
  | 0 => rfl
  | i + 1 => by simp [outL, outL_len a i]
def kec (s : List UInt8) : List UInt8 := outL (sumS (s ++ padL s.length) ((s ++ padL s.length).length / 136)) 32
theorem kec_len (s : List UInt8) : (kec s).length = 32 := outL_len _ _
theorem kec_blocks (s : List UInt8) : (s ++ padL s.length).length % 136 = 0 := by rw [List.length_append, padL_len]; omega
end Go.SL
namespace Go.Proofs.YtlcbfphioeppaaaGreatDoor
set_option linter.all false
open Go.SL Go.RowKit Go.Shelf
set_option maxRecDepth 10000 in
theorem P_rot {n k : Nat} (hn : n < 18446744073709551616) (hk : k < 9223372036854775808) : Pure Tryz.prog 188 [uV n, .int .i64 (k : Int)].toArray (uV (rotN n k)) := by
  refine pure_of_HC Tryz.func188 rfl rfl fun w => ?_
  have hk6 : k % 64 < 64 := Nat.mod_lt _ (by decide)
  refine HC_seq fun K1 hK1 => HC_region ?_; refine HLm rfl ?_; refine HL_nil (hK1 _ _ _ _ ?_); refine HC_seq fun K2 hK2 => HC_region ?_; refine HLm rfl (HLp rfl (HL_as (show _ = uV k from congrArg (Value.int .u64) (wrap_u64 (by omega) (by omega))) ?_)); refine HL_r rfl rfl rfl rfl (R_bits64 (op := .and) (b := ((k % 64 : Nat) : Int)) rfl rfl rfl (by omega) (by decide) (congrArg (fun z : Nat => (z : Int)) (Nat.and_two_pow_sub_one_eq_mod k 6))) ?_; refine HLm rfl ?_; refine HL_nil (hK2 _ _ _ _ ?_); refine HC_seq fun K3 hK3 => HC_region ?_; refine HLm rfl (HLm rfl (HL_r rfl rfl rfl rfl (R_shl (n := k % 64) (b := ((n * 2 ^ (k % 64) % 18446744073709551616 : Nat) : Int)) rfl rfl rfl (show _ ≤ 64 from by omega) (wrapU _)) ?_)); refine HLm rfl (HLm rfl (HLp rfl ?_)); refine HL_as (show _ = uV (64 - k % 64) from congrArg (Value.int .u64) (by rw [wrap_u64 (by omega) (by omega)]; omega)) ?_; refine HL_r rfl rfl rfl rfl (R_shr (n := 64 - k % 64) rfl rfl rfl (show _ ≤ 64 from by omega) (by omega) (shr_nat _ _)) ?_; refine HL_r rfl rfl rfl rfl (R_bits64 (op := .or) (b := ((rotN n k : Nat) : Int)) rfl rfl rfl (Nat.mod_lt _ (by decide)) (Nat.lt_of_le_of_lt (Nat.div_le_self _ _) hn) rfl) ?_; refine HLm rfl ?_; refine HL_nil (hK3 _ _ _ _ ?_); refine HC_ret ?_; refine HQ_post rfl rfl (.cons (res_tmp rfl) .nil) (fun w1 hs1 => ?_); exact ⟨rfl, hs1.keep⟩
set_option maxRecDepth 10000 in
theorem P_each : Pure Tryz.prog 187 [].toArray (.func (.func 215) #[] #[]) := by
  refine pure_of_HC Tryz.func187 rfl rfl fun w => ?_; refine HC_seq fun K1 hK1 => HC_region ?_; refine HLm rfl ?_; refine HL_nil (hK1 _ _ _ _ ?_); refine HC_seq fun K2 hK2 => HC_region ?_; refine HLm rfl ?_; refine HL_nil (hK2 _ _ _ _ ?_); refine HC_ret ?_; refine HQ_post rfl rfl (.cons (res_tmp rfl) .nil) (fun w1 hs1 => ?_); exact ⟨rfl, hs1.keep⟩
def eachAt (i : Nat) : List Value := [.int .i64 (i : Int), .agg [.int .i64 ((i % 5 : Nat) : Int), .int .i64 ((i / 5 : Nat) : Int)].toArray]
set_option maxRecDepth 10000 in
theorem I_each : Iter Tryz.prog 215 [] [] 0 (nxN eachAt 25) (finN 25) := by
  refine iter_of_HC Tryz.func215 rfl rfl fun q xids w2 XI XF hY => ?_; refine HC_seq fun K1 hK1 => HC_region ?_; refine HLm rfl ?_; refine HL_nil (hK1 _ _ _ _ ?_); refine HC_block (HC_loop (σ := Nat) (fun i => i ≤ 25) (fun i => [(0, .func (.yield q) #[] #[]), (3, .int .i64 (i : Int))]) (fun _ => []) (fun i => XI i) (fun i => 25 - i) 0 (Nat.zero_le _) (.cons rfl (.cons rfl .nil)) (List.nil_sublist _) (fun _ _ h => h) ?_); intro i hi; refine HC_seq fun K2 hK2 => HC_region ?_; refine HLp rfl ?_; refine HL_nil (hK2 _ _ _ _ ?_); refine HC_seq fun K3 hK3 => ?_; refine HC_cond rfl (fun h4 => ?_) (fun h4 => ?_)
  · try exact Bool.noConfusion h4
    try simp only [ZZ] at h4
    refine HC_skip (hK3 _ _ _ _ ?_); refine HC_seq fun K5 hK5 => HC_block ?_; refine HC_seq fun K6 hK6 => HC_region ?_; refine HLm rfl (HLm rfl ?_); refine HL_nil (hK6 _ _ _ _ ?_); refine HC_seq fun K7 hK7 => HC_region ?_; refine HLm rfl (HLm rfl ?_); refine HLm rfl (HLp rfl (HL_as (show _ = Value.int .i64 ((i % 5 : Nat) : Int) from congrArg (Value.int .i64) (rem_nat _ 5)) ?_)); refine HLm rfl (HLp rfl ?_); refine HL_as (show _ = Value.int .i64 ((i / 5 : Nat) : Int) from congrArg (Value.int .i64) (by rw [quo_i64 (by omega) (by omega) (by omega)]; omega)) ?_; refine HL_r rfl rfl rfl rfl (R_build (r := [_, _]) rfl rfl) ?_; refine HL_yield (XT := XI (i + 1)) (XF := XF) rfl rfl rfl rfl (hY i (eachAt i) (i + 1) ⟨by omega, rfl, rfl⟩) ?_ ?_
    all_goals refine HLp rfl ?_
    all_goals refine HL_nil ?_
    all_goals (
     refine hK7 _ _ _ _ ?_; refine HC_cond rfl (fun h8 => ?_) (fun h8 => ?_)
     · try exact Bool.noConfusion h8
       all_goals try simp only [ZZ] at h8
       all_goals (
        refine HC_ret (HQ_blockR (HQ_thenR ?_)); refine HQ_thenR (HQ_blockR ?_); refine HQ_post rfl rfl .nil (fun w1 hs1 => ?_)
        obtain ⟨xs1, hx1⟩ := hs1.now
        exact ⟨⟨_, rfl⟩, hs1.keep, .inr ⟨_, hx1⟩⟩
        skip)
     · try exact Bool.noConfusion h8
       all_goals try simp only [ZZ] at h8
       all_goals (
        refine HC_skip (HQ_blockN (hK5 _ _ _ _ ?_)); refine HC_region (HLp rfl (HL_wrap_i64 (by omega) (by omega) ?_)); refine HLm rfl (HL_nil (HQ_then ?_)); exact HQ_again (i + 1) (by omega) (by omega) (.cons rfl (.cons rfl .nil)) (List.nil_sublist _) (fun _ _ h => h)
        skip)
     skip)
  · try exact Bool.noConfusion h4
    try simp only [ZZ] at h4
    refine HC_exit (HQ_thenE ?_); refine HQ_thenE (HQ_blockE ?_); refine HQ_postN rfl rfl .nil (fun w1 hs1 => ?_)
    obtain ⟨xs1, hx1⟩ := hs1.now
    exact ⟨⟨_, rfl⟩, hs1.keep, .inl ⟨i, _, (by show i = 25; omega), hx1⟩⟩
end Go.Proofs.YtlcbfphioeppaaaGreatDoor
namespace Go.Proofs.YtlcbfphioeppaaaGreatDoor
set_option linter.all false
open Go.SL Go.RowKit Go.Shelf
def kO (a : List Nat) : Obj := .cells (a.map uV).toArray 73 (0, 0)
def cO (c : List Nat) : Obj := .cells (c.map uV).toArray 181 (0, 0)
set_option maxRecDepth 10000 in
theorem M_columns {a : List Nat} (ha : SOk 25 a) (r : Nat) : PureM Tryz.prog 186 [.pointer (some ⟨r, 0, none⟩)].toArray (.tuple #[]) r (kO a) (kO (mixA a)) := by
  refine pureM_of_HC Tryz.func186 rfl rfl fun w => ?_
  have hal := ha.1
  obtain ⟨cc, hcc⟩ : ∃ c, c = cS a 25 := ⟨_, rfl⟩
  have hc : SOk 5 cc := by rw [hcc]; exact cS_ok ha 25
  have hmx : mixA a = mS cc a 25 := by rw [hcc]; rfl
  refine HC_seq fun K1 hK1 => HC_region ?_; refine HL_box (cs := #[_]) rfl rfl rfl rfl fun r1 => ?_; refine HL_nil (hK1 _ _ _ _ ?_); refine HC_seq fun K2 hK2 => HC_region ?_; refine HL_alloc (cs := ((cS a 0).map uV).toArray) rfl rfl rfl rfl fun r2 => ?_; refine HL_nil (hK2 _ _ _ _ ?_); refine HC_seq fun K3 hK3 => ?_; refine HC_seq fun K4 hK4 => HC_region ?_; refine HL_callP rfl rfl rfl (enters_of Tryz.func187 (by kernel_rfl) rfl) P_each ?_; refine HL_nil (hK4 _ _ _ _ ?_); refine HC_block ?_; refine HC_range (τ := Unit) (fun i (s : List Nat) => s = cS a i ∧ i ≤ 25) (fun s => [(r2, cO s)]) (fun _ _ => False) (fun _ => []) [(r1, _), (r, kO a)] (cS a 0) rfl rfl (enters_of Tryz.func215 (by kernel_rfl) rfl) I_each (by rintro _ _ _ ⟨_, rfl, _⟩; rfl) rfl (by simp) rfl ⟨rfl, by decide⟩ ?_ ?_ ?_
  · rintro q Xr Xb w3 i _ _ s ⟨hi, rfl, rfl⟩ ⟨hs, -⟩ Kr hKr
    have hsk : SOk 5 s := by rw [hs]; exact cS_ok ha i
    have hsl := hsk.1
    refine HC_seq fun K5 hK5 => HC_region ?_; refine HLm rfl ?_; refine HL_nil (hK5 _ _ _ _ ?_); refine HC_region (HL_alloc (cs := #[_, _]) rfl rfl rfl rfl fun r2 => ?_)
    refine HL_storeA (k := 0) (n := 2) (cs' := #[_, _]) (vs := #[_, _]) rfl rfl rfl rfl rfl rfl rfl (by exact Nat.le_of_ble_eq_true rfl) rfl (by first | (simp only [List.set_cons_zero, List.set_cons_succ]; exact rfl) | exact rfl) ?_; refine HL_nil ?_; refine hKr _ _ ?_; clear hKr; refine HC_block (HC_draw 11 (by kernel_rfl) (by kernel_rfl) ?_)
    refine HD_r rfl rfl rfl (R_indexA (j := 0) rfl rfl rfl rfl rfl (by first | decide | omega) (by first | (simp only [Nat.zero_add, Nat.reduceAdd, Nat.reduceMul, Nat.zero_mul, Nat.mul_one, Nat.add_zero]; exact rfl) | exact rfl)) ?_; refine HD_r rfl rfl rfl (R_load rfl (known_L (k := 0) rfl) rfl rfl) ?_; refine HD_r rfl rfl rfl (R_indexA (j := i % 5) (m := 1) (off' := i % 5) rfl rfl rfl rfl (by omega) (by omega) (by omega)) ?_; refine HD_r rfl rfl rfl (R_loadAt rfl (known_L (k := 1) rfl) rfl (mapU_get (by rw [hsl]; omega))) ?_; refine HD_r rfl rfl rfl (R_load rfl (known_R (k := 0) rfl) rfl rfl) ?_; refine HD_r rfl rfl rfl (R_move rfl) ?_; refine HD_r rfl rfl rfl (R_pure rfl rfl rfl) ?_; refine HD_r rfl rfl rfl (R_indexA (j := i) (m := 1) (off' := i) rfl rfl rfl rfl (by omega) (by omega) (by omega)) ?_; refine HD_r rfl rfl rfl (R_loadAt rfl (known_R (k := 1) rfl) rfl (mapU_get (by rw [hal]; omega))) ?_; refine HD_r rfl rfl rfl (R_bits64 (op := .xor) (b := ((s.getD (i % 5) 0 ^^^ a.getD i 0 : Nat) : Int)) rfl rfl rfl (hsk.get _) (ha.get _) rfl) ?_; refine HD_r rfl rfl rfl (R_indexA (j := i % 5) (m := 1) (off' := i % 5) rfl rfl rfl rfl (by omega) (by omega) (by omega)) ?_; refine HD_end ?_; refine HL_storeAt (k := 1) (off := i % 5) (xs := s.map uV) (ys := (cS a (i + 1)).map uV) rfl rfl rfl rfl rfl rfl (by rw [List.length_map, hsl]; omega) (set_mapU (by rw [hs]; rfl)) rfl ?_; refine HL_nil ?_; refine HQ_blockN (HQ_sel [1] (L' := [_]) (by decide) rfl ?_); exact HQ_round (cS a (i + 1)) ⟨rfl, by omega⟩ rfl
  · rintro D i s hfi ⟨hs, -⟩
    have hi25 : i = 25 := hfi
    subst hi25; rw [← hcc] at hs
    have hs := hs.symm
    subst hs; refine HQ_blockN (hK3 _ _ _ _ ?_); refine HC_seq fun K6 hK6 => HC_region ?_; refine HL_callP rfl rfl rfl (enters_of Tryz.func187 (by kernel_rfl) rfl) P_each ?_; refine HL_nil (hK6 _ _ _ _ ?_); refine HC_block (HC_sel [3, 0, 1, 2] (by decide) rfl ?_); refine HC_range (τ := Unit) (fun i (s : List Nat) => s = mS cc a i ∧ i ≤ 25) (fun s => [(r, kO s)]) (fun _ _ => False) (fun _ => []) [(D, _), (r2, cO cc), (r1, _)] (a) rfl rfl (enters_of Tryz.func215 (by kernel_rfl) rfl) I_each (by rintro _ _ _ ⟨_, rfl, _⟩; rfl) rfl (by simp) rfl ⟨rfl, by decide⟩ ?_ ?_ ?_
    · rintro q Xr Xb w3 i _ _ s ⟨hi, rfl, rfl⟩ ⟨hs, -⟩ Kr hKr
      have hsk : SOk 25 s := by rw [hs]; exact mS_ok hc ha i
      have hsl := hsk.1
      refine HC_seq fun K7 hK7 => HC_region ?_; refine HLm rfl ?_; refine HL_nil (hK7 _ _ _ _ ?_); refine HC_region (HL_alloc (cs := #[_, _]) rfl rfl rfl rfl fun r3 => ?_)
      refine HL_storeA (k := 0) (n := 2) (cs' := #[_, _]) (vs := #[_, _]) rfl rfl rfl rfl rfl rfl rfl (by exact Nat.le_of_ble_eq_true rfl) rfl (by first | (simp only [List.set_cons_zero, List.set_cons_succ]; exact rfl) | exact rfl) ?_; refine HL_nil ?_; refine hKr _ _ ?_; clear hKr; refine HC_block (HC_seq fun K8 hK8 => HC_region ?_)
      refine HL_r rfl rfl rfl rfl (R_indexA (j := 0) rfl rfl rfl rfl rfl (by first | decide | omega) (by first | (simp only [Nat.zero_add, Nat.reduceAdd, Nat.reduceMul, Nat.zero_mul, Nat.mul_one, Nat.add_zero]; exact rfl) | exact rfl)) ?_; refine HL_r rfl rfl rfl rfl (R_load rfl (known_L (k := 0) rfl) rfl rfl) ?_; refine HLm rfl ?_; refine HL_nil (hK8 _ _ _ _ ?_); refine HC_draw 21 (by kernel_rfl) (by kernel_rfl) ?_; refine HD_r rfl rfl rfl (R_load rfl (known_R (k := 2) rfl) rfl rfl) ?_; refine HD_r rfl rfl rfl (R_move rfl) ?_; refine HD_r rfl rfl rfl (R_pure rfl rfl rfl) ?_; refine HD_r rfl rfl rfl (R_indexA (j := i) (m := 1) (off' := i) rfl rfl rfl rfl (by omega) (by omega) (by omega)) ?_; refine HD_r rfl rfl rfl (R_loadAt rfl (known_L (k := 1) rfl) rfl (mapU_get (by rw [hsl]; omega))) ?_; refine HD_r rfl rfl rfl (R_move rfl) ?_; refine HD_r rfl rfl rfl (R_pure rfl rfl rfl) ?_; refine HD_as (show _ = Value.int .i64 ((i % 5 + 5 : Nat) : Int) from congrArg (Value.int .i64) (by rw [wrap_i64 (by omega) (by omega)]; omega)) ?_; refine HD_r rfl rfl rfl (R_pure rfl rfl rfl) ?_; refine HD_as (show _ = Value.int .i64 ((i % 5 + 5 - 1 : Nat) : Int) from congrArg (Value.int .i64) (by rw [wrap_i64 (by omega) (by omega)]; omega)) ?_; refine HD_r rfl rfl rfl (R_pure rfl rfl rfl) ?_; refine HD_as (show _ = Value.int .i64 (((i % 5 + 5 - 1) % 5 : Nat) : Int) from congrArg (Value.int .i64) (by rw [Int.tmod_eq_emod_of_nonneg (by omega)]; omega)) ?_; refine HD_r rfl rfl rfl (R_indexA (j := (i % 5 + 5 - 1) % 5) (m := 1) (off' := (i % 5 + 5 - 1) % 5) rfl rfl rfl rfl (by omega) (by omega) (by omega)) ?_; refine HD_r rfl rfl rfl (R_loadAt rfl (known_R (k := 1) rfl) rfl (mapU_get (by rw [hc.1]; omega))) ?_; refine HD_r rfl rfl rfl (R_move rfl) ?_; refine HD_r rfl rfl rfl (R_pure rfl rfl rfl) ?_; refine HD_as (show _ = Value.int .i64 ((i % 5 + 1 : Nat) : Int) from congrArg (Value.int .i64) (by rw [wrap_i64 (by omega) (by omega)]; omega)) ?_; refine HD_r rfl rfl rfl (R_pure rfl rfl rfl) ?_; refine HD_as (show _ = Value.int .i64 (((i % 5 + 1) % 5 : Nat) : Int) from congrArg (Value.int .i64) (by rw [Int.tmod_eq_emod_of_nonneg (by omega)]; omega)) ?_; refine HD_r rfl rfl rfl (R_indexA (j := (i % 5 + 1) % 5) (m := 1) (off' := (i % 5 + 1) % 5) rfl rfl rfl rfl (by omega) (by omega) (by omega)) ?_; refine HD_r rfl rfl rfl (R_loadAt rfl (known_R (k := 1) rfl) rfl (mapU_get (by rw [hc.1]; omega))) ?_; refine HD_callP rfl rfl rfl (enters_of Tryz.func188 (by kernel_rfl) rfl) (P_rot (k := 1) (hc.get _) (by decide)) ?_; refine HD_r rfl rfl rfl (R_bits64 (op := .xor) (b := ((cc.getD ((i % 5 + 5 - 1) % 5) 0 ^^^ rotN (cc.getD ((i % 5 + 1) % 5) 0) 1 : Nat) : Int)) rfl rfl rfl (hc.get _) (rotN_lt (hc.get _) 1) rfl) ?_; refine HD_r rfl rfl rfl (R_bits64 (op := .xor) (b := ((s.getD i 0 ^^^ (cc.getD ((i % 5 + 5 - 1) % 5) 0 ^^^ rotN (cc.getD ((i % 5 + 1) % 5) 0) 1) : Nat) : Int)) rfl rfl rfl (hsk.get _) (xor_lt64 (hc.get _) (rotN_lt (hc.get _) 1)) rfl) ?_; refine HD_r rfl rfl rfl (R_pure rfl rfl rfl) ?_; refine HD_r rfl rfl rfl (R_indexA (j := i) (m := 1) (off' := i) rfl rfl rfl rfl (by omega) (by omega) (by omega)) ?_; refine HD_end ?_; refine HL_storeAt (k := 1) (off := i) (xs := s.map uV) (ys := (mS cc a (i + 1)).map uV) rfl rfl rfl rfl rfl rfl (by rw [List.length_map, hsl]; omega) (set_mapU (by rw [hs]; rfl)) rfl ?_; refine HL_nil ?_; refine HQ_blockN (HQ_sel [1] (L' := [_]) (by decide) rfl ?_); exact HQ_round (mS cc a (i + 1)) ⟨rfl, by omega⟩ rfl
    · rintro D2 i s hfi ⟨hs, -⟩
      have hi25 : i = 25 := hfi
      subst hi25; refine HQ_blockN (HQ_mark (k := 0) rfl rfl (HQ_mark (k := 2) rfl rfl ?_)); refine HQ_post rfl rfl .nil (fun w1 hs1 => ?_); exact ⟨rfl, _, List.mem_cons_of_mem _ (by rw [hmx, ← hs]; exact List.mem_cons_self), hs1⟩
    · exact fun _ _ _ h => h.elim
  · exact fun _ _ _ h => h.elim
end Go.Proofs.YtlcbfphioeppaaaGreatDoor
namespace Go.Proofs.YtlcbfphioeppaaaGreatDoor
set_option linter.all false
open Go.SL Go.RowKit Go.Shelf
set_option maxRecDepth 10000 in
theorem M_round {a : List Nat} (ha : SOk 25 a) {n : Nat} (hn : n < 18446744073709551616) {by_ : List Nat} (hbl : by_.length = 25) (hby : ∀ i, by_.getD i 0 < 9223372036854775808) (r : Nat) :
    PureM Tryz.prog 119 [.pointer (some ⟨r, 0, none⟩), uV n, .agg (by_.map iV).toArray].toArray (.tuple #[]) r (kO a) (kO (roundA by_ a n)) := by
  refine pureM_of_HC Tryz.func119 rfl rfl fun w => ?_
  obtain ⟨m, hm⟩ : ∃ m, m = mixA a := ⟨_, rfl⟩
  have hmk : SOk 25 m := by rw [hm]; exact mixA_ok ha
  have hml := hmk.1
  have hbk := rS_ok by_ hmk 25
  obtain ⟨b, hb⟩ : ∃ b, b = rS m by_ 25 := ⟨_, rfl⟩
  have hbk : SOk 25 b := by rw [hb]; exact rS_ok by_ hmk 25
  have hbln := hbk.1
  have hra : roundA by_ a n = iotaA (xS b m 25) n := by rw [hb, hm]; rfl
  refine HC_seq fun K1 hK1 => HC_region ?_; refine HL_box (cs := #[_]) rfl rfl rfl rfl fun r1 => ?_; refine HL_box (cs := (by_.map iV).toArray) rfl rfl rfl rfl fun r2 => ?_; refine HL_nil (hK1 _ _ _ _ ?_); refine HC_seq fun K2 hK2 => HC_region ?_; refine HL_r rfl rfl rfl rfl (R_load rfl (known_L (k := 1) rfl) rfl rfl) ?_; refine HL_callM (k := 2) rfl rfl rfl (enters_of Tryz.func186 (by kernel_rfl) rfl) rfl (M_columns ha r) rfl ?_; rw [← hm]; refine HL_nil (hK2 _ _ _ _ ?_); refine HC_seq fun K3 hK3 => HC_region ?_; refine HL_alloc (cs := (z25.map uV).toArray) rfl rfl rfl rfl fun r3 => ?_; refine HL_nil (hK3 _ _ _ _ ?_); refine HC_seq fun K4 hK4 => ?_; refine HC_seq fun K5 hK5 => HC_region ?_; refine HL_callP rfl rfl rfl (enters_of Tryz.func187 (by kernel_rfl) rfl) P_each ?_; refine HL_nil (hK5 _ _ _ _ ?_); refine HC_block ?_; refine HC_range (τ := Unit) (fun i (s : List Nat) => s = rS m by_ i ∧ i ≤ 25) (fun s => [(r3, kO s)]) (fun _ _ => False) (fun _ => []) [(r2, _), (r1, _), (r, kO m)] (z25) rfl rfl (enters_of Tryz.func215 (by kernel_rfl) rfl) I_each (by rintro _ _ _ ⟨_, rfl, _⟩; rfl) rfl (by simp) rfl ⟨rfl, by decide⟩ ?_ ?_ ?_
  · rintro q Xr Xb w3 i _ _ s ⟨hi, rfl, rfl⟩ ⟨hs, -⟩ Kr hKr
    have hsk : SOk 25 s := by rw [hs]; exact rS_ok by_ hmk i
    have hsl := hsk.1
    refine HC_seq fun K6 hK6 => HC_region ?_; refine HLm rfl ?_; refine HL_nil (hK6 _ _ _ _ ?_); refine HC_region (HL_alloc (cs := #[_, _]) rfl rfl rfl rfl fun r2 => ?_)
    refine HL_storeA (k := 0) (n := 2) (cs' := #[_, _]) (vs := #[_, _]) rfl rfl rfl rfl rfl rfl rfl (by exact Nat.le_of_ble_eq_true rfl) rfl (by first | (simp only [List.set_cons_zero, List.set_cons_succ]; exact rfl) | exact rfl) ?_; refine HL_nil ?_; refine hKr _ _ ?_; clear hKr; refine HC_block (HC_seq fun K7 hK7 => (HC_draw 6 (by kernel_rfl) (by kernel_rfl) ?_))
    refine HD_r rfl rfl rfl (R_indexA (j := 0) rfl rfl rfl rfl rfl (by first | decide | omega) (by first | (simp only [Nat.zero_add, Nat.reduceAdd, Nat.reduceMul, Nat.zero_mul, Nat.mul_one, Nat.add_zero]; exact rfl) | exact rfl)) ?_; refine HD_r rfl rfl rfl (R_load rfl (known_L (k := 0) rfl) rfl rfl) ?_
    refine HD_r rfl rfl rfl (R_indexA (j := 1) rfl rfl rfl rfl rfl (by first | decide | omega) (by first | (simp only [Nat.zero_add, Nat.reduceAdd, Nat.reduceMul, Nat.zero_mul, Nat.mul_one, Nat.add_zero]; exact rfl) | exact rfl)) ?_; refine HD_r rfl rfl rfl (R_load rfl (known_L (k := 0) rfl) rfl rfl) ?_; refine HD_r rfl rfl rfl (R_assign rfl) ?_; refine HD_r rfl rfl rfl (R_assign rfl) ?_; refine HD_end ?_; refine HL_nil (hK7 _ _ _ _ ?_); refine HC_draw 19 (by kernel_rfl) (by kernel_rfl) ?_; refine HD_r rfl rfl rfl (R_move rfl) ?_; refine HD_r rfl rfl rfl (R_move rfl) ?_; refine HD_r rfl rfl rfl (R_pure rfl rfl rfl) ?_; refine HD_as (show _ = Value.int .i64 ((2 * (i % 5) : Nat) : Int) from congrArg (Value.int .i64) (by rw [wrap_i64 (by omega) (by omega)]; omega)) ?_; refine HD_r rfl rfl rfl (R_move rfl) ?_; refine HD_r rfl rfl rfl (R_pure rfl rfl rfl) ?_; refine HD_as (show _ = Value.int .i64 ((3 * (i / 5) : Nat) : Int) from congrArg (Value.int .i64) (by rw [wrap_i64 (by omega) (by omega)]; omega)) ?_; refine HD_r rfl rfl rfl (R_pure rfl rfl rfl) ?_; refine HD_as (show _ = Value.int .i64 ((2 * (i % 5) + 3 * (i / 5) : Nat) : Int) from congrArg (Value.int .i64) (by rw [wrap_i64 (by omega) (by omega)]; omega)) ?_; refine HD_r rfl rfl rfl (R_pure rfl rfl rfl) ?_; refine HD_as (show _ = Value.int .i64 (((2 * (i % 5) + 3 * (i / 5)) % 5 : Nat) : Int) from congrArg (Value.int .i64) (by rw [Int.tmod_eq_emod_of_nonneg (by omega)]; omega)) ?_; refine HD_r rfl rfl rfl (R_pure rfl rfl rfl) ?_; refine HD_as (show _ = Value.int .i64 ((5 * ((2 * (i % 5) + 3 * (i / 5)) % 5) : Nat) : Int) from congrArg (Value.int .i64) (by rw [wrap_i64 (by omega) (by omega)]; omega)) ?_; refine HD_r rfl rfl rfl (R_pure rfl rfl rfl) ?_; refine HD_as (show _ = Value.int .i64 ((i / 5 + 5 * ((2 * (i % 5) + 3 * (i / 5)) % 5) : Nat) : Int) from congrArg (Value.int .i64) (by rw [wrap_i64 (by omega) (by omega)]; omega)) ?_; refine HD_r rfl rfl rfl (R_load rfl (known_R (k := 1) rfl) rfl rfl) ?_; refine HD_r rfl rfl rfl (R_move rfl) ?_; refine HD_r rfl rfl rfl (R_pure rfl rfl rfl) ?_; refine HD_r rfl rfl rfl (R_indexA (j := i) (m := 1) (off' := i) rfl rfl rfl rfl (by omega) (by omega) (by omega)) ?_; refine HD_r rfl rfl rfl (R_loadAt rfl (known_R (k := 2) rfl) rfl (mapU_get (by rw [hml]; omega))) ?_; refine HD_r rfl rfl rfl (R_move rfl) ?_; refine HD_r rfl rfl rfl (R_indexA (j := i) (m := 1) (off' := i) rfl rfl rfl rfl (by omega) (by omega) (by omega)) ?_; refine HD_r rfl rfl rfl (R_loadAt rfl (known_R (k := 0) rfl) rfl (mapI_get (by rw [hbl]; omega))) ?_; refine HD_callP rfl rfl rfl (enters_of Tryz.func188 (by kernel_rfl) rfl) (P_rot (k := by_.getD i 0) (hmk.get _) (hby i)) ?_; refine HD_r rfl rfl rfl (R_indexA (j := (i / 5 + 5 * ((2 * (i % 5) + 3 * (i / 5)) % 5))) (m := 1) (off' := (i / 5 + 5 * ((2 * (i % 5) + 3 * (i / 5)) % 5))) rfl rfl rfl rfl (by omega) (by omega) (by omega)) ?_; refine HD_end ?_; refine HL_storeAt (k := 1) (off := i / 5 + 5 * ((2 * (i % 5) + 3 * (i / 5)) % 5)) (xs := s.map uV) (ys := (rS m by_ (i + 1)).map uV) rfl rfl rfl rfl rfl rfl (by rw [List.length_map, hsl]; omega) (set_mapU (by rw [hs]; rfl)) rfl ?_; refine HL_nil ?_; refine HQ_blockN (HQ_sel [1] (L' := [_]) (by decide) rfl ?_); exact HQ_round (rS m by_ (i + 1)) ⟨rfl, by omega⟩ rfl
  · rintro D i s hfi ⟨hs, -⟩
    have hi25 : i = 25 := hfi
    subst hi25; rw [← hb] at hs
    have hs := hs.symm
    subst hs; refine HQ_blockN (hK4 _ _ _ _ ?_); refine HC_seq fun K8 hK8 => ?_; refine HC_seq fun K9 hK9 => HC_region ?_; refine HL_callP rfl rfl rfl (enters_of Tryz.func187 (by kernel_rfl) rfl) P_each ?_; refine HL_nil (hK9 _ _ _ _ ?_); refine HC_block (HC_sel [4, 0, 1, 2, 3] (by decide) rfl ?_); refine HC_range (τ := Unit) (fun i (s : List Nat) => s = xS b m i ∧ i ≤ 25) (fun s => [(r, kO s)]) (fun _ _ => False) (fun _ => []) [(D, _), (r3, kO b), (r2, _), (r1, _)] (m) rfl rfl (enters_of Tryz.func215 (by kernel_rfl) rfl) I_each (by rintro _ _ _ ⟨_, rfl, _⟩; rfl) rfl (by simp) rfl ⟨rfl, by decide⟩ ?_ ?_ ?_
    · rintro q Xr Xb w3 i _ _ s ⟨hi, rfl, rfl⟩ ⟨hs, -⟩ Kr hKr
      have hsk : SOk 25 s := by rw [hs]; exact xS_ok hbk hmk i
      have hsl := hsk.1
      refine HC_seq fun K10 hK10 => HC_region ?_; refine HLm rfl ?_; refine HL_nil (hK10 _ _ _ _ ?_); refine HC_region (HL_alloc (cs := #[_, _]) rfl rfl rfl rfl fun r3 => ?_)
      refine HL_storeA (k := 0) (n := 2) (cs' := #[_, _]) (vs := #[_, _]) rfl rfl rfl rfl rfl rfl rfl (by exact Nat.le_of_ble_eq_true rfl) rfl (by first | (simp only [List.set_cons_zero, List.set_cons_succ]; exact rfl) | exact rfl) ?_; refine HL_nil ?_; refine hKr _ _ ?_; clear hKr; refine HC_block (HC_seq fun K11 hK11 => (HC_draw 8 (by kernel_rfl) (by kernel_rfl) ?_))
      refine HD_r rfl rfl rfl (R_indexA (j := 0) rfl rfl rfl rfl rfl (by first | decide | omega) (by first | (simp only [Nat.zero_add, Nat.reduceAdd, Nat.reduceMul, Nat.zero_mul, Nat.mul_one, Nat.add_zero]; exact rfl) | exact rfl)) ?_; refine HD_r rfl rfl rfl (R_load rfl (known_L (k := 0) rfl) rfl rfl) ?_; refine HD_r rfl rfl rfl (R_move rfl) ?_
      refine HD_r rfl rfl rfl (R_indexA (j := 0) rfl rfl rfl rfl rfl (by first | decide | omega) (by first | (simp only [Nat.zero_add, Nat.reduceAdd, Nat.reduceMul, Nat.zero_mul, Nat.mul_one, Nat.add_zero]; exact rfl) | exact rfl)) ?_; refine HD_r rfl rfl rfl (R_load rfl (known_L (k := 0) rfl) rfl rfl) ?_; refine HD_r rfl rfl rfl (R_pure rfl rfl rfl) ?_; refine HD_as (show _ = Value.int .i64 ((i - i % 5 : Nat) : Int) from congrArg (Value.int .i64) (by rw [wrap_i64 (by omega) (by omega)]; omega)) ?_; refine HD_r rfl rfl rfl (R_assign rfl) ?_; refine HD_r rfl rfl rfl (R_assign rfl) ?_; refine HD_end ?_; refine HL_nil (hK11 _ _ _ _ ?_); refine HC_draw 24 (by kernel_rfl) (by kernel_rfl) ?_; refine HD_r rfl rfl rfl (R_load rfl (known_R (k := 3) rfl) rfl rfl) ?_; refine HD_r rfl rfl rfl (R_move rfl) ?_; refine HD_r rfl rfl rfl (R_move rfl) ?_; refine HD_r rfl rfl rfl (R_indexA (j := i) (m := 1) (off' := i) rfl rfl rfl rfl (by omega) (by omega) (by omega)) ?_; refine HD_r rfl rfl rfl (R_loadAt rfl (known_R (k := 1) rfl) rfl (mapU_get (by rw [hbln]; omega))) ?_; refine HD_r rfl rfl rfl (R_move rfl) ?_; refine HD_r rfl rfl rfl (R_move rfl) ?_; refine HD_r rfl rfl rfl (R_pure rfl rfl rfl) ?_; refine HD_as (show _ = Value.int .i64 ((i % 5 + 1 : Nat) : Int) from congrArg (Value.int .i64) (by rw [wrap_i64 (by omega) (by omega)]; omega)) ?_; refine HD_r rfl rfl rfl (R_pure rfl rfl rfl) ?_; refine HD_as (show _ = Value.int .i64 (((i % 5 + 1) % 5 : Nat) : Int) from congrArg (Value.int .i64) (by rw [Int.tmod_eq_emod_of_nonneg (by omega)]; omega)) ?_; refine HD_r rfl rfl rfl (R_pure rfl rfl rfl) ?_; refine HD_as (show _ = Value.int .i64 ((i - i % 5 + (i % 5 + 1) % 5 : Nat) : Int) from congrArg (Value.int .i64) (by rw [wrap_i64 (by omega) (by omega)]; omega)) ?_; refine HD_r rfl rfl rfl (R_indexA (j := (i - i % 5 + (i % 5 + 1) % 5)) (m := 1) (off' := (i - i % 5 + (i % 5 + 1) % 5)) rfl rfl rfl rfl (by omega) (by omega) (by omega)) ?_; refine HD_r rfl rfl rfl (R_loadAt rfl (known_R (k := 1) rfl) rfl (mapU_get (by rw [hbln]; omega))) ?_; refine HD_r rfl rfl rfl (R_compl rfl (hbk.get _)) ?_; refine HD_r rfl rfl rfl (R_move rfl) ?_; refine HD_r rfl rfl rfl (R_move rfl) ?_; refine HD_r rfl rfl rfl (R_pure rfl rfl rfl) ?_; refine HD_as (show _ = Value.int .i64 ((i % 5 + 2 : Nat) : Int) from congrArg (Value.int .i64) (by rw [wrap_i64 (by omega) (by omega)]; omega)) ?_; refine HD_r rfl rfl rfl (R_pure rfl rfl rfl) ?_; refine HD_as (show _ = Value.int .i64 (((i % 5 + 2) % 5 : Nat) : Int) from congrArg (Value.int .i64) (by rw [Int.tmod_eq_emod_of_nonneg (by omega)]; omega)) ?_; refine HD_r rfl rfl rfl (R_pure rfl rfl rfl) ?_; refine HD_as (show _ = Value.int .i64 ((i - i % 5 + (i % 5 + 2) % 5 : Nat) : Int) from congrArg (Value.int .i64) (by rw [wrap_i64 (by omega) (by omega)]; omega)) ?_; refine HD_r rfl rfl rfl (R_indexA (j := (i - i % 5 + (i % 5 + 2) % 5)) (m := 1) (off' := (i - i % 5 + (i % 5 + 2) % 5)) rfl rfl rfl rfl (by omega) (by omega) (by omega)) ?_; refine HD_r rfl rfl rfl (R_loadAt rfl (known_R (k := 1) rfl) rfl (mapU_get (by rw [hbln]; omega))) ?_; refine HD_r rfl rfl rfl (R_bits64 (op := .and) (b := (((18446744073709551615 ^^^ b.getD (i - i % 5 + (i % 5 + 1) % 5) 0) &&& b.getD (i - i % 5 + (i % 5 + 2) % 5) 0 : Nat) : Int)) rfl rfl rfl (xor_lt64 (by decide) (hbk.get _)) (hbk.get _) rfl) ?_; refine HD_r rfl rfl rfl (R_bits64 (op := .xor) (b := ((chiN b i : Nat) : Int)) rfl rfl rfl (hbk.get _) (and_lt64 (hbk.get _)) rfl) ?_; refine HD_r rfl rfl rfl (R_pure rfl rfl rfl) ?_; refine HD_r rfl rfl rfl (R_indexA (j := i) (m := 1) (off' := i) rfl rfl rfl rfl (by omega) (by omega) (by omega)) ?_; refine HD_end ?_; refine HL_storeAt (k := 1) (off := i) (xs := s.map uV) (ys := (xS b m (i + 1)).map uV) rfl rfl rfl rfl rfl rfl (by rw [List.length_map, hsl]; omega) (set_mapU (by rw [hs]; rfl)) rfl ?_; refine HL_nil ?_; refine HQ_blockN (HQ_sel [1] (L' := [_]) (by decide) rfl ?_); exact HQ_round (xS b m (i + 1)) ⟨rfl, by omega⟩ rfl
    · rintro D2 i s hfi ⟨hs, -⟩
      have hi25 : i = 25 := hfi
      subst hi25
      have hsk : SOk 25 s := by rw [hs]; exact xS_ok hbk hmk 25
      have hsl := hsk.1
      refine HQ_blockN (hK8 _ _ _ _ ?_); refine HC_draw 8 (by kernel_rfl) (by kernel_rfl) ?_; refine HD_r rfl rfl rfl (R_load rfl (known_L (k := 5) rfl) rfl rfl) ?_; refine HD_r rfl rfl rfl (R_pure rfl rfl rfl) ?_
      refine HD_r rfl rfl rfl (R_indexA (j := 0) rfl rfl rfl rfl rfl (by first | decide | omega) (by first | (simp only [Nat.zero_add, Nat.reduceAdd, Nat.reduceMul, Nat.zero_mul, Nat.mul_one, Nat.add_zero]; exact rfl) | exact rfl)) ?_; refine HD_r rfl rfl rfl (R_loadAt rfl (known_L (k := 1) rfl) rfl (mapU_get (by rw [hsl]; omega))) ?_; refine HD_r rfl rfl rfl (R_move rfl) ?_; refine HD_r rfl rfl rfl (R_bits64 (op := .xor) (b := ((s.getD 0 0 ^^^ n : Nat) : Int)) rfl rfl rfl (hsk.get _) (hn) rfl) ?_; refine HD_r rfl rfl rfl (R_pure rfl rfl rfl) ?_
      refine HD_r rfl rfl rfl (R_indexA (j := 0) rfl rfl rfl rfl rfl (by first | decide | omega) (by first | (simp only [Nat.zero_add, Nat.reduceAdd, Nat.reduceMul, Nat.zero_mul, Nat.mul_one, Nat.add_zero]; exact rfl) | exact rfl)) ?_; refine HD_end ?_; refine HL_storeAt (k := 1) (off := 0) (xs := s.map uV) (ys := (iotaA s n).map uV) rfl rfl rfl rfl rfl rfl (by rw [List.length_map, hsl]; omega) (set_mapU rfl) rfl ?_; refine HL_nil ?_; refine HQ_mark (k := 0) rfl rfl ?_; refine HQ_mark (k := 2) rfl rfl ?_; refine HQ_post rfl rfl .nil (fun w1 hs1 => ?_); exact ⟨rfl, _, List.mem_cons_of_mem _ (by rw [hra, ← hs]; exact List.mem_cons_self), hs1⟩
    · exact fun _ _ _ h => h.elim
  · exact fun _ _ _ h => h.elim
end Go.Proofs.YtlcbfphioeppaaaGreatDoor
namespace Go.Proofs.YtlcbfphioeppaaaGreatDoor
set_option linter.all false
open Go.SL Go.RowKit Go.Shelf
set_option maxRecDepth 10000 in
theorem P_turns : Pure Tryz.prog 117 [].toArray (.agg (turnsL.map iV).toArray) := by
  refine pure_of_HC Tryz.func117 rfl rfl fun w => ?_; refine HC_seq fun K1 hK1 => HC_region ?_; refine HL_alloc (cs := #[_, _, _, _, _, _, _, _, _, _, _, _, _, _, _, _, _, _, _, _, _, _, _, _, _]) rfl rfl rfl rfl fun r1 => ?_; refine HL_nil (hK1 _ _ _ _ ?_); refine HC_seq fun K2 hK2 => HC_region ?_; refine HL_r rfl rfl rfl rfl (R_build (r := turnsL.map iV) rfl (by kernel_rfl)) ?_; refine HL_storeArr (k := 0) (n := 25) (ys := turnsL.map iV) rfl rfl rfl rfl rfl rfl rfl rfl rfl ?_; refine HL_nil (hK2 _ _ _ _ ?_); refine HC_ret ?_; refine HQ_post rfl rfl (.cons (res_cellA (vs := turnsL.map iV) rfl (known_L (k := 0) rfl) rfl rfl) .nil) (fun w1 hs1 => ?_); exact ⟨rfl, hs1.keep⟩
set_option maxRecDepth 10000 in
theorem P_numbers : Pure Tryz.prog 118 [].toArray (.agg (numsL.map uV).toArray) := by
  refine pure_of_HC Tryz.func118 rfl rfl fun w => ?_; refine HC_seq fun K1 hK1 => HC_region ?_; refine HL_alloc (cs := #[_, _, _, _, _, _, _, _, _, _, _, _, _, _, _, _, _, _, _, _, _, _, _, _]) rfl rfl rfl rfl fun r1 => ?_; refine HL_nil (hK1 _ _ _ _ ?_); refine HC_seq fun K2 hK2 => HC_region ?_; refine HL_r rfl rfl rfl rfl (R_build (r := numsL.map uV) rfl (by kernel_rfl)) ?_; refine HL_storeArr (k := 0) (n := 24) (ys := numsL.map uV) rfl rfl rfl rfl rfl rfl rfl rfl rfl ?_; refine HL_nil (hK2 _ _ _ _ ?_); refine HC_ret ?_; refine HQ_post rfl rfl (.cons (res_cellA (vs := numsL.map uV) rfl (known_L (k := 0) rfl) rfl rfl) .nil) (fun w1 hs1 => ?_); exact ⟨rfl, hs1.keep⟩
theorem turns_lt (i : Nat) : turnsL.getD i 0 < 9223372036854775808 := by
  by_cases h : i < 25
  · have : turnsL.all (fun x => decide (x < 9223372036854775808)) = true := by decide
    have hm : turnsL.getD i 0 ∈ turnsL := by simp [List.getD_eq_getElem?_getD, show i < turnsL.length from h]
    exact of_decide_eq_true (List.all_eq_true.1 this _ hm)
  · rw [List.getD_eq_getElem?_getD, List.getElem?_eq_none (by simpa [turnsL] using h)]; decide
set_option maxRecDepth 10000 in
theorem P_Permute {a : List Nat} (ha : SOk 25 a) : Pure Tryz.prog 64 [.agg (a.map uV).toArray].toArray (.agg ((permA a).map uV).toArray) := by
  refine pure_of_HC Tryz.func64 rfl rfl fun w => ?_
  have hal := ha.1
  obtain ⟨tu, htu⟩ : ∃ t, t = turnsL := ⟨_, rfl⟩
  have htul : tu.length = 25 := by rw [htu]; rfl
  have htub : ∀ i, tu.getD i 0 < 9223372036854775808 := by rw [htu]; exact turns_lt
  obtain ⟨nu, hnu⟩ : ∃ t, t = numsL := ⟨_, rfl⟩
  have hnuk : SOk 24 nu := by rw [hnu]; exact numsL_ok
  have hnul := hnuk.1
  have hPt : Pure Tryz.prog 117 [].toArray (.agg (tu.map iV).toArray) := by rw [htu]; exact P_turns
  have hPn : Pure Tryz.prog 118 [].toArray (.agg (nu.map uV).toArray) := by rw [hnu]; exact P_numbers
  refine HC_seq fun K1 hK1 => HC_region ?_; refine HL_box (cs := (a.map uV).toArray) rfl rfl rfl rfl fun r1 => ?_; refine HL_alloc (cs := (z25.map uV).toArray) rfl rfl rfl rfl fun r2 => ?_; refine HL_nil (hK1 _ _ _ _ ?_); refine HC_seq fun K2 hK2 => HC_region ?_; refine HL_r rfl rfl rfl rfl (R_loadArr (xs := a.map uV) (n := 25) rfl (known_L (k := 1) rfl) rfl rfl (by rw [List.length_map, hal])) ?_; refine HL_alloc (cs := (z25.map uV).toArray) rfl rfl rfl rfl fun r3 => ?_; refine HL_storeArr (k := 0) (n := 25) (ys := a.map uV) rfl rfl rfl rfl rfl (by rw [List.length_map, hal]) rfl (mapU_one _) rfl ?_; refine HL_nil (hK2 _ _ _ _ ?_); refine HC_seq fun K3 hK3 => HC_region ?_; refine HL_callP rfl rfl rfl (enters_of Tryz.func117 (by kernel_rfl) rfl) hPt ?_; refine HL_alloc (cs := ((List.replicate 25 0).map iV).toArray) rfl rfl rfl rfl fun r4 => ?_; refine HL_storeArr (k := 0) (n := 25) (ys := tu.map iV) rfl rfl rfl rfl rfl (by rw [List.length_map, htul]) rfl (by simp [iV, oneB, List.all_map, List.all_eq_true]) rfl ?_; refine HL_nil (hK3 _ _ _ _ ?_); refine HC_seq fun K4 hK4 => ?_; refine HC_seq fun K5 hK5 => HC_region ?_; refine HL_callP rfl rfl rfl (enters_of Tryz.func118 (by kernel_rfl) rfl) hPn ?_; refine HLm rfl ?_; refine HL_nil (hK5 _ _ _ _ ?_); refine HC_block (HC_loop (σ := Nat) (fun i => i ≤ 24) (fun i => [(2, .pointer (some ⟨r2, 0, none⟩)), (3, .pointer (some ⟨r3, 0, none⟩)), (4, .pointer (some ⟨r4, 0, none⟩)), (9, .agg (nu.map uV).toArray), (10, .int .i64 (i : Int))]) (fun i => [(r4, .cells (tu.map iV).toArray 114 (0, 0)), (r3, kO (permS a i)), (r2, .cells (z25.map uV).toArray 72 (0, 0)), (r1, .cells (a.map uV).toArray 72 (0, 0))]) (fun _ _ _ => True) (fun i => 24 - i) 0 (Nat.zero_le _) (.cons rfl (.cons rfl (.cons rfl (.cons rfl (.cons rfl .nil))))) (List.Sublist.refl _) (fun _ _ h => h) ?_); intro i hi; refine HC_seq fun K6 hK6 => HC_region ?_; refine HLp rfl ?_; refine HL_nil (hK6 _ _ _ _ ?_); refine HC_seq fun K7 hK7 => ?_; refine HC_cond rfl (fun h8 => ?_) (fun h8 => ?_)
  · try exact Bool.noConfusion h8
    try simp only [ZZ] at h8
    refine HC_skip (hK7 _ _ _ _ ?_); refine HC_seq fun K9 hK9 => HC_block ?_; refine HC_seq fun K10 hK10 => HC_region ?_; refine HL_r rfl rfl rfl rfl (R_indexV (j := i) rfl rfl rfl rfl rfl rfl (by omega) (nth_xs (mapU_get (by rw [hnul]; omega)))) ?_; refine HLm rfl ?_; refine HL_nil (hK10 _ _ _ _ ?_); refine HC_region (HLm rfl (HL_r rfl rfl rfl rfl (R_loadArr (xs := tu.map iV) (n := 25) rfl (known_L (k := 0) rfl) rfl rfl (by rw [List.length_map, htul])) ?_)); refine HL_callM (k := 1) rfl rfl rfl (enters_of Tryz.func119 (by kernel_rfl) rfl) rfl (M_round (permS_ok ha i) (n := nu.getD i 0) (hnuk.get i) htul htub r3) rfl ?_; refine HL_nil ?_; refine HQ_blockN (hK9 _ _ _ _ ?_); refine HC_region (HLp rfl (HL_wrap_i64 (by omega) (by omega) ?_)); refine HLm rfl (HL_nil (HQ_then ?_)); exact HQ_again (i + 1) (by omega) (by omega) (.cons rfl (.cons rfl (.cons rfl (.cons rfl (.cons rfl .nil))))) (by rw [show permS a (i + 1) = roundA tu (permS a i) (nu.getD i 0) from by rw [htu, hnu]; rfl]; exact List.Sublist.refl _) (fun _ _ h => h)
  · try exact Bool.noConfusion h8
    try simp only [ZZ] at h8
    refine HC_exit (HQ_thenE ?_); refine HQ_thenE (HQ_blockE (hK4 _ _ _ _ ?_)); refine HC_seq fun K11 hK11 => ?_
    have hi24 : 24 = i := by omega
    subst hi24; refine HC_region (HL_r rfl rfl rfl rfl (R_loadArr (xs := (permS a 24).map uV) (n := 25) rfl (known_L (k := 1) rfl) rfl rfl (by rw [List.length_map, (permS_ok ha 24).1])) (HL_storeArr (k := 2) (n := 25) (ys := (permS a 24).map uV) rfl rfl rfl rfl rfl (by rw [List.length_map, (permS_ok ha 24).1]) rfl (mapU_one _) rfl ?_)); refine HL_nil (hK11 _ _ _ _ ?_); refine HC_ret ?_; refine HQ_post rfl rfl (.cons (res_cellA (vs := (permS a 24).map uV) rfl (known_L (k := 2) rfl) rfl (by rw [List.length_map, (permS_ok ha 24).1]; rfl)) .nil) (fun w1 hs1 => ?_); exact ⟨rfl, hs1.keep⟩
theorem mapB_get {l : List UInt8} {j : Nat} (h : j < l.length) : (l.map bV)[j]? = some (.int .u8 ((l.getD j 0).toNat : Nat)) := by
  simp [h, bV, List.getD_eq_getElem?_getD]
set_option maxRecDepth 10000 in
theorem P_Pad {n : Nat} (hn : n ≤ 1099511627776) : Pure Tryz.prog 62 [.int .i64 (n : Int)].toArray (.tuple #[.string (bs (padL n)), .int .i64 0]) := by
  refine pure_of_HC Tryz.func62 rfl rfl fun w => ?_
  obtain ⟨k, hk⟩ : ∃ k, k = 135 - n % 136 := ⟨_, rfl⟩
  have hn1 : n % 136 < 136 := Nat.mod_lt _ (by decide)
  obtain ⟨x, hx⟩ : ∃ x : UInt8, x = (1 :: List.replicate k 0 : List UInt8).getD k 0 := ⟨_, rfl⟩
  have hxl := x.toNat_lt
  have hpl : (1 :: List.replicate k 0 : List UInt8).set k (UInt8.ofNat (x.toNat ||| 128)) = padL n := by
    unfold padL
    cases k with
    | zero => rw [if_pos (by omega), hx]; rfl
    | succ k =>
      rw [if_neg (by omega), hx]
      have e1 : (1 :: List.replicate (k + 1) 0 : List UInt8).getD (k + 1) 0 = 0 := by simp [List.getD_eq_getElem?_getD]
      rw [e1, show 134 - n % 136 = k from by omega]; simp only [List.set_cons_succ]
      congr 1
      rw [List.replicate_succ', List.set_append_right _ _ (by simp), List.length_replicate, Nat.sub_self]; rfl
  refine HC_seq fun K1 hK1 => HC_region ?_; refine HLm rfl (HLm rfl ?_); refine HL_nil (hK1 _ _ _ _ ?_); refine HC_seq fun K2 hK2 => ?_; refine HC_seq fun K3 hK3 => HC_region ?_; refine HLm rfl (HLp rfl ?_); refine HLm rfl (HLm rfl ?_); refine HLp rfl (HL_r rfl rfl rfl rfl (R_pickF rfl rfl) ?_); refine HL_nil (hK3 _ _ _ _ ?_); refine HC_cond rfl (fun h6 => ?_) (fun h6 => ?_)
  · try exact Bool.noConfusion h6
    try simp only [ZZ] at h6
    refine HC_seq fun K7 hK7 => HC_region ?_; refine HLm rfl (HLm rfl ?_); refine HL_nil (hK7 _ _ _ _ ?_); refine HC_ret (HQ_thenR ?_); refine HQ_post rfl rfl (.cons (res_tmp rfl) (.cons (res_tmp rfl) .nil)) (fun w1 hs1 => ?_)
    first | (exact ⟨rfl, hs1.keep⟩) | (exfalso; omega)
  · try exact Bool.noConfusion h6
    try simp only [ZZ] at h6
    refine HC_skip (hK2 _ _ _ _ ?_); refine HC_seq fun K8 hK8 => HC_region ?_; refine HLm rfl (HLp rfl ?_); refine HL_as (show _ = Value.int .i64 ((n % 136 : Nat) : Int) from congrArg (Value.int .i64) (by rw [Int.tmod_eq_emod_of_nonneg (by omega)]; omega)) ?_; refine HLp rfl ?_; refine HL_as (show _ = Value.int .i64 ((k + 1 : Nat) : Int) from congrArg (Value.int .i64) (by rw [wrap_i64 (by omega) (by omega)]; omega)) ?_; refine HL_make (n := k + 1) (b := 1) rfl rfl rfl rfl rfl rfl rfl rfl rfl (by omega) (by omega) fun r2 => ?_; refine HLm rfl ?_; refine HL_nil (hK8 _ _ _ _ ?_); refine HC_seq fun K9 hK9 => HC_region ?_; refine HLm rfl (HL_r rfl rfl rfl rfl (R_indexS (j := 0) (m := 1) (off' := 0) rfl rfl rfl rfl rfl (by omega) rfl) ?_); refine HL_storeAt (k := 0) (off := 0) (xs := List.replicate (k + 1) (.int .u8 0)) (ys := (1 :: List.replicate k 0 : List UInt8).map bV) rfl rfl rfl rfl rfl rfl (by simp) (by rw [List.replicate_succ]; simp [bV]) rfl ?_; refine HL_nil (hK9 _ _ _ _ ?_); refine HC_seq fun K10 hK10 => HC_region ?_; refine HLm rfl (HLm rfl (HL_r rfl rfl rfl rfl (R_lenSl rfl rfl) ?_)); refine HLp rfl ?_; refine HL_as (show _ = Value.int .i64 ((k : Nat) : Int) from congrArg (Value.int .i64) (by rw [wrap_i64 (by omega) (by omega)]; omega)) ?_; refine HL_r rfl rfl rfl rfl (R_indexS (j := k) (m := 1) (off' := k) rfl rfl rfl rfl rfl (by omega) (by omega)) ?_; refine HL_r rfl rfl rfl rfl (R_loadAt rfl (known_L (k := 0) rfl) rfl (mapB_get (by simp))) ?_; rw [← hx]
    refine HL_r rfl rfl rfl rfl (R_bits8 (op := .or) (b := ((x.toNat ||| 128 : Nat) : Int)) rfl rfl rfl hxl (by decide) rfl) ?_; refine HL_as (show _ = bV (UInt8.ofNat (x.toNat ||| 128)) from bV_of (Nat.or_lt_two_pow (n := 8) hxl (by decide))) ?_; refine HL_r rfl rfl rfl rfl (R_indexS (j := k) (m := 1) (off' := k) rfl rfl rfl rfl rfl (by omega) (by omega)) ?_; refine HL_storeAt (k := 0) (off := k) (xs := (1 :: List.replicate k 0 : List UInt8).map bV) (ys := (padL n).map bV) rfl rfl rfl rfl rfl rfl (by simp) (by rw [← hpl, List.map_set]) rfl ?_; refine HL_nil (hK10 _ _ _ _ ?_); refine HC_seq fun K11 hK11 => HC_region ?_; refine HLm rfl ?_; refine HL_r rfl rfl rfl rfl (R_bytesStr (b := padL n) (row := some (r2, k + 1, [])) (e := 5) (show _ = some (rowV (padL n).length (some (r2, k + 1, []))) from by rw [padL_len, show 136 - n % 136 = k + 1 from by omega]; rfl) ⟨by simp, by simp [padL_len]; omega⟩ (fun p hp => .inl (by rw [List.mem_singleton.1 hp]; simp)) rfl rfl rfl) ?_; refine HLm rfl (HLm rfl ?_); refine HL_nil (hK11 _ _ _ _ ?_); refine HC_ret ?_; refine HQ_post rfl rfl (.cons (res_tmp rfl) (.cons (res_tmp rfl) .nil)) (fun w1 hs1 => ?_)
    first | (exact ⟨rfl, hs1.keep⟩) | (exfalso; omega)
end Go.Proofs.YtlcbfphioeppaaaGreatDoor
namespace Go.Proofs.YtlcbfphioeppaaaGreatDoor
set_option linter.all false
open Go.SL Go.RowKit Go.Shelf
def chL (rb n cap : Nat) (p : Nat × Nat) : List (Nat × Obj) := [(p.2, .cells #[.int .i64 136] 3 (0, 0)), (p.1, .cells #[.slice (some ⟨rb, 0, none⟩) n cap] 52 (0, 0))]
set_option maxRecDepth 10000 in
theorem E_Chunk (rb n cap : Nat) : PureE (α := Nat × Nat) Tryz.prog 63 [.slice (some ⟨rb, 0, none⟩) n cap, .int .i64 136].toArray (fun p => .func (.func 116) #[] #[.pointer (some ⟨p.1, 0, none⟩), .pointer (some ⟨p.2, 0, none⟩)]) (chL rb n cap) := by
  refine pureE_of_HC Tryz.func63 rfl rfl fun w => ?_; refine HC_seq fun K1 hK1 => HC_region ?_; refine HL_box (cs := #[_]) rfl rfl rfl rfl fun r1 => ?_; refine HL_box (cs := #[_]) rfl rfl rfl rfl fun r2 => ?_; refine HLm rfl ?_; refine HL_nil (hK1 _ _ _ _ ?_); refine HC_seq fun K2 hK2 => ?_; refine HC_seq fun K3 hK3 => HC_region ?_; refine HL_r rfl rfl rfl rfl (R_load rfl (known_L (k := 0) rfl) rfl rfl) ?_; refine HLp rfl ?_; refine HL_nil (hK3 _ _ _ _ ?_); refine HC_cond rfl (fun h4 => ?_) (fun h4 => ?_)
  · exact absurd h4 (by decide)
  · try exact Bool.noConfusion h4
    try simp only [ZZ] at h4
    refine HC_skip (hK2 _ _ _ _ ?_); refine HC_seq fun K5 hK5 => HC_region ?_; refine HL_r rfl rfl rfl rfl (R_makeFunc rfl rfl) ?_; refine HLm rfl ?_; refine HL_nil (hK5 _ _ _ _ ?_); refine HC_ret ?_; refine HQ_post rfl rfl (.cons (res_tmp rfl) .nil) (fun w1 hs1 => ?_); exact ⟨(r1, r2), rfl, hs1⟩
def chunkAt (rb j : Nat) : List Value := [.slice (some ⟨rb, 136 * j, none⟩) 136 136]
set_option maxRecDepth 10000 in
theorem I_Chunk {rb n cap N : Nat} (hn : n = 136 * N) (hcap : n ≤ cap) (hlim : n ≤ 2199023255552) (p1 p2 : Nat) : Iter Tryz.prog 116 [.pointer (some ⟨p1, 0, none⟩), .pointer (some ⟨p2, 0, none⟩)] (chL rb n cap (p1, p2)) 0 (nxN (chunkAt rb) N) (finN N) := by
  refine iter_of_HC Tryz.func116 rfl rfl fun q xids w2 XI XF hY => ?_; refine HC_seq fun K1 hK1 => HC_region ?_; refine HLm rfl ?_; refine HL_nil (hK1 _ _ _ _ ?_); refine HC_block (HC_loop (σ := Nat) (fun i => i ≤ N) (fun i => [(0, .func (.yield q) #[] #[]), (1, .pointer (some ⟨p1, 0, none⟩)), (2, .pointer (some ⟨p2, 0, none⟩)), (4, .int .i64 ((136 * i : Nat) : Int))]) (fun _ => []) (fun i => XI i) (fun i => N - i) 0 (Nat.zero_le _) (.cons rfl (.cons rfl (.cons rfl (.cons rfl .nil)))) (List.nil_sublist _) (fun _ _ h => h) ?_); intro i hi; refine HC_seq fun K2 hK2 => ?_; refine HC_seq fun K3 hK3 => HC_region ?_; refine HLm rfl (HL_r rfl rfl rfl rfl (R_load rfl (known_R (k := 1) rfl) rfl rfl) (HL_r rfl rfl rfl rfl (R_lenSl rfl rfl) ?_)); refine HLp rfl ?_; refine HL_nil (hK3 _ _ _ _ ?_); refine HC_cond rfl (fun h4 => ?_) (fun h4 => ?_)
  · try exact Bool.noConfusion h4
    try simp only [ZZ] at h4
    refine HC_skip (hK2 _ _ _ _ ?_); refine HC_seq fun K5 hK5 => HC_block ?_; refine HC_seq fun K6 hK6 => ?_; refine HC_draw 7 (by kernel_rfl) (by kernel_rfl) ?_; refine HD_r rfl rfl rfl (R_load rfl (known_R (k := 0) rfl) rfl rfl) ?_; refine HD_r rfl rfl rfl (R_load rfl (known_R (k := 1) rfl) rfl rfl) ?_; refine HD_r rfl rfl rfl (R_move rfl) ?_; refine HD_r rfl rfl rfl (R_sliceSl (kl := some (136 * i)) (kh := none) (km := none) (sz := 1) (m := 136 * i) (q := n) (z := cap) rfl rfl rfl ⟨_, rfl⟩ trivial trivial rfl rfl rfl (by omega) hcap (Nat.le_refl _) (fun _ => rfl) rfl) ?_; refine HD_r rfl rfl rfl (R_lenSl rfl rfl) ?_; refine HD_r rfl rfl rfl (R_min2 (r := 136) rfl rfl (by rw [if_neg (by omega)])) ?_; refine HD_r rfl rfl rfl (R_assign rfl) ?_; refine HD_end ?_; refine HL_nil (hK6 _ _ _ _ ?_); refine HC_seq fun K7 hK7 => HC_region ?_; refine HLm rfl (HL_r rfl rfl rfl rfl (R_load rfl (known_R (k := 1) rfl) rfl rfl) ?_); refine HLm rfl (HLm rfl ?_); refine HLm rfl (HLp rfl ?_); refine HL_as (show _ = Value.int .i64 ((136 * i + 136 : Nat) : Int) from congrArg (Value.int .i64) (by rw [wrap_i64 (by omega) (by omega)]; omega)) ?_; refine HLm rfl (HLm rfl (HLp rfl ?_)); refine HL_as (show _ = Value.int .i64 ((136 * i + 136 : Nat) : Int) from congrArg (Value.int .i64) (by rw [wrap_i64 (by omega) (by omega)]; omega)) ?_
    refine HL_r rfl rfl rfl rfl (R_sliceSl (kl := some (136 * i)) (kh := some (136 * i + 136)) (km := some (136 * i + 136)) (sz := 1) (m := 136 * i) (q := 136 * i + 136) (z := 136 * i + 136) (off' := 136 * i) rfl rfl rfl ⟨_, rfl⟩ ⟨_, rfl⟩ ⟨_, rfl⟩ rfl rfl rfl (by omega) (Nat.le_refl _) (by omega) (fun h => by cases h) (by rw [if_neg (by omega)]; omega)) ?_; refine HL_as (show _ = Value.slice (some ⟨rb, 136 * i, none⟩) 136 136 from by congr 1 <;> omega) ?_; refine HL_yield (XT := XI (i + 1)) (XF := XF) rfl rfl rfl rfl (hY i (chunkAt rb i) (i + 1) ⟨by omega, rfl, rfl⟩) ?_ ?_
    all_goals refine HLp rfl ?_
    all_goals refine HL_nil ?_
    all_goals (
     refine hK7 _ _ _ _ ?_; refine HC_cond rfl (fun h8 => ?_) (fun h8 => ?_)
     · try exact Bool.noConfusion h8
       all_goals try simp only [ZZ] at h8
       all_goals (
        refine HC_ret (HQ_blockR (HQ_thenR ?_)); refine HQ_thenR (HQ_blockR ?_); refine HQ_post rfl rfl .nil (fun w1 hs1 => ?_)
        obtain ⟨xs1, hx1⟩ := hs1.now
        exact ⟨⟨_, rfl⟩, hs1.keep, .inr ⟨_, hx1⟩⟩
        skip)
     · try exact Bool.noConfusion h8
       all_goals try simp only [ZZ] at h8
       all_goals (
        refine HC_skip (HQ_blockN (hK5 _ _ _ _ ?_)); refine HC_region (HLm rfl (HL_r rfl rfl rfl rfl (R_load rfl (known_R (k := 0) rfl) rfl rfl) ?_)); refine HLp rfl ?_; refine HL_as (show _ = Value.int .i64 ((136 * (i + 1) : Nat) : Int) from congrArg (Value.int .i64) (by rw [wrap_i64 (by omega) (by omega)]; omega)) ?_; refine HLm rfl (HL_nil (HQ_then ?_)); exact HQ_again (i + 1) (by omega) (by omega) (.cons rfl (.cons rfl (.cons rfl (.cons rfl .nil)))) (List.nil_sublist _) (fun _ _ h => h)
        skip)
     skip)
  · try exact Bool.noConfusion h4
    try simp only [ZZ] at h4
    refine HC_exit (HQ_thenE ?_); refine HQ_thenE (HQ_blockE ?_); refine HQ_postN rfl rfl .nil (fun w1 hs1 => ?_)
    obtain ⟨xs1, hx1⟩ := hs1.now
    exact ⟨⟨_, rfl⟩, hs1.keep, .inl ⟨i, _, (by show i = N; omega), hx1⟩⟩
theorem out_step {a : List Nat} {i : Nat} (h : i < 32) : ((outL a i ++ List.replicate (32 - i) 0).map bV).set i (bV (UInt8.ofNat (a.getD (i / 8) 0 / 2 ^ (i % 8 * 8) % 256))) = (outL a (i + 1) ++ List.replicate (32 - (i + 1)) 0).map bV := by
  rw [← List.map_set, List.set_append_right _ _ (by rw [outL_len]; exact Nat.le_refl _), outL_len, Nat.sub_self, show 32 - i = (32 - (i + 1)) + 1 from by omega, List.replicate_succ, List.set_cons_zero, outL, List.append_assoc]
  rfl
theorem row_get {t : List UInt8} {k j i : Nat} (h : 136 * j + i < t.length) : (t.map bV ++ List.replicate k (Value.int .u8 0))[136 * j + i]? = some (.int .u8 (((t.drop (136 * j)).getD i 0).toNat : Nat)) := by
  rw [List.getElem?_append_left (by rw [List.length_map]; exact h), mapB_get h]
  simp [List.getD_eq_getElem?_getD]
set_option maxRecDepth 10000 in
theorem P_kec {s : List UInt8} (hs : s.length ≤ 1099511627776) : Pure Tryz.prog 34 [.string (bs s)].toArray (.string (bs (kec s))) := by
  refine pure_of_HC Tryz.func34 rfl rfl fun w => ?_
  have hpl := padL_len s.length
  obtain ⟨t, ht⟩ : ∃ t, t = s ++ padL s.length := ⟨_, rfl⟩
  obtain ⟨N, hN⟩ : ∃ N, N = t.length / 136 := ⟨_, rfl⟩
  have htl : t.length = 136 * N := by have := kec_blocks s; rw [← ht] at this; omega
  have hlim : t.length ≤ 2199023255552 := by rw [ht, List.length_append]; omega
  have hkec : kec s = outL (sumS t N) 32 := by unfold kec; rw [← ht, ← hN]
  refine HC_seq fun K1 hK1 => HC_region ?_; refine HLm rfl ?_; refine HL_nil (hK1 _ _ _ _ ?_); refine HC_seq fun K2 hK2 => HC_region ?_; refine HLm rfl (HL_r rfl rfl rfl rfl (R_lenBs rfl rfl) (HL_callP rfl rfl rfl (enters_of Tryz.func62 (by kernel_rfl) rfl) (P_Pad hs) ?_)); refine HLm rfl (HL_r rfl rfl rfl rfl (R_extract rfl rfl) (HL_r rfl rfl rfl rfl (R_extract rfl rfl) ?_)); refine HLm rfl (HLm rfl ?_); refine HL_nil (hK2 _ _ _ _ ?_); refine HC_seq fun K3 hK3 => HC_region ?_; refine HL_alloc (cs := (z25.map uV).toArray) rfl rfl rfl rfl fun r1 => ?_; refine HL_nil (hK3 _ _ _ _ ?_); refine HC_seq fun K4 hK4 => ?_; refine HC_seq fun K5 hK5 => HC_region ?_; refine HLm rfl (HLm rfl (HL_r rfl rfl rfl rfl (R_concat rfl rfl (by omega)) ?_)); rw [← ht]; refine HL_strBytes rfl rfl rfl rfl rfl rfl fun rb kb => ?_; refine HL_callPE rfl rfl rfl (enters_of Tryz.func63 (by kernel_rfl) rfl) (E_Chunk rb t.length (t.length + kb)) fun pp => ?_
  obtain ⟨p1, p2⟩ := pp
  change HL _ _ _ [(p2, _), (p1, _), (rb, _), (r1, _)] _ _ _ _; refine HL_nil (hK5 _ _ _ _ ?_); refine HC_block (HC_sel [3, 0, 1, 2] (by decide) rfl ?_); refine HC_range (τ := Unit) (fun j (s : List Nat) => s = sumS t j ∧ j ≤ N) (fun s => [(r1, kO s)]) (fun _ _ => False) (fun _ => []) [(p2, _), (p1, _), (rb, _)] z25 rfl rfl (enters_of Tryz.func116 (by kernel_rfl) rfl) (I_Chunk (rb := rb) (cap := t.length + kb) htl (by omega) hlim p1 p2) (by rintro _ _ _ ⟨_, rfl, _⟩; rfl) rfl (by simp [chL]) rfl ⟨rfl, Nat.zero_le _⟩ ?_ ?_ ?_
  · rintro q Xr Xb w3 jj _ _ a ⟨hi, rfl, rfl⟩ ⟨hsa, -⟩ Kr hKr
    have hak : SOk 25 a := by rw [hsa]; exact sumS_ok t jj
    obtain ⟨u, hu⟩ : ∃ u, u = t.drop (136 * jj) := ⟨_, rfl⟩
    have habk := abS_ok u hak
    refine HC_region (HLm rfl (HL_nil ?_)); refine hKr _ _ ?_; clear hKr; refine HC_block (HC_seq fun K6 hK6 => (HC_seq fun K7 hK7 => HC_region ?_)); refine HLm rfl (HL_r rfl rfl rfl rfl (R_lenSl rfl rfl) (HLm rfl ?_)); refine HL_nil (hK7 _ _ _ _ ?_); refine HC_block (HC_loop (σ := Nat) (fun i => i ≤ 136) (fun i => [(5, .pointer (some ⟨r1, 0, none⟩)), (23, .slice (some ⟨rb, 136 * jj, none⟩) 136 136), (24, .int .i64 136), (25, .int .i64 (i : Int))]) (fun i => [(r1, kO (abS a u i))]) (fun _ => Xb) (fun i => 136 - i) 0 (Nat.zero_le _) (.cons rfl (.cons rfl (.cons rfl (.cons rfl .nil)))) (List.Sublist.refl _) (fun _ _ h => h) ?_); intro i hi; refine HC_seq fun K8 hK8 => HC_region ?_; refine HLp rfl ?_; refine HL_nil (hK8 _ _ _ _ ?_); refine HC_seq fun K9 hK9 => ?_; refine HC_cond rfl (fun h10 => ?_) (fun h10 => ?_)
    · try exact Bool.noConfusion h10
      try simp only [ZZ] at h10
      refine HC_skip (hK9 _ _ _ _ ?_); refine HC_seq fun K11 hK11 => HC_block ?_; refine HC_seq fun K12 hK12 => HC_region ?_; refine HLm rfl (HL_r rfl rfl rfl rfl (R_indexS (j := i) (m := 1) (off' := 136 * jj + i) rfl rfl rfl rfl rfl (by omega) (by omega)) (HL_r rfl rfl rfl rfl (R_loadAt rfl (known_R (k := 2) rfl) rfl (row_get (by omega))) ?_)); rw [← hu]; refine HLm rfl (HLm rfl ?_); refine HL_nil (hK12 _ _ _ _ ?_); refine HC_draw 12 (by kernel_rfl) (by kernel_rfl) ?_; refine HD_r rfl rfl rfl (R_move rfl) ?_; refine HD_r rfl rfl rfl (R_pure rfl rfl rfl) ?_; refine HD_as (show _ = Value.int .i64 ((i / 8 : Nat) : Int) from congrArg (Value.int .i64) (by rw [quo_i64 (by omega) (by omega) (by omega)]; omega)) ?_; refine HD_r rfl rfl rfl (R_indexA (j := i / 8) (m := 1) (off' := i / 8) rfl rfl rfl rfl (by omega) (by omega) (by omega)) ?_; refine HD_r rfl rfl rfl (R_loadAt rfl (known_L (k := 0) rfl) rfl (mapU_get (by rw [(habk i).1]; omega))) ?_; refine HD_r rfl rfl rfl (R_move rfl) ?_; refine HD_r rfl rfl rfl (R_pure rfl rfl rfl) ?_; refine HD_as (show _ = uV (u.getD i 0).toNat from congrArg (Value.int .u64) (wrap_u64 (z := ((u.getD i 0).toNat : Int)) (by omega) (by have := u8_lt (u.getD i 0); omega))) ?_; refine HD_r rfl rfl rfl (R_move rfl) ?_; refine HD_r rfl rfl rfl (R_pure rfl rfl rfl) ?_; refine HD_as (show _ = Value.int .i64 ((i % 8 : Nat) : Int) from congrArg (Value.int .i64) (by rw [Int.tmod_eq_emod_of_nonneg (by omega)]; omega)) ?_; refine HD_r rfl rfl rfl (R_pure rfl rfl rfl) ?_; refine HD_as (show _ = Value.int .i64 ((i % 8 * 8 : Nat) : Int) from congrArg (Value.int .i64) (by rw [wrap_i64 (by omega) (by omega)]; omega)) ?_; refine HD_r rfl rfl rfl (R_shl (n := i % 8 * 8) rfl rfl rfl (show _ ≤ 64 from by omega) (shl_u64 (sh_lt (u8_lt _) (by omega)))) ?_; refine HD_r rfl rfl rfl (R_bits64 (op := .xor) (b := (((abS a u i).getD (i / 8) 0 ^^^ (u.getD i 0).toNat * 2 ^ (i % 8 * 8) : Nat) : Int)) rfl rfl rfl ((habk i).get _) (sh_lt (u8_lt _) (by omega)) rfl) ?_; refine HD_r rfl rfl rfl (R_indexA (j := i / 8) (m := 1) (off' := i / 8) rfl rfl rfl rfl (by omega) (by omega) (by omega)) ?_; refine HD_end ?_; refine HL_storeAt (k := 0) (off := i / 8) (xs := (abS a u i).map uV) (ys := (abS a u (i + 1)).map uV) rfl rfl rfl rfl rfl rfl (by rw [List.length_map, (habk i).1]; omega) (set_mapU rfl) rfl ?_; refine HL_nil ?_; refine HQ_blockN (hK11 _ _ _ _ ?_); refine HC_region (HLp rfl (HL_wrap_i64 (by omega) (by omega) ?_)); refine HLm rfl (HL_nil (HQ_then ?_)); exact HQ_again (i + 1) (by omega) (by omega) (.cons rfl (.cons rfl (.cons rfl (.cons rfl .nil)))) (List.Sublist.refl _) (fun _ _ h => h)
    · try exact Bool.noConfusion h10
      try simp only [ZZ] at h10
      refine HC_exit (HQ_thenE ?_); refine HQ_thenE (HQ_blockE (hK6 _ _ _ _ ?_))
      have hi136 : 136 = i := by omega
      subst hi136; refine HC_region (HL_r rfl rfl rfl rfl (R_loadArr (xs := (abS a u 136).map uV) (n := 25) rfl (known_L (k := 0) rfl) rfl rfl (by rw [List.length_map, (habk 136).1])) (HL_callP rfl rfl rfl (enters_of Tryz.func64 (by kernel_rfl) rfl) (P_Permute (habk 136)) ?_)); refine HL_storeArr (k := 0) (n := 25) (ys := (permA (abS a u 136)).map uV) rfl rfl rfl rfl rfl (by rw [List.length_map, (permA_ok (habk 136)).1]) (by rw [List.size_toArray, List.length_map, (habk 136).1]) (mapU_one _) rfl ?_; refine HL_nil ?_; refine HQ_blockN (HQ_round (sumS t (jj + 1)) ⟨rfl, by omega⟩ ?_); rw [show sumS t (jj + 1) = permA (abS a u 136) from by rw [hu, hsa]; rfl]; rfl
  · rintro D jj a hfi ⟨hsa, -⟩
    have hjN : jj = N := hfi
    have hak : SOk 25 a := by rw [hsa]; exact sumS_ok t jj
    have hkec2 : kec s = outL a 32 := by rw [hkec, hsa, hjN]
    refine HQ_blockN (hK4 _ _ _ _ ?_); refine HC_seq fun K13 hK13 => HC_region ?_; refine HL_make (n := 32) (b := 1) rfl rfl rfl rfl rfl rfl rfl rfl rfl (by decide) (by decide) fun r2 => ?_; refine HLm rfl ?_; refine HL_nil (hK13 _ _ _ _ ?_); refine HC_seq fun K14 hK14 => ?_; refine HC_seq fun K15 hK15 => HC_region ?_; refine HLm rfl (HL_r rfl rfl rfl rfl (R_lenSl rfl rfl) (HLm rfl ?_)); refine HL_nil (hK15 _ _ _ _ ?_); refine HC_block (HC_loop (σ := Nat) (fun i => i ≤ 32) (fun i => [(5, .pointer (some ⟨r1, 0, none⟩)), (9, .slice (some ⟨r2, 0, none⟩) 32 32), (47, .int .i64 32), (48, .int .i64 (i : Int))]) (fun i => [(r2, .cells ((outL a i ++ List.replicate (32 - i) 0).map bV).toArray 5 (0, 0)), (D, .deferred (some [])), (r1, kO a)]) (fun _ _ _ => True) (fun i => 32 - i) 0 (Nat.zero_le _) (.cons rfl (.cons rfl (.cons rfl (.cons rfl .nil)))) (.cons_cons _ (.cons_cons _ (.cons_cons _ (List.nil_sublist _)))) (fun _ _ h => h) ?_); intro i hi; refine HC_seq fun K16 hK16 => HC_region ?_; refine HLp rfl ?_; refine HL_nil (hK16 _ _ _ _ ?_); refine HC_seq fun K17 hK17 => ?_; refine HC_cond rfl (fun h18 => ?_) (fun h18 => ?_)
    · try exact Bool.noConfusion h18
      try simp only [ZZ] at h18
      refine HC_skip (hK17 _ _ _ _ ?_); refine HC_seq fun K19 hK19 => HC_block ?_; refine HC_seq fun K20 hK20 => HC_region ?_; refine HLm rfl (HLm rfl ?_); refine HL_nil (hK20 _ _ _ _ ?_); refine HC_region (HLm rfl ?_); refine HLm rfl (HLm rfl (HLp rfl ?_)); refine HL_as (show _ = Value.int .i64 ((i / 8 : Nat) : Int) from congrArg (Value.int .i64) (by rw [quo_i64 (by omega) (by omega) (by omega)]; omega)) ?_; refine HL_r rfl rfl rfl rfl (R_indexA (j := i / 8) (m := 1) (off' := i / 8) rfl rfl rfl rfl (by omega) (by omega) (by omega)) ?_; refine HL_r rfl rfl rfl rfl (R_loadAt rfl (known_L (k := 2) rfl) rfl (mapU_get (by rw [hak.1]; omega))) ?_; refine HLm rfl (HLp rfl ?_); refine HL_as (show _ = Value.int .i64 ((i % 8 : Nat) : Int) from congrArg (Value.int .i64) (by rw [Int.tmod_eq_emod_of_nonneg (by omega)]; omega)) ?_; refine HLp rfl ?_; refine HL_as (show _ = Value.int .i64 ((i % 8 * 8 : Nat) : Int) from congrArg (Value.int .i64) (by rw [wrap_i64 (by omega) (by omega)]; omega)) ?_; refine HL_r rfl rfl rfl rfl (R_shr (n := i % 8 * 8) rfl rfl rfl (show _ ≤ 64 from by omega) (by omega) (shr_nat _ _)) ?_; refine HLp rfl (HL_as (show _ = bV (UInt8.ofNat (a.getD (i / 8) 0 / 2 ^ (i % 8 * 8) % 256)) from byte_mod _) (HL_r rfl rfl rfl rfl (R_indexS (j := i) (m := 1) (off' := i) rfl rfl rfl rfl rfl (by omega) (by omega)) ?_)); refine HL_storeAt (k := 0) (off := i) (xs := (outL a i ++ List.replicate (32 - i) 0).map bV) (ys := (outL a (i + 1) ++ List.replicate (32 - (i + 1)) 0).map bV) rfl rfl rfl rfl rfl rfl (by simp [outL_len]; omega) (out_step (by omega)) rfl ?_; refine HL_nil ?_; refine HQ_blockN (hK19 _ _ _ _ ?_); refine HC_region (HLp rfl (HL_wrap_i64 (by omega) (by omega) ?_)); refine HLm rfl (HL_nil (HQ_then ?_)); exact HQ_again (i + 1) (by omega) (by omega) (.cons rfl (.cons rfl (.cons rfl (.cons rfl .nil)))) (List.Sublist.refl _) (fun _ _ h => h)
    · try exact Bool.noConfusion h18
      try simp only [ZZ] at h18
      refine HC_exit (HQ_thenE ?_); refine HQ_thenE (HQ_blockE (hK14 _ _ _ _ ?_)); refine HC_seq fun K21 hK21 => ?_
      have hi32 : 32 = i := by omega
      subst hi32; refine HC_region (HLm rfl ?_); refine HL_r rfl rfl rfl rfl (R_bytesStr (b := outL a 32) (row := some (r2, 32, [])) (e := 5) (show _ = some (rowV (outL a 32).length (some (r2, 32, []))) from by rw [outL_len]; rfl) ⟨by simp [outL_len], by simp [outL_len]⟩ (fun p hp => .inl (by rw [List.mem_singleton.1 hp]; simp)) rfl rfl rfl) ?_; refine HLm rfl ?_; refine HL_nil (hK21 _ _ _ _ ?_); refine HC_ret (HQ_mark (k := 1) rfl rfl ?_); refine HQ_post rfl rfl (.cons (res_tmp rfl) .nil) (fun w1 hs1 => ?_); exact ⟨by rw [hkec2]; rfl, hs1.keep⟩
  · exact fun _ _ _ h => h.elim
end Go.Proofs.YtlcbfphioeppaaaGreatDoor
namespace Go.Proofs.YtlcbfphioeppaaaGreatDoor
set_option linter.all false
open Go.SL Go.RowKit Go.Shelf
section
variable {c : Cx} {l : List (Nat × Value)} {L : List (Nat × Obj)} {X : XP} {d : List Deferred}
variable {i : Nat} {v : Value} {t : TypeId} {ps : String} {af : Array Edge} {gd : Option (Nat × Bool)} {ty t2 : TypeId}
theorem R_xorI {x y : Operand} {m n : Nat} (hx : evl l x = some (.int .i64 (m : Int))) (hy : evl l y = some (.int .i64 (n : Int))) (hm : m < 9223372036854775808) (hn : n < 9223372036854775808) :
    RunsTo c d l L X ⟨some i, .binOp .xor t x y t2, ty, ps, af, gd⟩ (.int .i64 ((m ^^^ n : Nat) : Int)) := fun a' w hfr _ => by
  have e1 : (BitVec.ofInt 64 (m : Int)).toNat = m := by simp [BitVec.toNat_ofInt]; omega
  have e2 : (BitVec.ofInt 64 (n : Int)).toNat = n := by simp [BitVec.toNat_ofInt]; omega
  have hx3 : m ^^^ n < 2 ^ 63 := Nat.xor_lt_two_pow (n := 63) hm hn
  have wr : IntKind.i64.wrap ((m ^^^ n : Nat) : Int) = ((m ^^^ n : Nat) : Int) := wrap_i64 (by omega) (by omega)
  simp only [execOp]; rw [hfr.eval hx, hfr.eval hy]
  have e3 : (BitVec.ofInt 64 (m : Int) ^^^ BitVec.ofInt 64 (n : Int)).toNat = m ^^^ n := by rw [BitVec.toNat_xor, e1, e2]
  show Sem.run c.P (pure (Next.value (Value.int .i64 (IntKind.i64.wrap (((BitVec.ofInt 64 (m : Int) ^^^ BitVec.ofInt 64 (n : Int)).toNat : Nat) : Int))))) w = _
  rw [e3, wr]; rfl
end
theorem rotN_0 {n k : Nat} (hn : n < 18446744073709551616) (hk : k % 64 = 0) : rotN n k = n := by
  unfold rotN
  rw [hk, Nat.pow_zero, Nat.mul_one, Nat.mod_eq_of_lt hn, show 2 ^ (64 - 0) = 18446744073709551616 from rfl, Nat.div_eq_of_lt hn, Nat.or_zero]
set_option maxRecDepth 10000 in
theorem P_ref3_rot {n k : Nat} (hn : n < 18446744073709551616) (hk : k < 9223372036854775808) : Pure Tryz.prog 224 [uV n, .int .i64 (k : Int)].toArray (uV (rotN n k)) := by
  refine pure_of_HC Tryz.func224 rfl rfl fun w => ?_
  have hk6 : k % 64 < 64 := Nat.mod_lt _ (by decide)
  refine HC_seq fun K1 hK1 => HC_region ?_; refine HLm rfl ?_; refine HL_nil (hK1 _ _ _ _ ?_); refine HC_seq fun K2 hK2 => HC_region ?_; refine HLm rfl (HLp rfl ?_); refine HL_as (show _ = Value.int .i64 ((k % 64 : Nat) : Int) from congrArg (Value.int .i64) (by rw [Int.tmod_eq_emod_of_nonneg (by omega)]; omega)) ?_; refine HLm rfl ?_; refine HL_nil (hK2 _ _ _ _ ?_); refine HC_seq fun K3 hK3 => ?_; refine HC_seq fun K4 hK4 => HC_region ?_; refine HLm rfl (HLp rfl ?_); refine HL_nil (hK4 _ _ _ _ ?_); refine HC_cond rfl (fun h5 => ?_) (fun h5 => ?_)
  · try exact Bool.noConfusion h5
    try simp only [ZZ] at h5
    refine HC_seq fun K6 hK6 => HC_region ?_; refine HLm rfl (HLm rfl ?_); refine HL_nil (hK6 _ _ _ _ ?_); refine HC_ret (HQ_thenR ?_); refine HQ_post rfl rfl (.cons (res_tmp rfl) .nil) (fun w1 hs1 => ?_); exact ⟨by rw [rotN_0 hn (by omega)]; rfl, hs1.keep⟩
  · try exact Bool.noConfusion h5
    try simp only [ZZ] at h5
    refine HC_skip (hK3 _ _ _ _ ?_); refine HC_seq fun K7 hK7 => HC_region ?_; refine HLm rfl (HLm rfl ?_); refine HLp rfl (HL_as (show _ = uV (k % 64) from congrArg (Value.int .u64) (wrap_u64 (z := ((k % 64 : Nat) : Int)) (by omega) (by omega))) (HL_r rfl rfl rfl rfl (R_shl (n := k % 64) (b := ((n * 2 ^ (k % 64) % 18446744073709551616 : Nat) : Int)) rfl rfl rfl (show _ ≤ 64 from by omega) (wrapU _)) ?_)); refine HLm rfl (HLm rfl (HLp rfl ?_)); refine HL_as (show _ = Value.int .i64 ((64 - k % 64 : Nat) : Int) from congrArg (Value.int .i64) (by rw [wrap_i64 (by omega) (by omega)]; omega)) ?_; refine HLp rfl (HL_as (show _ = uV (64 - k % 64) from congrArg (Value.int .u64) (wrap_u64 (z := ((64 - k % 64 : Nat) : Int)) (by omega) (by omega))) (HL_r rfl rfl rfl rfl (R_shr (n := 64 - k % 64) rfl rfl rfl (show _ ≤ 64 from by omega) (by omega) (shr_nat _ _)) ?_)); refine HL_r rfl rfl rfl rfl (R_bits64 (op := .or) (b := ((rotN n k : Nat) : Int)) rfl rfl rfl (Nat.mod_lt _ (by decide)) (Nat.lt_of_le_of_lt (Nat.div_le_self _ _) hn) rfl) ?_; refine HLm rfl ?_; refine HL_nil (hK7 _ _ _ _ ?_); refine HC_ret ?_; refine HQ_post rfl rfl (.cons (res_tmp rfl) .nil) (fun w1 hs1 => ?_); exact ⟨rfl, hs1.keep⟩
/-- The shift register of the round numbers. -/
def lfS : Nat → Nat
  | 0 => 1
  | i + 1 => if lfS i * 2 ≥ 256 then lfS i * 2 ^^^ 369 else lfS i * 2
theorem lfS_lt : ∀ i, lfS i < 256
  | 0 => by decide
  | i + 1 => by
    have h := lfS_lt i
    have key : ∀ v : Fin 256, (if v.val * 2 ≥ 256 then v.val * 2 ^^^ 369 else v.val * 2) < 256 := by decide +kernel
    exact key ⟨lfS i, h⟩
theorem lf_lo {i : Nat} (h : lfS i * 2 < 256) : lfS (i + 1) = lfS i * 2 := by
  show (if lfS i * 2 ≥ 256 then lfS i * 2 ^^^ 369 else lfS i * 2) = _; rw [if_neg (by omega)]
theorem lf_hi {i : Nat} (h : 256 ≤ lfS i * 2) : lfS (i + 1) = (lfS i * 2) ^^^ 369 := by
  show (if lfS i * 2 ≥ 256 then lfS i * 2 ^^^ 369 else lfS i * 2) = _; rw [if_pos h]
def bitN (n : Nat) : Nat := lfS (n % 255) % 2
set_option maxRecDepth 10000 in
theorem P_ref3_bit {n : Nat} (hn : n < 9223372036854775808) : Pure Tryz.prog 225 [.int .i64 (n : Int)].toArray (uV (bitN n)) := by
  refine pure_of_HC Tryz.func225 rfl rfl fun w => ?_; refine HC_seq fun K1 hK1 => HC_region ?_; refine HLm rfl ?_; refine HL_nil (hK1 _ _ _ _ ?_); refine HC_seq fun K2 hK2 => HC_region ?_; refine HLm rfl ?_; refine HL_nil (hK2 _ _ _ _ ?_); refine HC_seq fun K3 hK3 => ?_; refine HC_seq fun K4 hK4 => HC_region ?_; refine HLm rfl ?_; refine HL_nil (hK4 _ _ _ _ ?_); refine HC_block (HC_loop (σ := Nat) (fun i => i ≤ n % 255) (fun i => [(0, .int .i64 (n : Int)), (3, .int .i64 (lfS i : Int)), (4, .int .i64 (i : Int))]) (fun _ => []) (fun _ _ _ => True) (fun i => n % 255 - i) 0 (Nat.zero_le _) (.cons rfl (.cons rfl (.cons rfl .nil))) (List.nil_sublist _) (fun _ _ h => h) ?_); intro i hi
  have hlf := lfS_lt i
  refine HC_seq fun K5 hK5 => ?_; refine HC_seq fun K6 hK6 => HC_region ?_; refine HLm rfl (HLm rfl (HLp rfl ?_)); refine HL_as (show _ = Value.int .i64 ((n % 255 : Nat) : Int) from congrArg (Value.int .i64) (by rw [Int.tmod_eq_emod_of_nonneg (by omega)]; omega)) ?_; refine HLp rfl ?_; refine HL_nil (hK6 _ _ _ _ ?_); refine HC_cond rfl (fun h7 => ?_) (fun h7 => ?_)
  · try exact Bool.noConfusion h7
    try simp only [ZZ] at h7
    refine HC_skip (hK5 _ _ _ _ ?_); refine HC_seq fun K8 hK8 => HC_block ?_; refine HC_seq fun K9 hK9 => HC_region ?_; refine HLm rfl (HLp rfl ?_); refine HL_as (show _ = Value.int .i64 ((lfS i * 2 : Nat) : Int) from congrArg (Value.int .i64) (by rw [wrap_i64 (by omega) (by omega)]; omega)) ?_; refine HLm rfl ?_; refine HL_nil (hK9 _ _ _ _ ?_); refine HC_seq fun K10 hK10 => HC_region ?_; refine HLm rfl (HLp rfl ?_); refine HL_nil (hK10 _ _ _ _ ?_); refine HC_cond rfl (fun h11 => ?_) (fun h11 => ?_)
    · try exact Bool.noConfusion h11
      try simp only [ZZ] at h11
      refine HC_region (HLm rfl (HL_r rfl rfl rfl rfl (R_xorI (n := 369) rfl rfl (by omega) (by decide)) ?_)); refine HLm rfl (HL_nil ?_); refine HQ_blockN (hK8 _ _ _ _ ?_); refine HC_region (HLm rfl ?_); refine HLp rfl (HL_wrap_i64 (by omega) (by omega) ?_); refine HLm rfl (HL_nil (HQ_then ?_)); exact HQ_again (i + 1) (by omega) (by omega) (.cons rfl (.cons (by rw [lf_hi (i := i) (by omega)]; rfl) (.cons rfl .nil))) (List.nil_sublist _) (fun _ _ h => h)
    · try exact Bool.noConfusion h11
      try simp only [ZZ] at h11
      refine HC_skip (HQ_blockN (hK8 _ _ _ _ ?_)); refine HC_region (HLm rfl ?_); refine HLp rfl (HL_wrap_i64 (by omega) (by omega) ?_); refine HLm rfl (HL_nil (HQ_then ?_)); exact HQ_again (i + 1) (by omega) (by omega) (.cons rfl (.cons (by rw [lf_lo (i := i) (by omega)]; rfl) (.cons rfl .nil))) (List.nil_sublist _) (fun _ _ h => h)
  · try exact Bool.noConfusion h7
    try simp only [ZZ] at h7
    refine HC_exit (HQ_thenE ?_); refine HQ_thenE (HQ_blockE (hK3 _ _ _ _ ?_)); refine HC_seq fun K12 hK12 => ?_
    have hin : n % 255 = i := by omega
    refine HC_region (HLm rfl (HLp rfl ?_)); refine HL_as (show _ = Value.int .i64 ((lfS i % 2 : Nat) : Int) from congrArg (Value.int .i64) (by rw [Int.tmod_eq_emod_of_nonneg (by omega)]; omega)) ?_; refine HLp rfl (HL_as (show _ = uV (lfS i % 2) from congrArg (Value.int .u64) (wrap_u64 (z := ((lfS i % 2 : Nat) : Int)) (by omega) (by omega))) (HLm rfl ?_)); refine HL_nil (hK12 _ _ _ _ ?_); refine HC_ret ?_; refine HQ_post rfl rfl (.cons (res_tmp rfl) .nil) (fun w1 hs1 => ?_); exact ⟨by unfold bitN; rw [hin]; rfl, hs1.keep⟩
/-- The round numbers, bit by bit. -/
def nbS (i : Nat) : Nat → Nat
  | 0 => 0
  | j + 1 => nbS i j ||| bitN (7 * i + j) * 2 ^ (2 ^ j - 1)
theorem bitN_lt (n : Nat) : bitN n < 2 := Nat.mod_lt _ (by decide)
theorem bsh_lt {b k : Nat} (hb : b < 2) (hk : k ≤ 63) : b * 2 ^ k < 18446744073709551616 := by
  have h1 : (2 : Nat) ^ k ≤ 2 ^ 63 := Nat.pow_le_pow_right (by decide) hk
  have h2 : b * 2 ^ k ≤ 1 * 2 ^ k := Nat.mul_le_mul_right _ (by omega)
  omega
theorem pow7 {j : Nat} (h : j < 7) : 1 ≤ 2 ^ j ∧ 2 ^ j ≤ 64 := by
  have h1 : (2 : Nat) ^ j ≤ 2 ^ 6 := Nat.pow_le_pow_right (by decide) (by omega)
  exact ⟨Nat.one_le_two_pow, h1⟩
theorem nbS_lt (i : Nat) : ∀ j, j ≤ 7 → nbS i j < 18446744073709551616
  | 0, _ => by show 0 < 18446744073709551616; decide
  | j + 1, h => or_lt64 (nbS_lt i j (by omega)) (bsh_lt (bitN_lt _) (by have := pow7 (j := j) (by omega); omega))
set_option maxRecDepth 10000 in
theorem nbS_nums : ∀ i : Fin 24, nbS i.val 7 = numsL.getD i.val 0 := by decide +kernel
set_option maxRecDepth 10000 in
theorem P_ref3_number {n : Nat} (hn : n < 24) : Pure Tryz.prog 210 [.int .i64 (n : Int)].toArray (uV (numsL.getD n 0)) := by
  refine pure_of_HC Tryz.func210 rfl rfl fun w => ?_; refine HC_seq fun K1 hK1 => HC_region ?_; refine HLm rfl ?_; refine HL_nil (hK1 _ _ _ _ ?_); refine HC_seq fun K2 hK2 => HC_region ?_; refine HLm rfl ?_; refine HL_nil (hK2 _ _ _ _ ?_); refine HC_seq fun K3 hK3 => HC_region ?_; refine HLm rfl ?_; refine HL_nil (hK3 _ _ _ _ ?_); refine HC_seq fun K4 hK4 => ?_; refine HC_seq fun K5 hK5 => HC_region ?_; refine HLm rfl ?_; refine HL_nil (hK5 _ _ _ _ ?_); refine HC_block (HC_loop (σ := Nat) (fun i => i ≤ 7) (fun i => [(0, .int .i64 (n : Int)), (3, uV (nbS n i)), (4, .int .i64 ((2 ^ i : Nat) : Int)), (5, .int .i64 (i : Int))]) (fun _ => []) (fun _ _ _ => True) (fun i => 7 - i) 0 (Nat.zero_le _) (.cons rfl (.cons rfl (.cons rfl (.cons rfl .nil)))) (List.nil_sublist _) (fun _ _ h => h) ?_); intro i hi; refine HC_seq fun K6 hK6 => ?_; refine HC_seq fun K7 hK7 => HC_region ?_; refine HLm rfl (HLp rfl ?_); refine HL_nil (hK7 _ _ _ _ ?_); refine HC_cond rfl (fun h8 => ?_) (fun h8 => ?_)
  · try exact Bool.noConfusion h8
    try simp only [ZZ] at h8
    refine HC_skip (hK6 _ _ _ _ ?_); refine HC_seq fun K9 hK9 => HC_block ?_; refine HC_seq fun K10 hK10 => ?_
    have hpw := pow7 (j := i) (by omega)
    refine HC_region (HLm rfl ?_); refine HLm rfl (HLp rfl ?_); refine HL_as (show _ = Value.int .i64 ((7 * n : Nat) : Int) from congrArg (Value.int .i64) (by rw [wrap_i64 (by omega) (by omega)]; omega)) ?_; refine HLm rfl (HLp rfl ?_); refine HL_as (show _ = Value.int .i64 ((7 * n + i : Nat) : Int) from congrArg (Value.int .i64) (by rw [wrap_i64 (by omega) (by omega)]; omega)) ?_; refine HL_callP rfl rfl rfl (enters_of Tryz.func225 (by kernel_rfl) rfl) (P_ref3_bit (n := 7 * n + i) (by omega)) ?_; refine HLm rfl (HLp rfl ?_); refine HL_as (show _ = Value.int .i64 ((2 ^ i - 1 : Nat) : Int) from congrArg (Value.int .i64) (by rw [wrap_i64 (by omega) (by omega)]; omega)) ?_; refine HLp rfl (HL_as (show _ = uV (2 ^ i - 1) from congrArg (Value.int .u64) (wrap_u64 (z := ((2 ^ i - 1 : Nat) : Int)) (by omega) (by omega))) (HL_r rfl rfl rfl rfl (R_shl (n := 2 ^ i - 1) rfl rfl rfl (show _ ≤ 64 from by omega) (shl_u64 (bsh_lt (bitN_lt _) (by omega)))) ?_)); refine HL_r rfl rfl rfl rfl (R_bits64 (op := .or) (b := ((nbS n (i + 1) : Nat) : Int)) rfl rfl rfl (nbS_lt n i (by omega)) (bsh_lt (bitN_lt _) (by omega)) rfl) ?_; refine HLm rfl ?_; refine HL_nil (hK10 _ _ _ _ ?_); refine HC_region (HLm rfl (HLp rfl ?_)); refine HL_as (show _ = Value.int .i64 ((2 ^ (i + 1) : Nat) : Int) from congrArg (Value.int .i64) (by rw [Nat.pow_succ, wrap_i64 (by omega) (by omega)]; omega)) ?_; refine HLm rfl (HL_nil ?_); refine HQ_blockN (hK9 _ _ _ _ ?_); refine HC_region (HLm rfl ?_); refine HLp rfl (HL_wrap_i64 (by omega) (by omega) ?_); refine HLm rfl (HL_nil (HQ_then ?_)); exact HQ_again (i + 1) (by omega) (by omega) (.cons rfl (.cons rfl (.cons rfl (.cons rfl .nil)))) (List.nil_sublist _) (fun _ _ h => h)
  · try exact Bool.noConfusion h8
    try simp only [ZZ] at h8
    refine HC_exit (HQ_thenE ?_); refine HQ_thenE (HQ_blockE (hK4 _ _ _ _ ?_)); refine HC_seq fun K11 hK11 => ?_
    have hi7 : 7 = i := by omega
    subst hi7; refine HC_region (HLm rfl (HLm rfl ?_)); refine HL_nil (hK11 _ _ _ _ ?_); refine HC_ret ?_; refine HQ_post rfl rfl (.cons (res_tmp rfl) .nil) (fun w1 hs1 => ?_); exact ⟨by rw [← nbS_nums ⟨n, hn⟩]; rfl, hs1.keep⟩
end Go.Proofs.YtlcbfphioeppaaaGreatDoor
namespace Go.Proofs.YtlcbfphioeppaaaGreatDoor
set_option linter.all false
open Go.SL Go.RowKit Go.Shelf
def lO (a : List Nat) : Obj := .cells (a.map uV).toArray 72 (0, 0)
set_option maxRecDepth 10000 in
theorem P_ref3_mix {a : List Nat} (ha : SOk 25 a) : Pure Tryz.prog 209 [.agg (a.map uV).toArray].toArray (.agg ((mixA a).map uV).toArray) := by
  refine pure_of_HC Tryz.func209 rfl rfl fun w => ?_
  have hal := ha.1
  obtain ⟨cc, hcc⟩ : ∃ c, c = cS a 25 := ⟨_, rfl⟩
  have hc : SOk 5 cc := by rw [hcc]; exact cS_ok ha 25
  have hmx : mixA a = mS cc a 25 := by rw [hcc]; rfl
  have hck := fun i => cS_ok ha i
  have hmk := fun i => mS_ok hc ha i
  rw [hmx]; refine HC_seq fun K1 hK1 => HC_region ?_; refine HL_box (cs := (a.map uV).toArray) rfl rfl rfl rfl fun r1 => ?_; refine HL_alloc (cs := (z25.map uV).toArray) rfl rfl rfl rfl fun r2 => ?_; refine HL_nil (hK1 _ _ _ _ ?_); refine HC_seq fun K2 hK2 => HC_region ?_; refine HL_alloc (cs := ((cS a 0).map uV).toArray) rfl rfl rfl rfl fun r3 => ?_; refine HL_nil (hK2 _ _ _ _ ?_); refine HC_seq fun K3 hK3 => ?_; refine HC_seq fun K4 hK4 => HC_region ?_; refine HLm rfl ?_; refine HL_nil (hK4 _ _ _ _ ?_); refine HC_block (HC_loop (σ := Nat) (fun i => i ≤ 25) (fun i => [(1, .pointer (some ⟨r1, 0, none⟩)), (2, .pointer (some ⟨r2, 0, none⟩)), (3, .pointer (some ⟨r3, 0, none⟩)), (4, .int .i64 (i : Int))]) (fun i => [(r3, cO (cS a i)), (r2, lO z25), (r1, lO a)]) (fun _ _ _ => True) (fun i => 25 - i) 0 (Nat.zero_le _) (.cons rfl (.cons rfl (.cons rfl (.cons rfl .nil)))) (List.Sublist.refl _) (fun _ _ h => h) ?_); intro i hi; refine HC_seq fun K5 hK5 => ?_; refine HC_seq fun K6 hK6 => HC_region ?_; refine HLm rfl (HLp rfl ?_); refine HL_nil (hK6 _ _ _ _ ?_); refine HC_cond rfl (fun h7 => ?_) (fun h7 => ?_)
  · try exact Bool.noConfusion h7
    try simp only [ZZ] at h7
    refine HC_skip (hK5 _ _ _ _ ?_); refine HC_seq fun K8 hK8 => HC_block ?_; refine HC_draw 11 (by kernel_rfl) (by kernel_rfl) ?_; refine HD_r rfl rfl rfl (R_move rfl) ?_; refine HD_r rfl rfl rfl (R_pure rfl rfl rfl) ?_; refine HD_as (show _ = Value.int .i64 ((i % 5 : Nat) : Int) from congrArg (Value.int .i64) (by rw [Int.tmod_eq_emod_of_nonneg (by omega)]; omega)) ?_; refine HD_r rfl rfl rfl (R_move rfl) ?_; refine HD_r rfl rfl rfl (R_pure rfl rfl rfl) ?_; refine HD_as (show _ = Value.int .i64 ((i % 5 : Nat) : Int) from congrArg (Value.int .i64) (by rw [Int.tmod_eq_emod_of_nonneg (by omega)]; omega)) ?_; refine HD_r rfl rfl rfl (R_indexA (j := i % 5) (m := 1) (off' := i % 5) rfl rfl rfl rfl (by omega) (by omega) (by omega)) ?_; refine HD_r rfl rfl rfl (R_loadAt rfl (known_L (k := 0) rfl) rfl (mapU_get (by rw [(hck i).1]; omega))) ?_; refine HD_r rfl rfl rfl (R_move rfl) ?_; refine HD_r rfl rfl rfl (R_indexA (j := i) (m := 1) (off' := i) rfl rfl rfl rfl (by omega) (by omega) (by omega)) ?_; refine HD_r rfl rfl rfl (R_loadAt rfl (known_L (k := 2) rfl) rfl (mapU_get (by rw [hal]; omega))) ?_; refine HD_r rfl rfl rfl (R_bits64 (op := .xor) (b := (((cS a i).getD (i % 5) 0 ^^^ a.getD i 0 : Nat) : Int)) rfl rfl rfl ((hck i).get _) (ha.get _) rfl) ?_; refine HD_r rfl rfl rfl (R_indexA (j := i % 5) (m := 1) (off' := i % 5) rfl rfl rfl rfl (by omega) (by omega) (by omega)) ?_; refine HD_end ?_; refine HL_storeAt (k := 0) (off := i % 5) (xs := (cS a i).map uV) (ys := (cS a (i + 1)).map uV) rfl rfl rfl rfl rfl rfl (by rw [List.length_map, (hck i).1]; omega) (set_mapU rfl) rfl ?_; refine HL_nil ?_; refine HQ_blockN (hK8 _ _ _ _ ?_); refine HC_region (HLm rfl ?_); refine HLp rfl (HL_wrap_i64 (by omega) (by omega) ?_); refine HLm rfl (HL_nil (HQ_then ?_)); exact HQ_again (i + 1) (by omega) (by omega) (.cons rfl (.cons rfl (.cons rfl (.cons rfl .nil)))) (List.Sublist.refl _) (fun _ _ h => h)
  · try exact Bool.noConfusion h7
    try simp only [ZZ] at h7
    refine HC_exit (HQ_thenE ?_); refine HQ_thenE (HQ_blockE (hK3 _ _ _ _ ?_)); refine HC_seq fun K9 hK9 => ?_; refine HC_seq fun K10 hK10 => ?_
    have hi25 : 25 = i := by omega
    subst hi25; rw [← hcc]; refine HC_region (HLm rfl ?_); refine HL_nil (hK10 _ _ _ _ ?_); refine HC_block (HC_loop (σ := Nat) (fun i => i ≤ 25) (fun i => [(1, .pointer (some ⟨r1, 0, none⟩)), (2, .pointer (some ⟨r2, 0, none⟩)), (3, .pointer (some ⟨r3, 0, none⟩)), (5, .int .i64 (i : Int))]) (fun i => [(r3, cO cc), (r2, lO z25), (r1, lO (mS cc a i))]) (fun _ _ _ => True) (fun i => 25 - i) 0 (Nat.zero_le _) (.cons rfl (.cons rfl (.cons rfl (.cons rfl .nil)))) (List.Sublist.refl _) (fun _ _ h => h) ?_); intro i hi; refine HC_seq fun K11 hK11 => ?_; refine HC_seq fun K12 hK12 => HC_region ?_; refine HLm rfl (HLp rfl ?_); refine HL_nil (hK12 _ _ _ _ ?_); refine HC_cond rfl (fun h13 => ?_) (fun h13 => ?_)
    · try exact Bool.noConfusion h13
      try simp only [ZZ] at h13
      refine HC_skip (hK11 _ _ _ _ ?_); refine HC_seq fun K14 hK14 => HC_block ?_; refine HC_seq fun K15 hK15 => HC_region ?_; refine HLm rfl (HLp rfl ?_); refine HL_as (show _ = Value.int .i64 ((i % 5 : Nat) : Int) from congrArg (Value.int .i64) (by rw [Int.tmod_eq_emod_of_nonneg (by omega)]; omega)) ?_; refine HLm rfl ?_; refine HL_nil (hK15 _ _ _ _ ?_); refine HC_draw 18 (by kernel_rfl) (by kernel_rfl) ?_; refine HD_r rfl rfl rfl (R_move rfl) ?_; refine HD_r rfl rfl rfl (R_move rfl) ?_; refine HD_r rfl rfl rfl (R_indexA (j := i) (m := 1) (off' := i) rfl rfl rfl rfl (by omega) (by omega) (by omega)) ?_; refine HD_r rfl rfl rfl (R_loadAt rfl (known_L (k := 2) rfl) rfl (mapU_get (by rw [(hmk i).1]; omega))) ?_; refine HD_r rfl rfl rfl (R_move rfl) ?_; refine HD_r rfl rfl rfl (R_pure rfl rfl rfl) ?_; refine HD_as (show _ = Value.int .i64 ((i % 5 + 5 - 1 : Nat) : Int) from congrArg (Value.int .i64) (by rw [wrap_i64 (by omega) (by omega)]; omega)) ?_; refine HD_r rfl rfl rfl (R_pure rfl rfl rfl) ?_; refine HD_as (show _ = Value.int .i64 (((i % 5 + 5 - 1) % 5 : Nat) : Int) from congrArg (Value.int .i64) (by rw [Int.tmod_eq_emod_of_nonneg (by omega)]; omega)) ?_; refine HD_r rfl rfl rfl (R_indexA (j := (i % 5 + 5 - 1) % 5) (m := 1) (off' := (i % 5 + 5 - 1) % 5) rfl rfl rfl rfl (by omega) (by omega) (by omega)) ?_; refine HD_r rfl rfl rfl (R_loadAt rfl (known_L (k := 0) rfl) rfl (mapU_get (by rw [hc.1]; omega))) ?_; refine HD_r rfl rfl rfl (R_bits64 (op := .xor) (b := (((mS cc a i).getD i 0 ^^^ cc.getD ((i % 5 + 5 - 1) % 5) 0 : Nat) : Int)) rfl rfl rfl ((hmk i).get _) (hc.get _) rfl) ?_; refine HD_r rfl rfl rfl (R_move rfl) ?_; refine HD_r rfl rfl rfl (R_pure rfl rfl rfl) ?_; refine HD_as (show _ = Value.int .i64 ((i % 5 + 1 : Nat) : Int) from congrArg (Value.int .i64) (by rw [wrap_i64 (by omega) (by omega)]; omega)) ?_; refine HD_r rfl rfl rfl (R_pure rfl rfl rfl) ?_; refine HD_as (show _ = Value.int .i64 (((i % 5 + 1) % 5 : Nat) : Int) from congrArg (Value.int .i64) (by rw [Int.tmod_eq_emod_of_nonneg (by omega)]; omega)) ?_; refine HD_r rfl rfl rfl (R_indexA (j := (i % 5 + 1) % 5) (m := 1) (off' := (i % 5 + 1) % 5) rfl rfl rfl rfl (by omega) (by omega) (by omega)) ?_; refine HD_r rfl rfl rfl (R_loadAt rfl (known_L (k := 0) rfl) rfl (mapU_get (by rw [hc.1]; omega))) ?_; refine HD_callP rfl rfl rfl (enters_of Tryz.func224 (by kernel_rfl) rfl) (P_ref3_rot (k := 1) (hc.get _) (by decide)) ?_; refine HD_r rfl rfl rfl (R_bits64 (op := .xor) (b := (((mS cc a i).getD i 0 ^^^ (cc.getD ((i % 5 + 5 - 1) % 5) 0 ^^^ rotN (cc.getD ((i % 5 + 1) % 5) 0) 1) : Nat) : Int)) rfl rfl rfl (xor_lt64 ((hmk i).get _) (hc.get _)) (rotN_lt (hc.get _) 1) (congrArg (fun z : Nat => (z : Int)) (Nat.xor_assoc _ _ _))) ?_; refine HD_r rfl rfl rfl (R_indexA (j := i) (m := 1) (off' := i) rfl rfl rfl rfl (by omega) (by omega) (by omega)) ?_; refine HD_end ?_; refine HL_storeAt (k := 2) (off := i) (xs := (mS cc a i).map uV) (ys := (mS cc a (i + 1)).map uV) rfl rfl rfl rfl rfl rfl (by rw [List.length_map, (hmk i).1]; omega) (set_mapU rfl) rfl ?_; refine HL_nil ?_; refine HQ_blockN (hK14 _ _ _ _ ?_); refine HC_region (HLm rfl ?_); refine HLp rfl (HL_wrap_i64 (by omega) (by omega) ?_); refine HLm rfl (HL_nil (HQ_then ?_)); exact HQ_again (i + 1) (by omega) (by omega) (.cons rfl (.cons rfl (.cons rfl (.cons rfl .nil)))) (List.Sublist.refl _) (fun _ _ h => h)
    · try exact Bool.noConfusion h13
      try simp only [ZZ] at h13
      refine HC_exit (HQ_thenE ?_); refine HQ_thenE (HQ_blockE (hK9 _ _ _ _ ?_)); refine HC_seq fun K16 hK16 => ?_
      have hi25 : 25 = i := by omega
      subst hi25; refine HC_region (HL_r rfl rfl rfl rfl (R_loadArr (xs := (mS cc a 25).map uV) (n := 25) rfl (known_L (k := 2) rfl) rfl rfl (by rw [List.length_map, (hmk 25).1])) (HL_storeArr (k := 1) (n := 25) (ys := (mS cc a 25).map uV) rfl rfl rfl rfl rfl (by rw [List.length_map, (hmk 25).1]) rfl (mapU_one _) rfl ?_)); refine HL_nil (hK16 _ _ _ _ ?_); refine HC_ret ?_; refine HQ_post rfl rfl (.cons (res_cellA (vs := (mS cc a 25).map uV) rfl (known_L (k := 1) rfl) rfl (by rw [List.length_map, (hmk 25).1]; rfl)) .nil) (fun w1 hs1 => ?_); exact ⟨rfl, hs1.keep⟩
end Go.Proofs.YtlcbfphioeppaaaGreatDoor
namespace Go.Proofs.YtlcbfphioeppaaaGreatDoor
set_option linter.all false
open Go.SL Go.RowKit Go.Shelf
def tXY : Nat → Nat × Nat
  | 0 => (1, 0)
  | t + 1 => ((tXY t).2, (2 * (tXY t).1 + 3 * (tXY t).2) % 5)
def tX (t : Nat) : Nat := (tXY t).1
def tY (t : Nat) : Nat := (tXY t).2
theorem tXY_lt : ∀ t, tX t < 5 ∧ tY t < 5
  | 0 => by decide
  | t + 1 => ⟨(tXY_lt t).2, Nat.mod_lt _ (by decide)⟩
def tS (a : List Nat) : Nat → List Nat
  | 0 => a
  | t + 1 => (tS a t).set (tX t + 5 * tY t) (rotN ((tS a t).getD (tX t + 5 * tY t) 0) ((t + 1) * (t + 2) / 2))
theorem tS_ok {a : List Nat} (h : SOk 25 a) : ∀ t, SOk 25 (tS a t)
  | 0 => h
  | t + 1 => (tS_ok h t).set _ (rotN_lt ((tS_ok h t).get _) _)
def bS (a : List Nat) : Nat → List Nat
  | 0 => z25
  | i + 1 => (bS a i).set (i / 5 + 5 * ((2 * (i % 5) + 3 * (i / 5)) % 5)) (a.getD i 0)
theorem bS_ok {a : List Nat} (h : SOk 25 a) : ∀ i, SOk 25 (bS a i)
  | 0 => z25_ok
  | i + 1 => (bS_ok h i).set _ (h.get _)
theorem lanes {a : List Nat} (h : a.length = 25) : ∃ a0 a1 a2 a3 a4 a5 a6 a7 a8 a9 a10 a11 a12 a13 a14 a15 a16 a17 a18 a19 a20 a21 a22 a23 a24, a = [a0, a1, a2, a3, a4, a5, a6, a7, a8, a9, a10, a11, a12, a13, a14, a15, a16, a17, a18, a19, a20, a21, a22, a23, a24] := by
  match a, h with
  | [a0, a1, a2, a3, a4, a5, a6, a7, a8, a9, a10, a11, a12, a13, a14, a15, a16, a17, a18, a19, a20, a21, a22, a23, a24], _ => exact ⟨_, _, _, _, _, _, _, _, _, _, _, _, _, _, _, _, _, _, _, _, _, _, _, _, _, rfl⟩
set_option maxRecDepth 20000 in
theorem rot_lanes (a0 a1 a2 a3 a4 a5 a6 a7 a8 a9 a10 a11 a12 a13 a14 a15 a16 a17 a18 a19 a20 a21 a22 a23 a24 : Nat) : rS [a0, a1, a2, a3, a4, a5, a6, a7, a8, a9, a10, a11, a12, a13, a14, a15, a16, a17, a18, a19, a20, a21, a22, a23, a24] turnsL 25 = [rotN a0 0, rotN a6 44, rotN a12 43, rotN a18 21, rotN a24 14, rotN a3 28, rotN a9 20, rotN a10 3, rotN a16 45, rotN a22 61, rotN a1 1, rotN a7 6, rotN a13 25, rotN a19 8, rotN a20 18, rotN a4 27, rotN a5 36, rotN a11 10, rotN a17 15, rotN a23 56, rotN a2 62, rotN a8 55, rotN a14 39, rotN a15 41, rotN a21 2] := by kernel_rfl
set_option maxRecDepth 20000 in
theorem turn_lanes (a0 a1 a2 a3 a4 a5 a6 a7 a8 a9 a10 a11 a12 a13 a14 a15 a16 a17 a18 a19 a20 a21 a22 a23 a24 : Nat) : tS [a0, a1, a2, a3, a4, a5, a6, a7, a8, a9, a10, a11, a12, a13, a14, a15, a16, a17, a18, a19, a20, a21, a22, a23, a24] 24 = [a0, rotN a1 1, rotN a2 190, rotN a3 28, rotN a4 91, rotN a5 36, rotN a6 300, rotN a7 6, rotN a8 55, rotN a9 276, rotN a10 3, rotN a11 10, rotN a12 171, rotN a13 153, rotN a14 231, rotN a15 105, rotN a16 45, rotN a17 15, rotN a18 21, rotN a19 136, rotN a20 210, rotN a21 66, rotN a22 253, rotN a23 120, rotN a24 78] := by
  have h1 : tS [a0, a1, a2, a3, a4, a5, a6, a7, a8, a9, a10, a11, a12, a13, a14, a15, a16, a17, a18, a19, a20, a21, a22, a23, a24] 1 = [a0, rotN a1 1, a2, a3, a4, a5, a6, a7, a8, a9, a10, a11, a12, a13, a14, a15, a16, a17, a18, a19, a20, a21, a22, a23, a24] := by
    show (tS [a0, a1, a2, a3, a4, a5, a6, a7, a8, a9, a10, a11, a12, a13, a14, a15, a16, a17, a18, a19, a20, a21, a22, a23, a24] 0).set (tX 0 + 5 * tY 0) (rotN ((tS [a0, a1, a2, a3, a4, a5, a6, a7, a8, a9, a10, a11, a12, a13, a14, a15, a16, a17, a18, a19, a20, a21, a22, a23, a24] 0).getD (tX 0 + 5 * tY 0) 0) ((0 + 1) * (0 + 2) / 2)) = _
    rw [show tS [a0, a1, a2, a3, a4, a5, a6, a7, a8, a9, a10, a11, a12, a13, a14, a15, a16, a17, a18, a19, a20, a21, a22, a23, a24] 0 = [a0, a1, a2, a3, a4, a5, a6, a7, a8, a9, a10, a11, a12, a13, a14, a15, a16, a17, a18, a19, a20, a21, a22, a23, a24] from rfl, show tX 0 + 5 * tY 0 = 1 from rfl]; rfl
  have h2 : tS [a0, a1, a2, a3, a4, a5, a6, a7, a8, a9, a10, a11, a12, a13, a14, a15, a16, a17, a18, a19, a20, a21, a22, a23, a24] 2 = [a0, rotN a1 1, a2, a3, a4, a5, a6, a7, a8, a9, rotN a10 3, a11, a12, a13, a14, a15, a16, a17, a18, a19, a20, a21, a22, a23, a24] := by
    show (tS [a0, a1, a2, a3, a4, a5, a6, a7, a8, a9, a10, a11, a12, a13, a14, a15, a16, a17, a18, a19, a20, a21, a22, a23, a24] 1).set (tX 1 + 5 * tY 1) (rotN ((tS [a0, a1, a2, a3, a4, a5, a6, a7, a8, a9, a10, a11, a12, a13, a14, a15, a16, a17, a18, a19, a20, a21, a22, a23, a24] 1).getD (tX 1 + 5 * tY 1) 0) ((1 + 1) * (1 + 2) / 2)) = _
    rw [h1, show tX 1 + 5 * tY 1 = 10 from rfl]; rfl
  have h3 : tS [a0, a1, a2, a3, a4, a5, a6, a7, a8, a9, a10, a11, a12, a13, a14, a15, a16, a17, a18, a19, a20, a21, a22, a23, a24] 3 = [a0, rotN a1 1, a2, a3, a4, a5, a6, rotN a7 6, a8, a9, rotN a10 3, a11, a12, a13, a14, a15, a16, a17, a18, a19, a20, a21, a22, a23, a24] := by
    show (tS [a0, a1, a2, a3, a4, a5, a6, a7, a8, a9, a10, a11, a12, a13, a14, a15, a16, a17, a18, a19, a20, a21, a22, a23, a24] 2).set (tX 2 + 5 * tY 2) (rotN ((tS [a0, a1, a2, a3, a4, a5, a6, a7, a8, a9, a10, a11, a12, a13, a14, a15, a16, a17, a18, a19, a20, a21, a22, a23, a24] 2).getD (tX 2 + 5 * tY 2) 0) ((2 + 1) * (2 + 2) / 2)) = _
    rw [h2, show tX 2 + 5 * tY 2 = 7 from rfl]; rfl
  have h4 : tS [a0, a1, a2, a3, a4, a5, a6, a7, a8, a9, a10, a11, a12, a13, a14, a15, a16, a17, a18, a19, a20, a21, a22, a23, a24] 4 = [a0, rotN a1 1, a2, a3, a4, a5, a6, rotN a7 6, a8, a9, rotN a10 3, rotN a11 10, a12, a13, a14, a15, a16, a17, a18, a19, a20, a21, a22, a23, a24] := by
    show (tS [a0, a1, a2, a3, a4, a5, a6, a7, a8, a9, a10, a11, a12, a13, a14, a15, a16, a17, a18, a19, a20, a21, a22, a23, a24] 3).set (tX 3 + 5 * tY 3) (rotN ((tS [a0, a1, a2, a3, a4, a5, a6, a7, a8, a9, a10, a11, a12, a13, a14, a15, a16, a17, a18, a19, a20, a21, a22, a23, a24] 3).getD (tX 3 + 5 * tY 3) 0) ((3 + 1) * (3 + 2) / 2)) = _
    rw [h3, show tX 3 + 5 * tY 3 = 11 from rfl]; rfl
  have h5 : tS [a0, a1, a2, a3, a4, a5, a6, a7, a8, a9, a10, a11, a12, a13, a14, a15, a16, a17, a18, a19, a20, a21, a22, a23, a24] 5 = [a0, rotN a1 1, a2, a3, a4, a5, a6, rotN a7 6, a8, a9, rotN a10 3, rotN a11 10, a12, a13, a14, a15, a16, rotN a17 15, a18, a19, a20, a21, a22, a23, a24] := by
    show (tS [a0, a1, a2, a3, a4, a5, a6, a7, a8, a9, a10, a11, a12, a13, a14, a15, a16, a17, a18, a19, a20, a21, a22, a23, a24] 4).set (tX 4 + 5 * tY 4) (rotN ((tS [a0, a1, a2, a3, a4, a5, a6, a7, a8, a9, a10, a11, a12, a13, a14, a15, a16, a17, a18, a19, a20, a21, a22, a23, a24] 4).getD (tX 4 + 5 * tY 4) 0) ((4 + 1) * (4 + 2) / 2)) = _
    rw [h4, show tX 4 + 5 * tY 4 = 17 from rfl]; rfl
  have h6 : tS [a0, a1, a2, a3, a4, a5, a6, a7, a8, a9, a10, a11, a12, a13, a14, a15, a16, a17, a18, a19, a20, a21, a22, a23, a24] 6 = [a0, rotN a1 1, a2, a3, a4, a5, a6, rotN a7 6, a8, a9, rotN a10 3, rotN a11 10, a12, a13, a14, a15, a16, rotN a17 15, rotN a18 21, a19, a20, a21, a22, a23, a24] := by
    show (tS [a0, a1, a2, a3, a4, a5, a6, a7, a8, a9, a10, a11, a12, a13, a14, a15, a16, a17, a18, a19, a20, a21, a22, a23, a24] 5).set (tX 5 + 5 * tY 5) (rotN ((tS [a0, a1, a2, a3, a4, a5, a6, a7, a8, a9, a10, a11, a12, a13, a14, a15, a16, a17, a18, a19, a20, a21, a22, a23, a24] 5).getD (tX 5 + 5 * tY 5) 0) ((5 + 1) * (5 + 2) / 2)) = _
    rw [h5, show tX 5 + 5 * tY 5 = 18 from rfl]; rfl
  have h7 : tS [a0, a1, a2, a3, a4, a5, a6, a7, a8, a9, a10, a11, a12, a13, a14, a15, a16, a17, a18, a19, a20, a21, a22, a23, a24] 7 = [a0, rotN a1 1, a2, rotN a3 28, a4, a5, a6, rotN a7 6, a8, a9, rotN a10 3, rotN a11 10, a12, a13, a14, a15, a16, rotN a17 15, rotN a18 21, a19, a20, a21, a22, a23, a24] := by
    show (tS [a0, a1, a2, a3, a4, a5, a6, a7, a8, a9, a10, a11, a12, a13, a14, a15, a16, a17, a18, a19, a20, a21, a22, a23, a24] 6).set (tX 6 + 5 * tY 6) (rotN ((tS [a0, a1, a2, a3, a4, a5, a6, a7, a8, a9, a10, a11, a12, a13, a14, a15, a16, a17, a18, a19, a20, a21, a22, a23, a24] 6).getD (tX 6 + 5 * tY 6) 0) ((6 + 1) * (6 + 2) / 2)) = _
    rw [h6, show tX 6 + 5 * tY 6 = 3 from rfl]; rfl
  have h8 : tS [a0, a1, a2, a3, a4, a5, a6, a7, a8, a9, a10, a11, a12, a13, a14, a15, a16, a17, a18, a19, a20, a21, a22, a23, a24] 8 = [a0, rotN a1 1, a2, rotN a3 28, a4, rotN a5 36, a6, rotN a7 6, a8, a9, rotN a10 3, rotN a11 10, a12, a13, a14, a15, a16, rotN a17 15, rotN a18 21, a19, a20, a21, a22, a23, a24] := by
    show (tS [a0, a1, a2, a3, a4, a5, a6, a7, a8, a9, a10, a11, a12, a13, a14, a15, a16, a17, a18, a19, a20, a21, a22, a23, a24] 7).set (tX 7 + 5 * tY 7) (rotN ((tS [a0, a1, a2, a3, a4, a5, a6, a7, a8, a9, a10, a11, a12, a13, a14, a15, a16, a17, a18, a19, a20, a21, a22, a23, a24] 7).getD (tX 7 + 5 * tY 7) 0) ((7 + 1) * (7 + 2) / 2)) = _
    rw [h7, show tX 7 + 5 * tY 7 = 5 from rfl]; rfl
  have h9 : tS [a0, a1, a2, a3, a4, a5, a6, a7, a8, a9, a10, a11, a12, a13, a14, a15, a16, a17, a18, a19, a20, a21, a22, a23, a24] 9 = [a0, rotN a1 1, a2, rotN a3 28, a4, rotN a5 36, a6, rotN a7 6, a8, a9, rotN a10 3, rotN a11 10, a12, a13, a14, a15, rotN a16 45, rotN a17 15, rotN a18 21, a19, a20, a21, a22, a23, a24] := by
    show (tS [a0, a1, a2, a3, a4, a5, a6, a7, a8, a9, a10, a11, a12, a13, a14, a15, a16, a17, a18, a19, a20, a21, a22, a23, a24] 8).set (tX 8 + 5 * tY 8) (rotN ((tS [a0, a1, a2, a3, a4, a5, a6, a7, a8, a9, a10, a11, a12, a13, a14, a15, a16, a17, a18, a19, a20, a21, a22, a23, a24] 8).getD (tX 8 + 5 * tY 8) 0) ((8 + 1) * (8 + 2) / 2)) = _
    rw [h8, show tX 8 + 5 * tY 8 = 16 from rfl]; rfl
  have h10 : tS [a0, a1, a2, a3, a4, a5, a6, a7, a8, a9, a10, a11, a12, a13, a14, a15, a16, a17, a18, a19, a20, a21, a22, a23, a24] 10 = [a0, rotN a1 1, a2, rotN a3 28, a4, rotN a5 36, a6, rotN a7 6, rotN a8 55, a9, rotN a10 3, rotN a11 10, a12, a13, a14, a15, rotN a16 45, rotN a17 15, rotN a18 21, a19, a20, a21, a22, a23, a24] := by
    show (tS [a0, a1, a2, a3, a4, a5, a6, a7, a8, a9, a10, a11, a12, a13, a14, a15, a16, a17, a18, a19, a20, a21, a22, a23, a24] 9).set (tX 9 + 5 * tY 9) (rotN ((tS [a0, a1, a2, a3, a4, a5, a6, a7, a8, a9, a10, a11, a12, a13, a14, a15, a16, a17, a18, a19, a20, a21, a22, a23, a24] 9).getD (tX 9 + 5 * tY 9) 0) ((9 + 1) * (9 + 2) / 2)) = _
    rw [h9, show tX 9 + 5 * tY 9 = 8 from rfl]; rfl
  have h11 : tS [a0, a1, a2, a3, a4, a5, a6, a7, a8, a9, a10, a11, a12, a13, a14, a15, a16, a17, a18, a19, a20, a21, a22, a23, a24] 11 = [a0, rotN a1 1, a2, rotN a3 28, a4, rotN a5 36, a6, rotN a7 6, rotN a8 55, a9, rotN a10 3, rotN a11 10, a12, a13, a14, a15, rotN a16 45, rotN a17 15, rotN a18 21, a19, a20, rotN a21 66, a22, a23, a24] := by
    show (tS [a0, a1, a2, a3, a4, a5, a6, a7, a8, a9, a10, a11, a12, a13, a14, a15, a16, a17, a18, a19, a20, a21, a22, a23, a24] 10).set (tX 10 + 5 * tY 10) (rotN ((tS [a0, a1, a2, a3, a4, a5, a6, a7, a8, a9, a10, a11, a12, a13, a14, a15, a16, a17, a18, a19, a20, a21, a22, a23, a24] 10).getD (tX 10 + 5 * tY 10) 0) ((10 + 1) * (10 + 2) / 2)) = _
    rw [h10, show tX 10 + 5 * tY 10 = 21 from rfl]; rfl
  have h12 : tS [a0, a1, a2, a3, a4, a5, a6, a7, a8, a9, a10, a11, a12, a13, a14, a15, a16, a17, a18, a19, a20, a21, a22, a23, a24] 12 = [a0, rotN a1 1, a2, rotN a3 28, a4, rotN a5 36, a6, rotN a7 6, rotN a8 55, a9, rotN a10 3, rotN a11 10, a12, a13, a14, a15, rotN a16 45, rotN a17 15, rotN a18 21, a19, a20, rotN a21 66, a22, a23, rotN a24 78] := by
    show (tS [a0, a1, a2, a3, a4, a5, a6, a7, a8, a9, a10, a11, a12, a13, a14, a15, a16, a17, a18, a19, a20, a21, a22, a23, a24] 11).set (tX 11 + 5 * tY 11) (rotN ((tS [a0, a1, a2, a3, a4, a5, a6, a7, a8, a9, a10, a11, a12, a13, a14, a15, a16, a17, a18, a19, a20, a21, a22, a23, a24] 11).getD (tX 11 + 5 * tY 11) 0) ((11 + 1) * (11 + 2) / 2)) = _
    rw [h11, show tX 11 + 5 * tY 11 = 24 from rfl]; rfl
  have h13 : tS [a0, a1, a2, a3, a4, a5, a6, a7, a8, a9, a10, a11, a12, a13, a14, a15, a16, a17, a18, a19, a20, a21, a22, a23, a24] 13 = [a0, rotN a1 1, a2, rotN a3 28, rotN a4 91, rotN a5 36, a6, rotN a7 6, rotN a8 55, a9, rotN a10 3, rotN a11 10, a12, a13, a14, a15, rotN a16 45, rotN a17 15, rotN a18 21, a19, a20, rotN a21 66, a22, a23, rotN a24 78] := by
    show (tS [a0, a1, a2, a3, a4, a5, a6, a7, a8, a9, a10, a11, a12, a13, a14, a15, a16, a17, a18, a19, a20, a21, a22, a23, a24] 12).set (tX 12 + 5 * tY 12) (rotN ((tS [a0, a1, a2, a3, a4, a5, a6, a7, a8, a9, a10, a11, a12, a13, a14, a15, a16, a17, a18, a19, a20, a21, a22, a23, a24] 12).getD (tX 12 + 5 * tY 12) 0) ((12 + 1) * (12 + 2) / 2)) = _
    rw [h12, show tX 12 + 5 * tY 12 = 4 from rfl]; rfl
  have h14 : tS [a0, a1, a2, a3, a4, a5, a6, a7, a8, a9, a10, a11, a12, a13, a14, a15, a16, a17, a18, a19, a20, a21, a22, a23, a24] 14 = [a0, rotN a1 1, a2, rotN a3 28, rotN a4 91, rotN a5 36, a6, rotN a7 6, rotN a8 55, a9, rotN a10 3, rotN a11 10, a12, a13, a14, rotN a15 105, rotN a16 45, rotN a17 15, rotN a18 21, a19, a20, rotN a21 66, a22, a23, rotN a24 78] := by
    show (tS [a0, a1, a2, a3, a4, a5, a6, a7, a8, a9, a10, a11, a12, a13, a14, a15, a16, a17, a18, a19, a20, a21, a22, a23, a24] 13).set (tX 13 + 5 * tY 13) (rotN ((tS [a0, a1, a2, a3, a4, a5, a6, a7, a8, a9, a10, a11, a12, a13, a14, a15, a16, a17, a18, a19, a20, a21, a22, a23, a24] 13).getD (tX 13 + 5 * tY 13) 0) ((13 + 1) * (13 + 2) / 2)) = _
    rw [h13, show tX 13 + 5 * tY 13 = 15 from rfl]; rfl
  have h15 : tS [a0, a1, a2, a3, a4, a5, a6, a7, a8, a9, a10, a11, a12, a13, a14, a15, a16, a17, a18, a19, a20, a21, a22, a23, a24] 15 = [a0, rotN a1 1, a2, rotN a3 28, rotN a4 91, rotN a5 36, a6, rotN a7 6, rotN a8 55, a9, rotN a10 3, rotN a11 10, a12, a13, a14, rotN a15 105, rotN a16 45, rotN a17 15, rotN a18 21, a19, a20, rotN a21 66, a22, rotN a23 120, rotN a24 78] := by
    show (tS [a0, a1, a2, a3, a4, a5, a6, a7, a8, a9, a10, a11, a12, a13, a14, a15, a16, a17, a18, a19, a20, a21, a22, a23, a24] 14).set (tX 14 + 5 * tY 14) (rotN ((tS [a0, a1, a2, a3, a4, a5, a6, a7, a8, a9, a10, a11, a12, a13, a14, a15, a16, a17, a18, a19, a20, a21, a22, a23, a24] 14).getD (tX 14 + 5 * tY 14) 0) ((14 + 1) * (14 + 2) / 2)) = _
    rw [h14, show tX 14 + 5 * tY 14 = 23 from rfl]; rfl
  have h16 : tS [a0, a1, a2, a3, a4, a5, a6, a7, a8, a9, a10, a11, a12, a13, a14, a15, a16, a17, a18, a19, a20, a21, a22, a23, a24] 16 = [a0, rotN a1 1, a2, rotN a3 28, rotN a4 91, rotN a5 36, a6, rotN a7 6, rotN a8 55, a9, rotN a10 3, rotN a11 10, a12, a13, a14, rotN a15 105, rotN a16 45, rotN a17 15, rotN a18 21, rotN a19 136, a20, rotN a21 66, a22, rotN a23 120, rotN a24 78] := by
    show (tS [a0, a1, a2, a3, a4, a5, a6, a7, a8, a9, a10, a11, a12, a13, a14, a15, a16, a17, a18, a19, a20, a21, a22, a23, a24] 15).set (tX 15 + 5 * tY 15) (rotN ((tS [a0, a1, a2, a3, a4, a5, a6, a7, a8, a9, a10, a11, a12, a13, a14, a15, a16, a17, a18, a19, a20, a21, a22, a23, a24] 15).getD (tX 15 + 5 * tY 15) 0) ((15 + 1) * (15 + 2) / 2)) = _
    rw [h15, show tX 15 + 5 * tY 15 = 19 from rfl]; rfl
  have h17 : tS [a0, a1, a2, a3, a4, a5, a6, a7, a8, a9, a10, a11, a12, a13, a14, a15, a16, a17, a18, a19, a20, a21, a22, a23, a24] 17 = [a0, rotN a1 1, a2, rotN a3 28, rotN a4 91, rotN a5 36, a6, rotN a7 6, rotN a8 55, a9, rotN a10 3, rotN a11 10, a12, rotN a13 153, a14, rotN a15 105, rotN a16 45, rotN a17 15, rotN a18 21, rotN a19 136, a20, rotN a21 66, a22, rotN a23 120, rotN a24 78] := by
    show (tS [a0, a1, a2, a3, a4, a5, a6, a7, a8, a9, a10, a11, a12, a13, a14, a15, a16, a17, a18, a19, a20, a21, a22, a23, a24] 16).set (tX 16 + 5 * tY 16) (rotN ((tS [a0, a1, a2, a3, a4, a5, a6, a7, a8, a9, a10, a11, a12, a13, a14, a15, a16, a17, a18, a19, a20, a21, a22, a23, a24] 16).getD (tX 16 + 5 * tY 16) 0) ((16 + 1) * (16 + 2) / 2)) = _
    rw [h16, show tX 16 + 5 * tY 16 = 13 from rfl]; rfl
  have h18 : tS [a0, a1, a2, a3, a4, a5, a6, a7, a8, a9, a10, a11, a12, a13, a14, a15, a16, a17, a18, a19, a20, a21, a22, a23, a24] 18 = [a0, rotN a1 1, a2, rotN a3 28, rotN a4 91, rotN a5 36, a6, rotN a7 6, rotN a8 55, a9, rotN a10 3, rotN a11 10, rotN a12 171, rotN a13 153, a14, rotN a15 105, rotN a16 45, rotN a17 15, rotN a18 21, rotN a19 136, a20, rotN a21 66, a22, rotN a23 120, rotN a24 78] := by
    show (tS [a0, a1, a2, a3, a4, a5, a6, a7, a8, a9, a10, a11, a12, a13, a14, a15, a16, a17, a18, a19, a20, a21, a22, a23, a24] 17).set (tX 17 + 5 * tY 17) (rotN ((tS [a0, a1, a2, a3, a4, a5, a6, a7, a8, a9, a10, a11, a12, a13, a14, a15, a16, a17, a18, a19, a20, a21, a22, a23, a24] 17).getD (tX 17 + 5 * tY 17) 0) ((17 + 1) * (17 + 2) / 2)) = _
    rw [h17, show tX 17 + 5 * tY 17 = 12 from rfl]; rfl
  have h19 : tS [a0, a1, a2, a3, a4, a5, a6, a7, a8, a9, a10, a11, a12, a13, a14, a15, a16, a17, a18, a19, a20, a21, a22, a23, a24] 19 = [a0, rotN a1 1, rotN a2 190, rotN a3 28, rotN a4 91, rotN a5 36, a6, rotN a7 6, rotN a8 55, a9, rotN a10 3, rotN a11 10, rotN a12 171, rotN a13 153, a14, rotN a15 105, rotN a16 45, rotN a17 15, rotN a18 21, rotN a19 136, a20, rotN a21 66, a22, rotN a23 120, rotN a24 78] := by
    show (tS [a0, a1, a2, a3, a4, a5, a6, a7, a8, a9, a10, a11, a12, a13, a14, a15, a16, a17, a18, a19, a20, a21, a22, a23, a24] 18).set (tX 18 + 5 * tY 18) (rotN ((tS [a0, a1, a2, a3, a4, a5, a6, a7, a8, a9, a10, a11, a12, a13, a14, a15, a16, a17, a18, a19, a20, a21, a22, a23, a24] 18).getD (tX 18 + 5 * tY 18) 0) ((18 + 1) * (18 + 2) / 2)) = _
    rw [h18, show tX 18 + 5 * tY 18 = 2 from rfl]; rfl
  have h20 : tS [a0, a1, a2, a3, a4, a5, a6, a7, a8, a9, a10, a11, a12, a13, a14, a15, a16, a17, a18, a19, a20, a21, a22, a23, a24] 20 = [a0, rotN a1 1, rotN a2 190, rotN a3 28, rotN a4 91, rotN a5 36, a6, rotN a7 6, rotN a8 55, a9, rotN a10 3, rotN a11 10, rotN a12 171, rotN a13 153, a14, rotN a15 105, rotN a16 45, rotN a17 15, rotN a18 21, rotN a19 136, rotN a20 210, rotN a21 66, a22, rotN a23 120, rotN a24 78] := by
    show (tS [a0, a1, a2, a3, a4, a5, a6, a7, a8, a9, a10, a11, a12, a13, a14, a15, a16, a17, a18, a19, a20, a21, a22, a23, a24] 19).set (tX 19 + 5 * tY 19) (rotN ((tS [a0, a1, a2, a3, a4, a5, a6, a7, a8, a9, a10, a11, a12, a13, a14, a15, a16, a17, a18, a19, a20, a21, a22, a23, a24] 19).getD (tX 19 + 5 * tY 19) 0) ((19 + 1) * (19 + 2) / 2)) = _
    rw [h19, show tX 19 + 5 * tY 19 = 20 from rfl]; rfl
  have h21 : tS [a0, a1, a2, a3, a4, a5, a6, a7, a8, a9, a10, a11, a12, a13, a14, a15, a16, a17, a18, a19, a20, a21, a22, a23, a24] 21 = [a0, rotN a1 1, rotN a2 190, rotN a3 28, rotN a4 91, rotN a5 36, a6, rotN a7 6, rotN a8 55, a9, rotN a10 3, rotN a11 10, rotN a12 171, rotN a13 153, rotN a14 231, rotN a15 105, rotN a16 45, rotN a17 15, rotN a18 21, rotN a19 136, rotN a20 210, rotN a21 66, a22, rotN a23 120, rotN a24 78] := by
    show (tS [a0, a1, a2, a3, a4, a5, a6, a7, a8, a9, a10, a11, a12, a13, a14, a15, a16, a17, a18, a19, a20, a21, a22, a23, a24] 20).set (tX 20 + 5 * tY 20) (rotN ((tS [a0, a1, a2, a3, a4, a5, a6, a7, a8, a9, a10, a11, a12, a13, a14, a15, a16, a17, a18, a19, a20, a21, a22, a23, a24] 20).getD (tX 20 + 5 * tY 20) 0) ((20 + 1) * (20 + 2) / 2)) = _
    rw [h20, show tX 20 + 5 * tY 20 = 14 from rfl]; rfl
  have h22 : tS [a0, a1, a2, a3, a4, a5, a6, a7, a8, a9, a10, a11, a12, a13, a14, a15, a16, a17, a18, a19, a20, a21, a22, a23, a24] 22 = [a0, rotN a1 1, rotN a2 190, rotN a3 28, rotN a4 91, rotN a5 36, a6, rotN a7 6, rotN a8 55, a9, rotN a10 3, rotN a11 10, rotN a12 171, rotN a13 153, rotN a14 231, rotN a15 105, rotN a16 45, rotN a17 15, rotN a18 21, rotN a19 136, rotN a20 210, rotN a21 66, rotN a22 253, rotN a23 120, rotN a24 78] := by
    show (tS [a0, a1, a2, a3, a4, a5, a6, a7, a8, a9, a10, a11, a12, a13, a14, a15, a16, a17, a18, a19, a20, a21, a22, a23, a24] 21).set (tX 21 + 5 * tY 21) (rotN ((tS [a0, a1, a2, a3, a4, a5, a6, a7, a8, a9, a10, a11, a12, a13, a14, a15, a16, a17, a18, a19, a20, a21, a22, a23, a24] 21).getD (tX 21 + 5 * tY 21) 0) ((21 + 1) * (21 + 2) / 2)) = _
    rw [h21, show tX 21 + 5 * tY 21 = 22 from rfl]; rfl
  have h23 : tS [a0, a1, a2, a3, a4, a5, a6, a7, a8, a9, a10, a11, a12, a13, a14, a15, a16, a17, a18, a19, a20, a21, a22, a23, a24] 23 = [a0, rotN a1 1, rotN a2 190, rotN a3 28, rotN a4 91, rotN a5 36, a6, rotN a7 6, rotN a8 55, rotN a9 276, rotN a10 3, rotN a11 10, rotN a12 171, rotN a13 153, rotN a14 231, rotN a15 105, rotN a16 45, rotN a17 15, rotN a18 21, rotN a19 136, rotN a20 210, rotN a21 66, rotN a22 253, rotN a23 120, rotN a24 78] := by
    show (tS [a0, a1, a2, a3, a4, a5, a6, a7, a8, a9, a10, a11, a12, a13, a14, a15, a16, a17, a18, a19, a20, a21, a22, a23, a24] 22).set (tX 22 + 5 * tY 22) (rotN ((tS [a0, a1, a2, a3, a4, a5, a6, a7, a8, a9, a10, a11, a12, a13, a14, a15, a16, a17, a18, a19, a20, a21, a22, a23, a24] 22).getD (tX 22 + 5 * tY 22) 0) ((22 + 1) * (22 + 2) / 2)) = _
    rw [h22, show tX 22 + 5 * tY 22 = 9 from rfl]; rfl
  have h24 : tS [a0, a1, a2, a3, a4, a5, a6, a7, a8, a9, a10, a11, a12, a13, a14, a15, a16, a17, a18, a19, a20, a21, a22, a23, a24] 24 = [a0, rotN a1 1, rotN a2 190, rotN a3 28, rotN a4 91, rotN a5 36, rotN a6 300, rotN a7 6, rotN a8 55, rotN a9 276, rotN a10 3, rotN a11 10, rotN a12 171, rotN a13 153, rotN a14 231, rotN a15 105, rotN a16 45, rotN a17 15, rotN a18 21, rotN a19 136, rotN a20 210, rotN a21 66, rotN a22 253, rotN a23 120, rotN a24 78] := by
    show (tS [a0, a1, a2, a3, a4, a5, a6, a7, a8, a9, a10, a11, a12, a13, a14, a15, a16, a17, a18, a19, a20, a21, a22, a23, a24] 23).set (tX 23 + 5 * tY 23) (rotN ((tS [a0, a1, a2, a3, a4, a5, a6, a7, a8, a9, a10, a11, a12, a13, a14, a15, a16, a17, a18, a19, a20, a21, a22, a23, a24] 23).getD (tX 23 + 5 * tY 23) 0) ((23 + 1) * (23 + 2) / 2)) = _
    rw [h23, show tX 23 + 5 * tY 23 = 6 from rfl]; rfl
  exact h24
set_option maxRecDepth 20000 in
theorem move_lanes (a0 a1 a2 a3 a4 a5 a6 a7 a8 a9 a10 a11 a12 a13 a14 a15 a16 a17 a18 a19 a20 a21 a22 a23 a24 : Nat) : bS [a0, a1, a2, a3, a4, a5, a6, a7, a8, a9, a10, a11, a12, a13, a14, a15, a16, a17, a18, a19, a20, a21, a22, a23, a24] 25 = [a0, a6, a12, a18, a24, a3, a9, a10, a16, a22, a1, a7, a13, a19, a20, a4, a5, a11, a17, a23, a2, a8, a14, a15, a21] := by kernel_rfl
theorem turn_move {a : List Nat} (h : SOk 25 a) : bS (tS a 24) 25 = rS a turnsL 25 := by
  obtain ⟨a0, a1, a2, a3, a4, a5, a6, a7, a8, a9, a10, a11, a12, a13, a14, a15, a16, a17, a18, a19, a20, a21, a22, a23, a24, rfl⟩ := lanes h.1
  rw [rot_lanes, turn_lanes, move_lanes, rotN_0 (h.2 a0 List.mem_cons_self) rfl]; rfl
set_option maxRecDepth 20000 in
theorem xS_lanes (b : List Nat) (a0 a1 a2 a3 a4 a5 a6 a7 a8 a9 a10 a11 a12 a13 a14 a15 a16 a17 a18 a19 a20 a21 a22 a23 a24 : Nat) : xS b [a0, a1, a2, a3, a4, a5, a6, a7, a8, a9, a10, a11, a12, a13, a14, a15, a16, a17, a18, a19, a20, a21, a22, a23, a24] 25 = [chiN b 0, chiN b 1, chiN b 2, chiN b 3, chiN b 4, chiN b 5, chiN b 6, chiN b 7, chiN b 8, chiN b 9, chiN b 10, chiN b 11, chiN b 12, chiN b 13, chiN b 14, chiN b 15, chiN b 16, chiN b 17, chiN b 18, chiN b 19, chiN b 20, chiN b 21, chiN b 22, chiN b 23, chiN b 24] := by kernel_rfl
theorem xS_base {a a' : List Nat} (b : List Nat) (h : a.length = 25) (h' : a'.length = 25) : xS b a 25 = xS b a' 25 := by
  obtain ⟨_, _, _, _, _, _, _, _, _, _, _, _, _, _, _, _, _, _, _, _, _, _, _, _, _, rfl⟩ := lanes h
  obtain ⟨_, _, _, _, _, _, _, _, _, _, _, _, _, _, _, _, _, _, _, _, _, _, _, _, _, rfl⟩ := lanes h'
  rw [xS_lanes, xS_lanes]
end Go.Proofs.YtlcbfphioeppaaaGreatDoor
