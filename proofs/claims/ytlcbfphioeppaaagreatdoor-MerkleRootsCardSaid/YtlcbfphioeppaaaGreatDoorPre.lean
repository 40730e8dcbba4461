import Derived.Test.YtlcbfphioeppaaaGreatDoorPrd
namespace Go.Proofs.YtlcbfphioeppaaaGreatDoor
set_option linter.all false
open Go.SL Go.RowKit Go.Shelf
/-! ### Sizes, types of items, beginnings -/
theorem begT_eq (x : Ty) : begT x = if isFix x then sizT x else 4 := rfl
set_option maxRecDepth 10000 in
theorem S_ssize {R : List (Nat × Obj)} {t : Ty} (ht : t.In R) : PureR Tryz.prog 122 [t.val].toArray (.tuple #[.int .i64 (begT t), .bool (isFix t)]) R := by
  have h1 := S_Fixed ht
  have h2 := S_Size ht
  unfold sizeT at h2
  rw [begT_eq]
  generalize isFix t = b at h1 h2 ⊢
  generalize sizT t = z at h2 ⊢
  obtain ⟨k, n, p, ins⟩ := t
  refine pureR_of_HC Tryz.func122 rfl rfl fun w => ?_; refine HC_seq fun K1 hK1 => HC_region ?_; refine HL_box (cs := #[_, _, _]) rfl rfl rfl rfl fun r1 => ?_; refine HLm rfl (HLm rfl ?_); refine HL_nil (hK1 _ _ _ _ ?_); clear hK1 K1; refine HC_seq fun K2 hK2 => ?_; refine HC_seq fun K3 hK3 => HC_region ?_; refine HL_r rfl rfl rfl rfl (R_loadA (vs := [_, _, _]) rfl (known_L (k := 0) rfl) rfl rfl rfl rfl) ?_; refine HL_callR rfl rfl rfl (enters_of Tryz.func24 (by kernel_rfl) rfl) h1 (fun q hq => Or.inr hq) ?_; refine HL_nil (hK3 _ _ _ _ ?_); clear hK3 K3; refine HC_cond rfl (fun h4 => ?_) (fun h4 => ?_)
  · try exact Bool.noConfusion h4
    try simp only [ZZ] at h4
    refine HC_seq fun K5 hK5 => HC_region ?_; refine HL_r rfl rfl rfl rfl (R_loadA (vs := [_, _, _]) rfl (known_L (k := 0) rfl) rfl rfl rfl rfl) ?_; refine HL_callR rfl rfl rfl (enters_of Tryz.func25 (by kernel_rfl) rfl) h2 (fun q hq => Or.inr hq) ?_; refine HLm rfl (HLm rfl ?_); refine HL_nil (hK5 _ _ _ _ ?_); clear hK5 K5; refine HC_ret (HQ_thenR ?_); clear hK2 K2; refine HQ_post rfl rfl (.cons (res_tmp rfl) (.cons (res_tmp rfl) .nil)) (fun w1 hs1 => ?_); refine ⟨?_, hs1.keep⟩
    simp_all [resVal]
  · try exact Bool.noConfusion h4
    try simp only [ZZ] at h4
    refine HC_skip (hK2 _ _ _ _ ?_); clear hK2 K2; refine HC_seq fun K6 hK6 => HC_region ?_; refine HLm rfl (HLm rfl ?_); refine HL_nil (hK6 _ _ _ _ ?_); clear hK6 K6; refine HC_ret ?_; refine HQ_post rfl rfl (.cons (res_tmp rfl) (.cons (res_tmp rfl) .nil)) (fun w1 hs1 => ?_); refine ⟨?_, hs1.keep⟩
    simp_all [resVal]
set_option maxRecDepth 10000 in
theorem S_sin {R : List (Nat × Obj)} {k n : Int} {p : Pl} {ins : List Ty} {pick : Int} {i : Nat} (ht : Ty.In R (.mk k n p ins)) (hp8 : k = 8 → 0 ≤ pick) (hx : inX k pick i < ins.length) : PureR Tryz.prog 190 [Ty.val (.mk k n p ins), .int .i64 pick, .int .i64 (i : Int)].toArray (inTy k pick ins i).val R := by
  have hty := inTy_get hx
  cases ht with
  | @mk k n p ins hk hn hlt hst hit =>
  obtain ⟨X, hX⟩ : ∃ X, X = inTy k pick ins i := ⟨_, rfl⟩
  rw [← hX] at hty ⊢; refine pureR_of_HC Tryz.func190 rfl rfl fun w => ?_; refine HC_seq fun K1 hK1 => HC_region ?_; refine HL_box (cs := #[_, _, _]) rfl rfl rfl rfl fun r1 => ?_; refine HL_alloc (cs := #[_, _, _]) rfl rfl rfl rfl fun r2 => ?_; refine HL_nil (hK1 _ _ _ _ ?_); refine HC_seq fun K2 hK2 => ?_; refine HC_seq fun K3 hK3 => HC_region ?_
  refine HL_r rfl rfl rfl rfl (R_fieldAddr rfl rfl (by first | (simp only [Nat.zero_add, Nat.reduceAdd, Nat.reduceMul, Nat.zero_mul, Nat.mul_one, Nat.add_zero]; exact rfl) | exact rfl)) ?_; refine HL_r rfl rfl rfl rfl (R_load rfl (known_L (k := 1) rfl) rfl rfl) ?_; refine HL_nil (hK3 _ _ _ _ ?_); refine HC_block (HC_seq fun K4 hK4 => HC_region ?_); refine HLp rfl (HLm rfl ?_); refine HL_nil (hK4 _ _ _ _ ?_); refine HC_cond rfl (fun h5 => ?_) (fun h5 => ?_)
  · try exact Bool.noConfusion h5
    try simp only [ZZ] at h5
    refine HC_seq fun K6 hK6 => HC_region ?_
    refine HL_r rfl rfl rfl rfl (R_fieldAddr rfl rfl (by first | (simp only [Nat.zero_add, Nat.reduceAdd, Nat.reduceMul, Nat.zero_mul, Nat.mul_one, Nat.add_zero]; exact rfl) | exact rfl)) ?_; refine HL_r rfl rfl rfl rfl (R_load rfl (known_L (k := 1) rfl) rfl rfl) ?_; refine HLm rfl ?_; refine HL_r rfl rfl rfl rfl (R_indexPl (j := inX k pick i) rfl hst rfl rfl rfl (by unfold inX; rw [if_pos (by assumption)]) hx) ?_; refine HL_r rfl rfl rfl rfl (R_loadTy (fun q hq => Or.inr hq) rfl hst hty.1 rfl rfl) ?_; refine HL_storeArr (k := 0) (n := 3) (ys := X.cells) rfl rfl rfl rfl rfl X.len rfl X.one rfl ?_; refine HL_nil (hK6 _ _ _ _ ?_); refine HC_ret (HQ_blockR (HQ_thenR ?_)); refine HQ_post rfl rfl (.cons (res_cellA (vs := X.cells) rfl (known_L (k := 0) rfl) rfl (by rw [X.len]; rfl)) .nil) (fun w1 hs1 => ?_); exact ⟨rfl, hs1.keep⟩
  · try exact Bool.noConfusion h5
    try simp only [ZZ] at h5
    refine HC_seq fun K7 hK7 => HC_region ?_; refine HLp rfl (HLm rfl ?_); refine HL_nil (hK7 _ _ _ _ ?_); refine HC_cond rfl (fun h8 => ?_) (fun h8 => ?_)
    · try exact Bool.noConfusion h8
      try simp only [ZZ] at h8
      refine HC_seq fun K9 hK9 => HC_region ?_
      refine HL_r rfl rfl rfl rfl (R_fieldAddr rfl rfl (by first | (simp only [Nat.zero_add, Nat.reduceAdd, Nat.reduceMul, Nat.zero_mul, Nat.mul_one, Nat.add_zero]; exact rfl) | exact rfl)) ?_; refine HL_r rfl rfl rfl rfl (R_load rfl (known_L (k := 1) rfl) rfl rfl) ?_; refine HLm rfl ?_; refine HL_r rfl rfl rfl rfl (R_indexPl (j := inX k pick i) rfl hst rfl rfl rfl (by unfold inX; rw [if_neg (by assumption), if_pos (by assumption)]; have := hp8 (by assumption); omega) hx) ?_; refine HL_r rfl rfl rfl rfl (R_loadTy (fun q hq => Or.inr hq) rfl hst hty.1 rfl rfl) ?_; refine HL_storeArr (k := 0) (n := 3) (ys := X.cells) rfl rfl rfl rfl rfl X.len rfl X.one rfl ?_; refine HL_nil (hK9 _ _ _ _ ?_); refine HC_ret (HQ_blockR (HQ_thenR ?_)); refine HQ_post rfl rfl (.cons (res_cellA (vs := X.cells) rfl (known_L (k := 0) rfl) rfl (by rw [X.len]; rfl)) .nil) (fun w1 hs1 => ?_); exact ⟨rfl, hs1.keep⟩
    · try exact Bool.noConfusion h8
      try simp only [ZZ] at h8
      refine HC_skip (HQ_blockN (hK2 _ _ _ _ ?_)); refine HC_seq fun K10 hK10 => HC_region ?_
      refine HL_r rfl rfl rfl rfl (R_fieldAddr rfl rfl (by first | (simp only [Nat.zero_add, Nat.reduceAdd, Nat.reduceMul, Nat.zero_mul, Nat.mul_one, Nat.add_zero]; exact rfl) | exact rfl)) ?_; refine HL_r rfl rfl rfl rfl (R_load rfl (known_L (k := 1) rfl) rfl rfl) ?_; refine HL_r rfl rfl rfl rfl (R_indexPl (j := inX k pick i) rfl hst rfl rfl rfl (by unfold inX; rw [if_neg (by assumption), if_neg (by assumption)]; rfl) hx) ?_; refine HL_r rfl rfl rfl rfl (R_loadTy (fun q hq => Or.inr hq) rfl hst hty.1 rfl rfl) ?_; refine HL_storeArr (k := 0) (n := 3) (ys := X.cells) rfl rfl rfl rfl rfl X.len rfl X.one rfl ?_; refine HL_nil (hK10 _ _ _ _ ?_); refine HC_ret ?_; refine HQ_post rfl rfl (.cons (res_cellA (vs := X.cells) rfl (known_L (k := 0) rfl) rfl (by rw [X.len]; rfl)) .nil) (fun w1 hs1 => ?_); exact ⟨rfl, hs1.keep⟩
def tysN (k : Int) (ins : List Ty) (m : Nat) : List Ty := (List.range m).map fun i => inTy k 0 ins i
theorem begL_app : ∀ a b : List Ty, begL (a ++ b) = begL a + begL b
  | [], b => by rw [List.nil_append, begL, Int.zero_add]
  | x :: xs, b => by rw [List.cons_append, begL, begL, begL_app xs b, Int.add_assoc]
theorem begL_snoc (k : Int) (ins : List Ty) (i : Nat) : begL (tysN k ins (i + 1)) = begL (tysN k ins i) + begT (inTy k 0 ins i) := by
  unfold tysN
  rw [List.range_succ, List.map_append, begL_app, List.map_cons, List.map_nil, begL, begL, Int.add_zero]
theorem begT_le (x : Ty) : 1 ≤ begT x ∧ begT x ≤ 2251799813685248 := by
  unfold begT
  split
  · rename_i h
    obtain ⟨h1, h2⟩ := isFix_iff.1 h
    have h3 := siz_le x 0 (Int.le_refl _) h1 h2
    have h4 := bnd_le (show (5 - (0 : Int)).toNat ≤ 5 by decide)
    omega
  · omega
theorem begL_le : ∀ l : List Ty, 0 ≤ begL l ∧ begL l ≤ 2251799813685248 * l.length
  | [] => by rw [begL]; simp
  | x :: xs => by
    have h1 := begT_le x
    have h2 := begL_le xs
    rw [begL, List.length_cons]; omega
theorem tysN_len (k : Int) (ins : List Ty) (m : Nat) : (tysN k ins m).length = m := by unfold tysN; rw [List.length_map, List.length_range]
def iBlk (r : Nat) (m : Int) : Nat × Obj := (r, .cells #[.int .i64 m] 3 (0, 0))
set_option maxRecDepth 10000 in
theorem E_items (t : Ty) (m : Int) : PureE (α := Nat × Nat) Tryz.prog 121 [t.val, .int .i64 m].toArray (fun p => .func (.func 189) #[] #[pt0 p.2, pt0 p.1]) (fun p => [iBlk p.2 m, tBlk p.1 t]) := by
  obtain ⟨k, n, p, ins⟩ := t
  refine pureE_of_HC Tryz.func121 rfl rfl fun w => ?_; refine HC_seq fun K1 hK1 => HC_region ?_; refine HL_box (cs := #[_, _, _]) rfl rfl rfl rfl fun r1 => ?_; refine HL_box (cs := #[_]) rfl rfl rfl rfl fun r2 => ?_; refine HLm rfl ?_; refine HL_nil (hK1 _ _ _ _ ?_); refine HC_seq fun K2 hK2 => HC_region ?_; refine HL_r rfl rfl rfl rfl (R_makeFunc rfl rfl) ?_; refine HLm rfl ?_; refine HL_nil (hK2 _ _ _ _ ?_); refine HC_ret ?_; refine HQ_post rfl rfl (.cons (res_tmp rfl) .nil) (fun w1 hs1 => ?_); exact ⟨(r1, r2), rfl, hs1⟩
def itV (k : Int) (ins : List Ty) (i : Nat) : List Value := [.int .i64 (i : Int), (inTy k 0 ins i).val]
set_option maxRecDepth 10000 in
theorem I_items {R : List (Nat × Obj)} {k n : Int} {p : Pl} {ins : List Ty} {m : Nat} (ht : Ty.In R (.mk k n p ins)) (hm : m ≤ 1000000) (hx : ∀ i, i < m → inX k 0 i < ins.length) (rt ri : Nat) :
    Iter Tryz.prog 189 [pt0 ri, pt0 rt] (iBlk ri m :: tBlk rt (.mk k n p ins) :: R) 0 (nxN (itV k ins) m) (finN m) := by
  refine iter_of_HC Tryz.func189 rfl rfl fun q xids w2 XI XF hY => ?_; refine HC_seq fun K1 hK1 => HC_region ?_; refine HL_r rfl rfl rfl rfl (R_load (v := .int .i64 (m : Int)) rfl (known_R (k := 0) rfl) rfl rfl) ?_; refine HLm rfl ?_; refine HL_nil (hK1 _ _ _ _ ?_); refine HC_block (HC_loop (σ := Nat) (fun i => i ≤ m) (fun i => [(0, .func (.yield q) #[] #[]), (1, pt0 ri), (2, pt0 rt), (5, .int .i64 (m : Int)), (6, .int .i64 (i : Int))]) (fun _ => []) (fun i => XI i) (fun i => m - i) 0 (Nat.zero_le _) (.cons rfl (.cons rfl (.cons rfl (.cons rfl (.cons rfl .nil))))) (List.Sublist.refl _) (fun _ _ h => h) ?_); intro i hi; refine HC_seq fun K2 hK2 => HC_region ?_; refine HLp rfl ?_; refine HL_nil (hK2 _ _ _ _ ?_); refine HC_seq fun K3 hK3 => ?_; refine HC_cond rfl (fun h4 => ?_) (fun h4 => ?_)
  · try exact Bool.noConfusion h4
    try simp only [ZZ] at h4
    refine HC_skip (hK3 _ _ _ _ ?_); refine HC_seq fun K5 hK5 => HC_block ?_; refine HC_seq fun K6 hK6 => HC_region ?_; refine HLm rfl (HLm rfl ?_); refine HL_nil (hK6 _ _ _ _ ?_); refine HC_seq fun K7 hK7 => ?_
    have hil : i < m := by omega
    refine HC_region (HLm rfl ?_); refine HLm rfl (HL_r rfl rfl rfl rfl (R_loadArr (xs := Ty.cells (.mk k n p ins)) (n := 3) rfl (known_R (k := 1) rfl) rfl rfl (Ty.len _)) ?_); refine HLm rfl (HL_callR rfl rfl rfl (enters_of Tryz.func190 (by kernel_rfl) rfl) (S_sin ht (fun _ => Int.le_refl 0) (hx i hil)) (fun q hq => Or.inr (List.mem_cons_of_mem _ (List.mem_cons_of_mem _ hq))) ?_); refine HL_yield (XT := XI (i + 1)) (XF := XF) rfl rfl rfl rfl (hY i (itV k ins i) (i + 1) ⟨hil, rfl, rfl⟩) ?_ ?_
    all_goals refine HLp rfl ?_
    all_goals refine HL_nil ?_
    all_goals (
     refine hK7 _ _ _ _ ?_; refine HC_cond rfl (fun h8 => ?_) (fun h8 => ?_)
     · try exact Bool.noConfusion h8
       all_goals try simp only [ZZ] at h8
       all_goals (
        refine HC_ret (HQ_blockR (HQ_thenR ?_)); refine HQ_thenR (HQ_blockR ?_); refine HQ_post rfl rfl .nil (fun w1 hs1 => ?_)
        obtain ⟨xs1, hx1⟩ := hs1.now
        exact ⟨⟨_, rfl⟩, hs1.keep, .inr ⟨_, hx1⟩⟩
        skip)
     · try exact Bool.noConfusion h8
       all_goals try simp only [ZZ] at h8
       all_goals (
        refine HC_skip (HQ_blockN (hK5 _ _ _ _ ?_)); refine HC_region ?_
        refine HLp rfl ?_; refine HL_as (show _ = Value.int .i64 ((i + 1 : Nat) : Int) from by rw [wrap_i64 (by omega) (by omega)]; congr 1 <;> omega) ?_; refine HLm rfl (HL_nil (HQ_then ?_)); exact HQ_again (i + 1) (by omega) (by omega) (.cons rfl (.cons rfl (.cons rfl (.cons rfl (.cons rfl .nil))))) (List.Sublist.refl _) (fun _ _ h => h)
        skip)
     skip)
  · try exact Bool.noConfusion h4
    try simp only [ZZ] at h4
    refine HC_exit (HQ_thenE ?_); refine HQ_thenE (HQ_blockE ?_); refine HQ_postN rfl rfl .nil (fun w1 hs1 => ?_)
    obtain ⟨xs1, hx1⟩ := hs1.now
    exact ⟨⟨_, rfl⟩, hs1.keep, .inl ⟨i, _, (by show i = m; omega), hx1⟩⟩
set_option maxRecDepth 10000 in
theorem S_sbegin {R : List (Nat × Obj)} {k n : Int} {p : Pl} {ins : List Ty} {m : Nat} (ht : Ty.In R (.mk k n p ins)) (hm : m ≤ 600) (hx : ∀ i, i < m → inX k 0 i < ins.length) : PureR Tryz.prog 120 [Ty.val (.mk k n p ins), .int .i64 (m : Int)].toArray (.int .i64 (begL (tysN k ins m))) R := by
  have hti := fun i h => ht.sub _ (inTy_get (hx i h)).2
  refine pureR_of_HC Tryz.func120 rfl rfl fun w => ?_; refine HC_seq fun K1 hK1 => HC_region ?_; refine HL_box (cs := #[_, _, _]) rfl rfl rfl rfl fun r1 => ?_; refine HLm rfl ?_; refine HL_nil (hK1 _ _ _ _ ?_); refine HC_seq fun K2 hK2 => HC_region ?_; refine HL_alloc (cs := #[_]) rfl rfl rfl rfl fun r2 => ?_
  refine HL_store (k := 0) rfl rfl rfl rfl rfl rfl rfl rfl (by first | (simp only [List.setIfInBounds_toArray, List.set_cons_zero, List.set_cons_succ]; exact rfl) | exact rfl) (by first | (simp only [List.set_cons_zero, List.set_cons_succ]; exact rfl) | exact rfl) ?_; refine HL_nil (hK2 _ _ _ _ ?_); refine HC_seq fun K3 hK3 => ?_; refine HC_seq fun K4 hK4 => HC_region ?_; refine HL_r rfl rfl rfl rfl (R_loadA (vs := [_, _, _]) rfl (known_L (k := 1) rfl) rfl rfl rfl rfl) ?_; refine HLm rfl (HL_callPE rfl rfl rfl (enters_of Tryz.func121 (by kernel_rfl) rfl) (E_items (.mk k n p ins) (m : Int)) fun pp => ?_)
  obtain ⟨ra, rb⟩ := pp
  change HL _ _ _ (iBlk rb m :: tBlk ra (.mk k n p ins) :: _) _ _ _ _; refine HL_nil (hK4 _ _ _ _ ?_); refine HC_block (HC_sel [2, 0, 1, 3] (L' := [_, _, _, _]) (by decide) rfl ?_)
  refine HC_rangeR (τ := Unit) (fun i (s : Nat) => i ≤ m ∧ i = s) (fun s => [(r2, .cells #[.int .i64 (begL (tysN k ins s))] 3 (0, 0))]) (fun _ _ => False) (fun _ => []) [iBlk rb m, tBlk ra (.mk k n p ins), _] 0 rfl rfl (enters_of Tryz.func189 (by kernel_rfl) rfl) (I_items ht (by omega) hx ra rb) (by rintro _ _ _ ⟨_, rfl, _⟩; rfl) rfl (fun q hq => by rcases List.mem_cons.1 hq with rfl | hq; exact .inl (by simp); rcases List.mem_cons.1 hq with rfl | hq; exact .inl (by simp); exact .inr hq) rfl ⟨Nat.zero_le _, rfl⟩ ?_ ?_ ?_
  · rintro q Xr Xb w3 i _ _ s ⟨hii, rfl, rfl⟩ ⟨him, rfl⟩ Kr hKr
    have hti1 := hti i hii
    have hb1 := begT_le (inTy k 0 ins i)
    have hb2 := begL_le (tysN k ins i)
    rw [tysN_len] at hb2
    unfold itV
    refine HC_region (HL_alloc (cs := #[_, _, _]) rfl rfl rfl rfl fun r3 => (HL_storeArr (k := 0) (n := 3) (ys := (inTy k 0 ins i).cells) rfl rfl rfl rfl rfl (inTy k 0 ins i).len rfl (inTy k 0 ins i).one rfl ?_)); refine HL_nil ?_; refine hKr _ _ ?_; clear hKr; refine HC_block (HC_seq fun K5 hK5 => HC_region (HL_r rfl rfl rfl rfl (R_loadArr (xs := (inTy k 0 ins i).cells) (n := 3) rfl (known_L (k := 0) rfl) rfl rfl (inTy k 0 ins i).len) ?_)); refine HL_callR rfl rfl rfl (enters_of Tryz.func122 (by kernel_rfl) rfl) (S_ssize hti1) (fun q hq => Or.inr (List.mem_append_right _ hq)) ?_; refine HLm rfl (HL_r rfl rfl rfl rfl (R_extract rfl rfl) (HL_r rfl rfl rfl rfl (R_extract rfl rfl) ?_)); refine HLm rfl (HLm rfl ?_); refine HL_nil (hK5 _ _ _ _ ?_); refine HC_region (HL_r rfl rfl rfl rfl (R_load (v := .int .i64 (begL (tysN k ins i))) rfl (known_L (k := 1) rfl) rfl rfl) ?_); refine HLm rfl (HLp rfl ?_); refine HL_as (show _ = Value.int .i64 (begL (tysN k ins (i + 1))) from by rw [begL_snoc]; exact congrArg (Value.int .i64) (wrap_i64 (by omega) (by omega))) ?_; refine HL_store (k := 1) (cs' := #[.int .i64 (begL (tysN k ins (i + 1)))]) rfl rfl rfl rfl rfl rfl rfl rfl rfl rfl ?_; refine HL_nil ?_; refine HQ_blockN (HQ_sel [1] (L' := [_]) (by decide) rfl ?_); refine HQ_round (i + 1) ⟨by omega, rfl⟩ rfl
  · rintro D i s hfi ⟨him, rfl⟩
    obtain rfl : m = i := Eq.symm hfi
    refine HQ_blockN (hK3 _ _ _ _ ?_); refine HC_seq fun K6 hK6 => HC_region ?_; refine HL_r rfl rfl rfl rfl (R_load (v := .int .i64 (begL (tysN k ins m))) rfl (known_L (k := 1) rfl) rfl rfl) ?_; refine HLm rfl ?_; refine HL_nil (hK6 _ _ _ _ ?_); refine HC_ret (HQ_mark (k := 0) rfl rfl ?_); refine HQ_post rfl rfl (.cons (res_tmp rfl) .nil) (fun w1 hs1 => ?_); exact ⟨rfl, hs1.keep⟩
  · exact fun _ _ _ h => h.elim
end Go.Proofs.YtlcbfphioeppaaaGreatDoor
namespace Go.Proofs.YtlcbfphioeppaaaGreatDoor
set_option linter.all false
open Go.SL Go.RowKit Go.Shelf
/-! ### Bytes turned round; bits, 8 a byte -/
set_option maxRecDepth 10000 in
theorem P_turned {s : BS} (hl : s.length ≤ 1000000) : Pure Tryz.prog 67 [strV s].toArray (strV s.reverse) := by
  refine pure_of_HC Tryz.func67 rfl rfl fun w => ?_; refine HC_seq fun K1 hK1 => HC_region ?_; refine HLm rfl ?_; refine HL_nil (hK1 _ _ _ _ ?_); refine HC_seq fun K2 hK2 => HC_region ?_; refine HLm rfl (HL_strBytes rfl rfl rfl rfl rfl rfl fun rb kb => ?_)
  obtain ⟨sp, hsp⟩ : ∃ sp, sp = List.replicate kb (Value.int .u8 0) := ⟨_, rfl⟩
  rw [← hsp]
  obtain ⟨fr, hfr⟩ : ∃ fr : Nat × Nat, fr = (s.length + kb, s.length + kb + 1) := ⟨_, rfl⟩
  rw [← hfr]
  have hfz : ∀ q, q < s.length → frB fr q = false := fun q hq => by rw [hfr]; simp [frB, Nat.blt, Nat.ble]; omega
  refine HLm rfl ?_; refine HL_nil (hK2 _ _ _ _ ?_); refine HC_seq fun K3 hK3 => ?_; refine HC_seq fun K4 hK4 => HC_region ?_; refine HLm rfl (HL_r rfl rfl rfl rfl (R_lenSl rfl rfl) ?_); refine HLp rfl (HL_as (show _ = Value.int .i64 ((s.length : Int) - 1) from congrArg (Value.int .i64) (wrap_i64 (by omega) (by omega))) ?_); refine HLm rfl (HLm rfl ?_); refine HL_nil (hK4 _ _ _ _ ?_); refine HC_block ?_; refine HC_loop (σ := Nat) (fun i => 2 * i ≤ s.length + 1 ∧ 2 * i ≤ s.length) (fun i => [(3, .slice (some ⟨rb, 0, none⟩) s.length (s.length + kb)), (4, .int .i64 (i : Int)), (5, .int .i64 ((s.length : Int) - 1 - (i : Int)))]) (fun i => [(rb, .cells ((revS s i).map bV ++ sp).toArray 5 fr)]) (fun _ _ _ => True) (fun i => s.length - i) 0 ⟨by omega, by omega⟩ (.cons rfl (.cons rfl (.cons (by rw [show ((0 : Nat) : Int) = 0 from rfl, Int.sub_zero]; rfl) .nil))) (List.Sublist.refl _) (fun _ _ h => h) ?_; rintro i ⟨hi1, hi2⟩; refine HC_seq fun K5 hK5 => ?_; refine HC_seq fun K6 hK6 => HC_region ?_; refine HLm rfl (HLm rfl (HLp rfl ?_)); refine HL_nil (hK6 _ _ _ _ ?_); refine HC_cond rfl (fun h7 => ?_) (fun h7 => ?_)
  · try exact Bool.noConfusion h7
    try simp only [ZZ] at h7
    refine HC_skip (hK5 _ _ _ _ ?_); refine HC_seq fun K8 hK8 => HC_block ?_
    have hii : i + 1 ≤ s.length - i := by omega
    obtain ⟨Y, hY⟩ : ∃ Y, Y = revS s i := ⟨_, rfl⟩
    have hYl : Y.length = s.length := by rw [hY]; exact revS_len s i
    rw [← hY]
    refine HC_drawB [] [(0, .pure), (1, .pure), (2, .pure), (3, .pure), (4, .pure), (5, .pure), (6, .pure), (8, .pure), (9, .pure), (10, .pure), (12, .pure), (13, .turn), (14, .pure), (15, .turn)] 16 [0, 1, 2, 3, 4, 5, 6, 7, 8, 9, 10, 11, 12, 13, 14, 15] (by kernel_rfl) (by kernel_rfl) (by first | exact (fun _ h => nomatch h) | simp [SubS] | (intro p hp; simp [hp])) ?_; refine HB_p (k := 0) rfl rfl rfl rfl rfl (fun _ hS => (R_move rfl)) ?_; refine HB_p (k := 1) rfl rfl rfl rfl rfl (fun _ hS => (R_move rfl)) ?_; refine HB_p (k := 2) rfl rfl rfl rfl rfl (fun _ hS => (R_move rfl)) ?_; refine HB_p (k := 3) rfl rfl rfl rfl rfl (fun _ hS => (R_move rfl)) ?_; refine HB_p (k := 4) rfl rfl rfl rfl rfl (fun _ hS => (R_move rfl)) ?_; refine HB_p (k := 5) rfl rfl rfl rfl rfl (fun _ hS => (R_move rfl)) ?_; refine HB_p (k := 6) rfl rfl rfl rfl rfl (fun _ _ => R_indexS (j := (s.length - 1 - i)) (m := 1) (off' := (s.length - 1 - i)) rfl rfl rfl rfl (by omega) (by omega) (by omega)) ?_; refine HB_r (k := 7) rfl rfl rfl rfl rfl (R_load rfl (known_L (k := 0) rfl) rfl (nth_row (xs := Y.map bV) (v := bV (Y.getD (s.length - 1 - i) 0)) (mapV_get (by omega)))) ?_; refine HB_p (k := 8) rfl rfl rfl rfl rfl (fun _ hS => (R_move rfl)) ?_; refine HB_p (k := 9) rfl rfl rfl rfl rfl (fun _ hS => (R_move rfl)) ?_; refine HB_p (k := 10) rfl rfl rfl rfl rfl (fun _ _ => R_indexS (j := i) (m := 1) (off' := i) rfl rfl rfl rfl (by omega) (by omega) (by omega)) ?_; refine HB_r (k := 11) rfl rfl rfl rfl rfl (R_load rfl (known_L (k := 0) rfl) rfl (nth_row (xs := Y.map bV) (v := bV (Y.getD (i) 0)) (mapV_get (by omega)))) ?_; refine HB_p (k := 12) rfl rfl rfl rfl rfl (fun _ _ => R_indexS (j := i) (m := 1) (off' := i) rfl rfl rfl rfl (by omega) (by omega) (by omega)) ?_; refine HB_storeF (k := 13) (q := 0) (cs' := ((Y.set i (Y.getD (s.length - 1 - i) 0)).map bV ++ sp).toArray) rfl rfl rfl rfl rfl rfl rfl rfl (hfz _ (by omega)) (by simp; omega) (set_mapV (by omega)) rfl (fun _ h => nomatch h) ?_; refine HB_p (k := 14) rfl rfl rfl rfl rfl (fun _ _ => R_indexS (j := (s.length - 1 - i)) (m := 1) (off' := (s.length - 1 - i)) rfl rfl rfl rfl (by omega) (by omega) (by omega)) ?_; refine HB_storeF (k := 15) (q := 0) (cs' := ((revS s (i + 1)).map bV ++ sp).toArray) rfl rfl rfl rfl rfl rfl rfl rfl (hfz _ (by omega)) (by simp; omega) (by rw [set_mapV (by rw [List.length_set]; omega), revS, ← hY]) rfl (fun _ h => nomatch h) ?_; refine HB_end ?_; refine HL_nil ?_; refine HQ_blockN (hK8 _ _ _ _ ?_); refine HC_region (HLm rfl ?_); refine HLp rfl (HL_wrap_i64 (by omega) (by omega) (HLm rfl ?_))
    refine HLp rfl ?_; refine HL_as (show _ = Value.int .i64 ((s.length : Int) - 1 - ((i + 1 : Nat) : Int)) from by rw [wrap_i64 (by omega) (by omega)]; congr 1 <;> omega) ?_; refine HLm rfl (HLm rfl (HL_nil ?_)); refine HQ_then ?_; exact HQ_again (i + 1) ⟨by omega, by omega⟩ (by omega) (.cons rfl (.cons rfl (.cons rfl .nil))) (List.Sublist.refl _) (fun _ _ h => h)
  · try exact Bool.noConfusion h7
    try simp only [ZZ] at h7
    refine HC_exit (HQ_thenE ?_); refine HQ_thenE (HQ_blockE (hK3 _ _ _ _ ?_)); refine HC_seq fun K9 hK9 => ?_; rw [revS_rev (xs := s) (i := i) (by omega) (by omega)]; refine HC_region (HLm rfl ?_); refine HL_r rfl rfl rfl rfl (R_bytesStrG (b := s.reverse) rfl (known_L (k := 0) rfl) (by rw [List.length_reverse]) (by simp only [List.toList_toArray]; rw [List.take_left' (by rw [List.length_map])]) rfl rfl rfl) ?_; refine HLm rfl ?_; refine HL_nil (hK9 _ _ _ _ ?_); refine HC_ret ?_; refine HQ_post rfl rfl (.cons (res_tmp rfl) .nil) (fun w1 hs1 => ?_); exact ⟨rfl, hs1.keep⟩
theorem set_mapV0 {Y : BS} {i : Nat} {b : UInt8} : (Y.map bV).toArray.setIfInBounds i (bV b) = ((Y.set i b).map bV).toArray := by
  rw [List.setIfInBounds_toArray, List.map_set]
theorem or_byte (x : UInt8) {m : Nat} (hm : m < 8) : Value.int .u8 ((x.toNat ||| 2 ^ m : Nat) : Int) = bV (UInt8.ofNat (x.toNat ||| 2 ^ m)) := bV_of (or_lt (u8_lt x) hm)
theorem shl_u8 {m : Nat} (hm : m < 8) : IntKind.u8.wrap (1 * ((2 ^ m : Nat) : Int)) = ((2 ^ m : Nat) : Int) := by
  have h : 2 ^ m ≤ 128 := Nat.pow_le_pow_right (n := 2) (i := m) (j := 7) (by decide) (by omega)
  generalize 2 ^ m = q at h ⊢
  rw [Int.one_mul]; exact wrap_u8 (by omega) (by omega)
set_option maxRecDepth 10000 in
theorem S_pack {R : List (Nat × Obj)} {l : List Bool} {g : FuncId} {caps : List Value} (hl : l.length ≤ 1000000) (eg : Enters Tryz.prog g) (hg : ∀ i, i < l.length → PureR Tryz.prog g (Value.int .i64 (i : Int) :: caps).toArray (.bool (l.getD i false)) R) :
    PureR Tryz.prog 69 [.int .i64 (l.length : Int), .func (.func g) #[] caps.toArray].toArray (strV (packB l)) R := by
  obtain ⟨N, hN⟩ : ∃ N, N = (l.length + 7) / 8 := ⟨_, rfl⟩
  have hpB : packB l = packS l N l.length := by rw [hN]; rfl
  refine pureR_of_HC Tryz.func69 rfl rfl fun w => ?_; refine HC_seq fun K1 hK1 => HC_region ?_; refine HLm rfl ?_; refine HL_nil (hK1 _ _ _ _ ?_); clear hK1 K1; refine HC_seq fun K2 hK2 => HC_region ?_; refine HLm rfl ?_
  refine HLp rfl ?_; refine HL_as (show _ = Value.int .i64 ((l.length + 8 : Nat) : Int) from by rw [wrap_i64 (by omega) (by omega)]; congr 1 <;> omega) ?_
  refine HLp rfl ?_; refine HL_as (show _ = Value.int .i64 ((l.length + 7 : Nat) : Int) from by rw [wrap_i64 (by omega) (by omega)]; congr 1 <;> omega) ?_; refine HLp rfl ?_; refine HL_as (show _ = Value.int .i64 ((N : Nat) : Int) from congrArg (Value.int .i64) (by rw [quo_i64 (by omega) (by decide) (by omega), hN]; rfl)) ?_; refine HL_make (n := N) (b := 1) rfl rfl rfl rfl rfl rfl rfl rfl rfl (by omega) (by omega) fun rm => ?_; rw [show List.replicate N (Value.int .u8 0) = (packS l N 0).map bV from by rw [packS, List.map_replicate]; rfl]; refine HLm rfl ?_; refine HL_nil (hK2 _ _ _ _ ?_); clear hK2 K2; refine HC_seq fun K3 hK3 => ?_; refine HC_seq fun K4 hK4 => HC_region ?_; refine HLm rfl (HLm rfl ?_); refine HL_nil (hK4 _ _ _ _ ?_); clear hK4 K4; refine HC_block (HC_loop (σ := Nat) (fun i => i ≤ l.length) (fun i => [(1, .func (.func g) #[] caps.toArray), (5, .slice (some ⟨rm, 0, none⟩) N N), (12, .int .i64 (l.length : Int)), (13, .int .i64 (i : Int))]) (fun i => [(rm, .cells ((packS l N i).map bV).toArray 5 (0, 0))]) (fun _ _ _ => True) (fun i => l.length - i) 0 (Nat.zero_le _) (.cons rfl (.cons rfl (.cons rfl (.cons rfl .nil)))) (List.Sublist.refl _) (fun _ _ h => h) ?_); intro i hi1; refine HC_seq fun K5 hK5 => HC_region ?_; refine HLp rfl ?_; refine HL_nil (hK5 _ _ _ _ ?_); clear hK5 K5; refine HC_seq fun K6 hK6 => ?_; refine HC_cond rfl (fun h7 => ?_) (fun h7 => ?_)
  · try exact Bool.noConfusion h7
    try simp only [ZZ] at h7
    refine HC_skip (hK6 _ _ _ _ ?_); clear hK6 K6; refine HC_seq fun K8 hK8 => HC_block ?_; refine HC_seq fun K9 hK9 => ?_
    have hil : i < l.length := by omega
    have hi8 : i / 8 < N := by omega
    refine HC_region (HLm rfl (HLm rfl ?_)); refine HL_nil (hK9 _ _ _ _ ?_); clear hK9 K9; refine HC_seq fun K10 hK10 => HC_region ?_; refine HLm rfl (HLm rfl (HL_callR rfl rfl rfl eg (hg i hil) (fun q hq => Or.inr hq) ?_)); refine HL_nil (hK10 _ _ _ _ ?_); clear hK10 K10; refine HC_cond rfl (fun h11 => ?_) (fun h11 => ?_)
    · try exact Bool.noConfusion h11
      try simp only [ZZ] at h11
      have hbt : l.getD i false = true := by assumption
      have hst1 : packS l N (i + 1) = (packS l N i).set (i / 8) (UInt8.ofNat (((packS l N i).getD (i / 8) 0).toNat ||| 2 ^ (i % 8))) := by rw [packS, if_pos hbt]
      obtain ⟨Y, hY⟩ : ∃ Y, Y = packS l N i := ⟨_, rfl⟩
      have hYl : Y.length = N := by rw [hY]; exact packS_len l N i
      rw [← hY] at hst1 ⊢
      refine HC_drawB [] [(0, .pure), (1, .pure), (2, .pure), (3, .pure), (5, .pure), (6, .pure), (7, .pure), (8, .pure), (9, .pure), (10, .turn)] 11 [0, 1, 2, 3, 4, 5, 6, 7, 8, 9, 10] (by kernel_rfl) (by kernel_rfl) (by first | exact (fun _ h => nomatch h) | simp [SubS] | (intro p hp; simp [hp])) ?_; refine HB_p (k := 0) rfl rfl rfl rfl rfl (fun _ hS => (R_move rfl)) ?_; refine HB_p (k := 1) rfl rfl rfl rfl rfl (fun _ hS => (R_move rfl)) ?_
      refine HB_p (k := 2) rfl rfl rfl rfl rfl (fun _ _ => (R_pure rfl rfl rfl)) ?_; refine HB_as (show _ = Value.int .i64 ((i / 8 : Nat) : Int) from congrArg (Value.int .i64) (by first | exact rem_nat _ _ | exact quo_i64 (by omega) (by decide) (by omega))) ?_; refine HB_p (k := 3) rfl rfl rfl rfl rfl (fun _ _ => R_indexS (j := (i / 8)) (m := 1) (off' := (i / 8)) rfl rfl rfl rfl (by omega) (by omega) (by omega)) ?_; refine HB_r (k := 4) rfl rfl rfl rfl rfl (R_load rfl (known_L (k := 0) rfl) rfl (by rw [nth_eq]; exact mapV_get (by omega))) ?_; refine HB_p (k := 5) rfl rfl rfl rfl rfl (fun _ hS => (R_move rfl)) ?_
      refine HB_p (k := 6) rfl rfl rfl rfl rfl (fun _ _ => (R_pure rfl rfl rfl)) ?_; refine HB_as (show _ = Value.int .i64 ((i % 8 : Nat) : Int) from congrArg (Value.int .i64) (by first | exact rem_nat _ _ | exact quo_i64 (by omega) (by decide) (by omega))) ?_; refine HB_p (k := 7) rfl rfl rfl rfl rfl (fun _ _ => R_shl (n := i % 8) (b := ((2 ^ (i % 8) : Nat) : Int)) rfl rfl rfl (show _ ≤ 8 from by omega) (shl_u8 (by omega))) ?_; refine HB_p (k := 8) rfl rfl rfl rfl rfl (fun _ _ => R_bits8 (op := .or) (m := (Y.getD (i / 8) 0).toNat) (n := 2 ^ (i % 8)) rfl rfl rfl (u8_lt _) (Nat.pow_lt_pow_right (by decide) (by omega) : 2 ^ (i % 8) < 2 ^ 8) rfl) ?_; refine HB_as (or_byte _ (by omega)) ?_; refine HB_p (k := 9) rfl rfl rfl rfl rfl (fun _ _ => R_indexS (j := (i / 8)) (m := 1) (off' := (i / 8)) rfl rfl rfl rfl (by omega) (by omega) (by omega)) ?_; refine HB_store (k := 10) (q := 0) (cs' := ((packS l N (i + 1)).map bV).toArray) rfl rfl rfl rfl rfl rfl rfl rfl (by simp; omega) (by rw [set_mapV0, hst1]) rfl (fun _ h => nomatch h) ?_; refine HB_end ?_; refine HL_nil ?_; refine HQ_blockN (hK8 _ _ _ _ ?_); clear hK8 K8; refine HC_region ?_
      refine HLp rfl ?_; refine HL_as (show _ = Value.int .i64 ((i + 1 : Nat) : Int) from by rw [wrap_i64 (by omega) (by omega)]; congr 1 <;> omega) ?_; refine HLm rfl (HL_nil (HQ_then ?_)); exact HQ_again (i + 1) (by omega) (by omega) (.cons rfl (.cons rfl (.cons rfl (.cons rfl .nil)))) (List.Sublist.refl _) (fun _ _ h => h)
    · try exact Bool.noConfusion h11
      try simp only [ZZ] at h11
      refine HC_skip (HQ_blockN (hK8 _ _ _ _ ?_)); clear hK8 K8; refine HC_region ?_
      refine HLp rfl ?_; refine HL_as (show _ = Value.int .i64 ((i + 1 : Nat) : Int) from by rw [wrap_i64 (by omega) (by omega)]; congr 1 <;> omega) ?_; refine HLm rfl (HL_nil (HQ_then ?_))
      (have hst0 : packS l N (i + 1) = packS l N i := by rw [packS, if_neg (by simp_all)]
       exact HQ_again (i + 1) (by omega) (by omega) (.cons rfl (.cons rfl (.cons rfl (.cons rfl .nil)))) (by rw [hst0]; exact List.Sublist.refl _) (fun _ _ h => h))
  · try exact Bool.noConfusion h7
    try simp only [ZZ] at h7
    refine HC_exit (HQ_thenE ?_); clear hK6 K6; refine HQ_thenE (HQ_blockE (hK3 _ _ _ _ ?_)); clear hK3 K3; refine HC_seq fun K12 hK12 => ?_
    obtain rfl : i = l.length := by omega
    refine HC_region (HLm rfl ?_); refine HL_r rfl rfl rfl rfl (R_bytesStr (b := packS l N l.length) (row := some (rm, N, [])) (e := 5) (show _ = some (rowV (packS l N l.length).length _) from by rw [packS_len]; rfl) ⟨by rw [List.length_map]; omega, by rw [packS_len]; simp⟩ (fun p hp => .inl (by rw [List.mem_singleton.1 hp, List.append_nil]; exact List.mem_cons_self)) rfl rfl rfl) ?_; refine HLm rfl ?_; refine HL_nil (hK12 _ _ _ _ ?_); clear hK12 K12; refine HC_ret ?_; refine HQ_post rfl rfl (.cons (res_tmp rfl) .nil) (fun w1 hs1 => ?_); refine ⟨?_, hs1.keep⟩; rw [hpB]; rfl
end Go.Proofs.YtlcbfphioeppaaaGreatDoor
namespace Go.Proofs.YtlcbfphioeppaaaGreatDoor
set_option linter.all false
open Go.SL Go.RowKit Go.Shelf
/-! ### The bits of a value; the reference's bytes of bits -/
set_option maxRecDepth 10000 in
theorem S_b1 {R : List (Nat × Obj)} {a b c d : Nat} {bits : List Bool} {pb : Pl} {items : List Vl} {pi : Pl} {pick : Int} (hsb : Seg R bits.length (bitsC bits) pb) (hl : bits.length ≤ 9223372036854775807) (rv : Nat) {i : Nat} (hi : i < bits.length) :
    PureR Tryz.prog 70 [.int .i64 (i : Int), pt0 rv].toArray (.bool (bits.getD i false)) (vBlk rv (.mk a b c d bits pb items pi pick) :: R) := by
  have hsb := hsb.mono (R' := vBlk rv (.mk a b c d bits pb items pi pick) :: R) fun q hq => List.mem_cons_of_mem _ hq
  have hy : bits[i]? = some (bits.getD i false) := by rw [List.getD_eq_getElem?_getD, List.getElem?_eq_getElem hi]; rfl
  generalize bits.getD i false = y at hy ⊢
  refine pureR_of_HC Tryz.func70 rfl rfl fun w => ?_; refine HC_seq fun K1 hK1 => HC_region ?_; refine HLm rfl ?_; refine HL_nil (hK1 _ _ _ _ ?_); refine HC_seq fun K2 hK2 => HC_region ?_
  refine HL_r rfl rfl rfl rfl (R_fieldAddr rfl rfl (by first | (simp only [Nat.zero_add, Nat.reduceAdd, Nat.reduceMul, Nat.zero_mul, Nat.mul_one, Nat.add_zero]; exact rfl) | exact rfl)) ?_; refine HL_r rfl rfl rfl rfl (R_load rfl (known_R (k := 0) rfl) rfl rfl) ?_; refine HLm rfl ?_
  refine HL_r rfl rfl rfl rfl (R_indexPl (j := i) rfl hsb rfl rfl rfl (by first | rfl | omega) (by omega)) ?_; refine HL_r rfl rfl rfl rfl (R_loadBit (fun q hq => Or.inr hq) rfl hsb hy rfl) ?_; refine HLm rfl ?_; refine HL_nil (hK2 _ _ _ _ ?_); refine HC_ret ?_; refine HQ_post rfl rfl (.cons (res_tmp rfl) .nil) (fun w1 hs1 => ?_); exact ⟨rfl, hs1.keep⟩
set_option maxRecDepth 10000 in
theorem S_b2 {R : List (Nat × Obj)} {a b c d : Nat} {bits : List Bool} {pb : Pl} {items : List Vl} {pi : Pl} {pick : Int} (hsb : Seg R bits.length (bitsC bits) pb) (hl : bits.length ≤ 9223372036854775807) (rn rv : Nat) {i : Nat} (hi : i < (bits ++ [true]).length) :
    PureR Tryz.prog 71 [.int .i64 (i : Int), pt0 rn, pt0 rv].toArray (.bool ((bits ++ [true]).getD i false)) (iBlk rn bits.length :: vBlk rv (.mk a b c d bits pb items pi pick) :: R) := by
  have hsb := hsb.mono (R' := iBlk rn bits.length :: vBlk rv (.mk a b c d bits pb items pi pick) :: R) fun q hq => List.mem_cons_of_mem _ (List.mem_cons_of_mem _ hq)
  rw [List.length_append] at hi; simp only [List.length_cons, List.length_nil] at hi
  by_cases he : i = bits.length
  · have hv : (bits ++ [true]).getD i false = true := by rw [List.getD_eq_getElem?_getD, List.getElem?_append_right (by omega), he, Nat.sub_self]; rfl
    rw [hv]; refine pureR_of_HC Tryz.func71 rfl rfl fun w => ?_; refine HC_seq fun K1 hK1 => HC_region ?_; refine HLm rfl ?_; refine HL_nil (hK1 _ _ _ _ ?_); refine HC_seq fun K2 hK2 => HC_region ?_; refine HLm rfl (HL_r rfl rfl rfl rfl (R_load (v := .int .i64 (bits.length : Int)) rfl (known_R (k := 0) rfl) rfl rfl) ?_); refine HLp rfl (HL_as (show _ = Value.bool true from bool_eq' (ieqT (by rw [he]))) ?_); refine HLm rfl (HL_skip rfl rfl rfl (HL_skip rfl rfl rfl ?_)); refine HL_skip rfl rfl rfl ?_; refine HL_skip rfl rfl rfl ?_; refine HL_skip rfl rfl rfl ?_; refine HL_r rfl rfl rfl rfl (R_pickT rfl rfl) ?_; refine HLm rfl ?_; refine HL_nil (hK2 _ _ _ _ ?_); refine HC_ret ?_; refine HQ_post rfl rfl (.cons (res_tmp rfl) .nil) (fun w1 hs1 => ?_); exact ⟨rfl, hs1.keep⟩
  · have hy : bits[i]? = some (bits.getD i false) := by rw [List.getD_eq_getElem?_getD, List.getElem?_eq_getElem (by omega)]; rfl
    have hv : (bits ++ [true]).getD i false = bits.getD i false := by rw [List.getD_eq_getElem?_getD, List.getElem?_append_left (by omega), List.getD_eq_getElem?_getD]
    rw [hv]
    generalize bits.getD i false = y at hy ⊢
    have hne : ((i : Int) == (bits.length : Int)) = false := by simp; omega
    refine pureR_of_HC Tryz.func71 rfl rfl fun w => ?_; refine HC_seq fun K1 hK1 => HC_region ?_; refine HLm rfl ?_; refine HL_nil (hK1 _ _ _ _ ?_); refine HC_seq fun K2 hK2 => HC_region ?_; refine HLm rfl (HL_r rfl rfl rfl rfl (R_load (v := .int .i64 (bits.length : Int)) rfl (known_R (k := 0) rfl) rfl rfl) ?_); refine HLp rfl (HL_as (show _ = Value.bool false from bool_eq' (hne)) (HLm rfl ?_))
    refine HL_r rfl rfl rfl rfl (R_fieldAddr rfl rfl (by first | (simp only [Nat.zero_add, Nat.reduceAdd, Nat.reduceMul, Nat.zero_mul, Nat.mul_one, Nat.add_zero]; exact rfl) | exact rfl)) ?_; refine HL_r rfl rfl rfl rfl (R_load rfl (known_R (k := 1) rfl) rfl rfl) ?_; refine HLm rfl ?_
    refine HL_r rfl rfl rfl rfl (R_indexPl (j := i) rfl hsb rfl rfl rfl (by first | rfl | omega) (by omega)) ?_; refine HL_r rfl rfl rfl rfl (R_loadBit (fun q hq => Or.inr hq) rfl hsb hy rfl) ?_; refine HL_r rfl rfl rfl rfl (R_pickF rfl rfl) ?_; refine HLm rfl ?_; refine HL_nil (hK2 _ _ _ _ ?_); refine HC_ret ?_; refine HQ_post rfl rfl (.cons (res_tmp rfl) .nil) (fun w1 hs1 => ?_); exact ⟨rfl, hs1.keep⟩
theorem getD_get' {l : BS} {i : Nat} (h : i < l.length) : l[i]? = some (l.getD i 0) := by rw [List.getD_eq_getElem?_getD, List.getElem?_eq_getElem h]; rfl
theorem add_byte {x : UInt8} {m : Nat} (h : x.toNat + 2 ^ m < 256) : Value.int .u8 (IntKind.u8.wrap ((x.toNat : Int) + ((2 ^ m : Nat) : Int))) = bV (UInt8.ofNat (x.toNat + 2 ^ m)) := by
  rw [← Int.natCast_add]
  generalize x.toNat + 2 ^ m = q at h ⊢
  rw [wrap_u8 (by omega) (by omega)]; exact bV_of h
def packG (l : List Bool) (N i : Nat) : BS := (packS l N i).take ((i + 7) / 8)
def packZ (l : List Bool) (N i : Nat) : BS := (packS l N i).take (i / 8 + 1)
theorem packG_len {l : List Bool} {N i : Nat} (h : (i + 7) / 8 ≤ N) : (packG l N i).length = (i + 7) / 8 := by unfold packG; rw [List.length_take, packS_len]; omega
theorem packZ_len {l : List Bool} {N i : Nat} (h : i / 8 < N) : (packZ l N i).length = i / 8 + 1 := by unfold packZ; rw [List.length_take, packS_len]; omega
theorem packS_lt (l : List Bool) {N i : Nat} (h : i / 8 < N) : ((packS l N i).getD (i / 8) 0).toNat < 2 ^ (i % 8) := by
  refine Nat.lt_pow_two_of_testBit _ fun j hj => ?_
  by_cases h8 : j < 8
  · rw [packS_bit l N i (i / 8) j (by omega) h h8, decide_eq_false (by omega), Bool.false_and]
  · exact Nat.testBit_lt_two_pow (Nat.lt_of_lt_of_le (u8_lt _) (Nat.pow_le_pow_right (n := 2) (i := 8) (by decide) (by omega)))
theorem packG_0 {l : List Bool} {N i : Nat} (h : i / 8 < N) (h8 : i % 8 = 0) : packG l N i ++ [0] = packZ l N i := by
  have h0 := packS_lt l h
  rw [h8] at h0
  have h1 : (packS l N i).getD (i / 8) 0 = 0 := by
    have : ((packS l N i).getD (i / 8) 0).toNat = 0 := by simpa using h0
    exact UInt8.toNat_inj.1 (by rw [this]; rfl)
  unfold packG packZ
  rw [show (i + 7) / 8 = i / 8 by omega, List.take_succ, getD_get' (by rw [packS_len]; exact h), h1]
  rfl
theorem packG_n {l : List Bool} {N i : Nat} (h8 : i % 8 ≠ 0) : packG l N i = packZ l N i := by
  unfold packG packZ
  rw [show (i + 7) / 8 = i / 8 + 1 by omega]
theorem packG_s (l : List Bool) (N i : Nat) : packG l N (i + 1) = (packS l N (i + 1)).take (i / 8 + 1) := by
  unfold packG
  rw [show (i + 1 + 7) / 8 = i / 8 + 1 by omega]
theorem packG_t {l : List Bool} {N i : Nat} (hN : i / 8 < N) (h : l.getD i false = true) : packG l N (i + 1) = (packZ l N i).set (i / 8) (UInt8.ofNat (((packZ l N i).getD (i / 8) 0).toNat + 2 ^ (i % 8))) := by
  have h0 := packS_lt l hN
  have hz : (packZ l N i).getD (i / 8) 0 = (packS l N i).getD (i / 8) 0 := by
    unfold packZ
    rw [List.getD_eq_getElem?_getD, List.getElem?_take, if_pos (by omega), List.getD_eq_getElem?_getD]
  have ho : ((packS l N i).getD (i / 8) 0).toNat ||| 2 ^ (i % 8) = ((packS l N i).getD (i / 8) 0).toNat + 2 ^ (i % 8) := by
    have := Nat.two_pow_add_eq_or_of_lt h0 1
    rw [Nat.mul_one] at this; rw [Nat.add_comm, this, Nat.or_comm]
  rw [packG_s, packS, if_pos h, hz, ← ho]
  unfold packZ
  rw [List.take_set]
theorem packG_f {l : List Bool} {N i : Nat} (h : ¬ l.getD i false = true) : packG l N (i + 1) = packZ l N i := by
  rw [packG_s, packS, if_neg h]; rfl
theorem packZ_lt {l : List Bool} {N i : Nat} (hN : i / 8 < N) : ((packZ l N i).getD (i / 8) 0).toNat + 2 ^ (i % 8) < 256 := by
  have h0 := packS_lt l hN
  have hz : (packZ l N i).getD (i / 8) 0 = (packS l N i).getD (i / 8) 0 := by
    unfold packZ
    rw [List.getD_eq_getElem?_getD, List.getElem?_take, if_pos (by omega), List.getD_eq_getElem?_getD]
  rw [hz]
  have h7 : 2 ^ (i % 8) ≤ 128 := Nat.pow_le_pow_right (n := 2) (j := 7) (by decide) (by omega)
  omega
set_option maxRecDepth 10000 in
theorem S_refPack {R : List (Nat × Obj)} {l : List Bool} {p : Pl} (hl : l.length ≤ 1000000) (hs : Seg R l.length (bitsC l) p) : PureR Tryz.prog 75 [plV l.length p].toArray (strV (packB l)) R := by
  obtain ⟨N, hN⟩ : ∃ N, N = (l.length + 7) / 8 := ⟨_, rfl⟩
  have hpB : packB l = packG l N l.length := by unfold packG; rw [← hN, List.take_of_length_le (by rw [packS_len]; exact Nat.le_refl _), hN]; rfl
  rw [hpB]; refine pureR_of_HC Tryz.func75 rfl rfl fun w => ?_; refine HC_seq fun K1 hK1 => HC_region ?_; refine HLm rfl ?_; refine HL_nil (hK1 _ _ _ _ ?_); clear hK1 K1; refine HC_seq fun K2 hK2 => HC_region ?_; refine HLm rfl ?_; refine HL_nil (hK2 _ _ _ _ ?_); clear hK2 K2; refine HC_seq fun K3 hK3 => ?_; refine HC_seq fun K4 hK4 => HC_region ?_; refine HLm rfl ?_; refine HL_nil (hK4 _ _ _ _ ?_); clear hK4 K4; refine HC_block (HC_loop (σ := Nat × Row) (fun q => q.1 ≤ l.length ∧ rowOk 1 ((q.1 + 7) / 8) ((packG l N q.1).map bV) q.2) (fun q => [(0, plV l.length p), (3, rowV ((q.1 + 7) / 8) q.2), (4, .int .i64 (q.1 : Int))]) (fun q => rowL 5 ((packG l N q.1).map bV) q.2) (fun _ _ _ => True) (fun q => l.length - q.1) (0, none) ⟨Nat.zero_le _, rfl, rfl⟩ (.cons rfl (.cons rfl (.cons rfl .nil))) (List.Sublist.refl _) (fun _ _ h => h) ?_); rintro ⟨i, row⟩ ⟨hi1, hrow⟩; simp only at hi1 hrow; change HC _ _ [(0, plV l.length p), (3, rowV ((i + 7) / 8) row), (4, .int .i64 (i : Int))] (rowL _ ((packG l N i).map bV) row) _ _ _; refine HC_seq fun K5 hK5 => ?_; refine HC_seq fun K6 hK6 => HC_region ?_; refine HLm rfl (HLm rfl (HL_r rfl rfl rfl rfl (R_lenPl rfl hs rfl) ?_)); refine HLp rfl ?_; refine HL_nil (hK6 _ _ _ _ ?_); clear hK6 K6; refine HC_cond rfl (fun h7 => ?_) (fun h7 => ?_)
  · try exact Bool.noConfusion h7
    try simp only [ZZ] at h7
    refine HC_skip (hK5 _ _ _ _ ?_); clear hK5 K5; refine HC_seq fun K8 hK8 => HC_block ?_; refine HC_seq fun K9 hK9 => ?_; refine HC_seq fun K10 hK10 => ?_
    have hil : i < l.length := by omega
    have hi8 : i / 8 < N := by omega
    have hyb : l[i]? = some (l.getD i false) := by rw [List.getD_eq_getElem?_getD, List.getElem?_eq_getElem hil]; rfl
    refine HC_region (HLm rfl ?_)
    refine HLp rfl (HL_as (show _ = Value.int .i64 ((i % 8 : Nat) : Int) from congrArg (Value.int .i64) (by first | exact rem_nat _ _ | exact quo_i64 (by omega) (by decide) (by omega))) (HLp rfl ?_)); refine HL_nil (hK10 _ _ _ _ ?_); clear hK10 K10; refine HC_cond rfl (fun h11 => ?_) (fun h11 => ?_)
    · try exact Bool.noConfusion h11
      try simp only [ZZ] at h11
      refine HC_region (HLm rfl ?_); refine HL_buildSlice (vs := [_]) (zs := [_]) (r := [_]) rfl rfl rfl rfl rfl rfl rfl rfl rfl (by show (madeCells #[_] _).toList = _; rw [made_one]; exact rfl) rfl fun r1 => ?_; refine HL_appendRow (L0 := [_]) (xs := (packG l N i).map bV) (row := row) (n := (i + 7) / 8) (sz := 1) (b := 1) (news := [_]) (List.perm_append_comm (l₁ := [_])) rfl rfl rfl rfl (known_L (k := 0) rfl) rfl rfl rfl rfl rfl (by decide) rfl rfl rfl (by decide) hrow (by omega) (by omega) fun ra cap sp hra => ?_; refine HLm rfl ?_; refine HL_nil (hK9 _ _ _ _ ?_); clear hK9 K9; refine HC_seq fun K12 hK12 => ?_
      (have h80 : i % 8 = 0 := by omega
       have e : (packG l N i).map bV ++ [Value.int .u8 0] = (packZ l N i).map bV := by rw [← packG_0 hi8 h80, List.map_append]; rfl
       have hn : (i + 7) / 8 + 1 = i / 8 + 1 := by omega
       change HC _ _ ((3, rowV ((i + 7) / 8 + 1) (some (ra, cap, sp))) :: _) _ _ _ _; rw [hn, e] at hra; rw [hn, e]; refine HC_subL (L' := rowL 5 ((packZ l N i).map bV) (some (ra, cap, sp))) (List.sublist_append_left _ _) ?_
       generalize (some (ra, cap, sp) : Row) = row2 at hra ⊢)
      have hZl := packZ_len (l := l) hi8
      refine HC_region (HLm rfl (HLm rfl ?_))
      refine HL_r rfl rfl rfl rfl (R_indexPl (j := i) rfl hs rfl rfl rfl (by first | rfl | omega) (by omega)) ?_; refine HL_r rfl rfl rfl rfl (R_loadBit (fun q hq => Or.inr hq) rfl hs hyb rfl) ?_; refine HL_nil (hK12 _ _ _ _ ?_); clear hK12 K12; refine HC_cond rfl (fun h13 => ?_) (fun h13 => ?_)
      · try exact Bool.noConfusion h13
        try simp only [ZZ] at h13
        have hst1 := packG_t hi8 (by assumption)
        have hlt8 := packZ_lt (l := l) hi8
        obtain ⟨⟨rr, cap2, sp2⟩, rfl⟩ : ∃ q, row2 = some q := by
          cases row2 with
          | none => have := hra.1; omega
          | some q => exact ⟨q, rfl⟩
        obtain ⟨Y, hY⟩ : ∃ Y, Y = packZ l N i := ⟨_, rfl⟩
        rw [← hY] at hst1 hlt8 hra hZl ⊢; change HC _ _ ((_, _) :: (_, _) :: _) [(rr, .cells (Y.map bV ++ sp2).toArray 5 (0, 0))] _ _ _; refine HC_region (HLm rfl (HLm rfl ?_))
        refine HLp rfl (HL_as (show _ = Value.int .i64 ((i / 8 : Nat) : Int) from congrArg (Value.int .i64) (by first | exact rem_nat _ _ | exact quo_i64 (by omega) (by decide) (by omega))) ?_); refine HLm rfl (HLm rfl ?_)
        refine HLp rfl (HL_as (show _ = Value.int .i64 ((i / 8 : Nat) : Int) from congrArg (Value.int .i64) (by first | exact rem_nat _ _ | exact quo_i64 (by omega) (by decide) (by omega))) (HL_r rfl rfl rfl rfl (R_indexS (j := i / 8) (m := 1) (off' := i / 8) rfl rfl rfl rfl (by omega) (by omega) (by omega)) ?_)); refine HL_r rfl rfl rfl rfl (R_load rfl (known_L (k := 0) rfl) rfl (nth_row (xs := Y.map bV) (v := bV (Y.getD (i / 8) 0)) (mapV_get (by omega)))) ?_; refine HLm rfl ?_
        refine HLp rfl (HL_as (show _ = Value.int .i64 ((i % 8 : Nat) : Int) from congrArg (Value.int .i64) (by first | exact rem_nat _ _ | exact quo_i64 (by omega) (by decide) (by omega))) ?_); refine HLp rfl (HL_as (show _ = uV (i % 8) from congrArg (Value.int .u64) (wrap_u64 (by omega) (by omega))) (HL_r rfl rfl rfl rfl (R_shl (n := i % 8) (b := ((2 ^ (i % 8) : Nat) : Int)) rfl rfl rfl (show _ ≤ 8 from by omega) (shl_u8 (by omega))) ?_)); refine HLp rfl (HL_as (show _ = bV (UInt8.ofNat ((Y.getD (i / 8) 0).toNat + 2 ^ (i % 8))) from add_byte hlt8) (HL_r rfl rfl rfl rfl (R_indexS (j := i / 8) (m := 1) (off' := i / 8) rfl rfl rfl rfl (by omega) (by omega) (by omega)) ?_)); refine HL_store (k := 0) (cs' := ((packG l N (i + 1)).map bV ++ sp2).toArray) rfl rfl rfl rfl rfl rfl (by simp; omega) rfl (by rw [set_mapV (by omega), hst1]) rfl ?_; refine HL_nil ?_; refine HQ_blockN (hK8 _ _ _ _ ?_); clear hK8 K8; refine HC_region (HLm rfl ?_)
        refine HLp rfl ?_; refine HL_as (show _ = Value.int .i64 ((i + 1 : Nat) : Int) from by rw [wrap_i64 (by omega) (by omega)]; congr 1 <;> omega) ?_; refine HLm rfl (HL_nil (HQ_then ?_)); exact HQ_again (i + 1, some (rr, cap2, sp2)) ⟨by simp only; omega, by simp only; rw [hst1, show (i + 1 + 7) / 8 = i / 8 + 1 by omega]; exact ⟨by rw [List.length_map, List.length_set]; omega, hra.2⟩⟩ (by simp only; omega) (.cons rfl (.cons (by simp only; rw [show (i + 1 + 7) / 8 = i / 8 + 1 by omega]; rfl) (.cons rfl .nil))) (List.Sublist.refl _) (fun _ _ h => h)
      · try exact Bool.noConfusion h13
        try simp only [ZZ] at h13
        refine HC_skip (HQ_blockN (hK8 _ _ _ _ ?_)); clear hK8 K8; refine HC_region (HLm rfl ?_)
        refine HLp rfl ?_; refine HL_as (show _ = Value.int .i64 ((i + 1 : Nat) : Int) from by rw [wrap_i64 (by omega) (by omega)]; congr 1 <;> omega) ?_; refine HLm rfl (HL_nil (HQ_then ?_))
        (have hst0 := packG_f (l := l) (N := N) (i := i) (by simp_all)
         exact HQ_again (i + 1, row2) ⟨by simp only; omega, by simp only; rw [hst0, show (i + 1 + 7) / 8 = i / 8 + 1 by omega]; exact hra⟩ (by simp only; omega) (.cons rfl (.cons (by simp only; rw [show (i + 1 + 7) / 8 = i / 8 + 1 by omega]; rfl) (.cons rfl .nil))) (by simp only; rw [hst0]; exact List.Sublist.refl _) (fun _ _ h => h))
    · try exact Bool.noConfusion h11
      try simp only [ZZ] at h11
      refine HC_skip (hK9 _ _ _ _ ?_); clear hK9 K9; refine HC_seq fun K14 hK14 => ?_
      (have h80 : i % 8 ≠ 0 := by omega
       have hra := hrow
       have hn : (i + 7) / 8 = i / 8 + 1 := by omega
       rw [packG_n h80, hn] at hra; rw [packG_n h80, hn]
       generalize row = row2 at hra ⊢)
      have hZl := packZ_len (l := l) hi8
      refine HC_region (HLm rfl (HLm rfl ?_))
      refine HL_r rfl rfl rfl rfl (R_indexPl (j := i) rfl hs rfl rfl rfl (by first | rfl | omega) (by omega)) ?_; refine HL_r rfl rfl rfl rfl (R_loadBit (fun q hq => Or.inr hq) rfl hs hyb rfl) ?_; refine HL_nil (hK14 _ _ _ _ ?_); clear hK14 K14; refine HC_cond rfl (fun h15 => ?_) (fun h15 => ?_)
      · try exact Bool.noConfusion h15
        try simp only [ZZ] at h15
        have hst1 := packG_t hi8 (by assumption)
        have hlt8 := packZ_lt (l := l) hi8
        obtain ⟨⟨rr, cap2, sp2⟩, rfl⟩ : ∃ q, row2 = some q := by
          cases row2 with
          | none => have := hra.1; omega
          | some q => exact ⟨q, rfl⟩
        obtain ⟨Y, hY⟩ : ∃ Y, Y = packZ l N i := ⟨_, rfl⟩
        rw [← hY] at hst1 hlt8 hra hZl ⊢; change HC _ _ ((_, _) :: (_, _) :: _) [(rr, .cells (Y.map bV ++ sp2).toArray 5 (0, 0))] _ _ _; refine HC_region (HLm rfl (HLm rfl ?_))
        refine HLp rfl (HL_as (show _ = Value.int .i64 ((i / 8 : Nat) : Int) from congrArg (Value.int .i64) (by first | exact rem_nat _ _ | exact quo_i64 (by omega) (by decide) (by omega))) ?_); refine HLm rfl (HLm rfl ?_)
        refine HLp rfl (HL_as (show _ = Value.int .i64 ((i / 8 : Nat) : Int) from congrArg (Value.int .i64) (by first | exact rem_nat _ _ | exact quo_i64 (by omega) (by decide) (by omega))) (HL_r rfl rfl rfl rfl (R_indexS (j := i / 8) (m := 1) (off' := i / 8) rfl rfl rfl rfl (by omega) (by omega) (by omega)) ?_)); refine HL_r rfl rfl rfl rfl (R_load rfl (known_L (k := 0) rfl) rfl (nth_row (xs := Y.map bV) (v := bV (Y.getD (i / 8) 0)) (mapV_get (by omega)))) ?_; refine HLm rfl ?_
        refine HLp rfl (HL_as (show _ = Value.int .i64 ((i % 8 : Nat) : Int) from congrArg (Value.int .i64) (by first | exact rem_nat _ _ | exact quo_i64 (by omega) (by decide) (by omega))) ?_); refine HLp rfl (HL_as (show _ = uV (i % 8) from congrArg (Value.int .u64) (wrap_u64 (by omega) (by omega))) (HL_r rfl rfl rfl rfl (R_shl (n := i % 8) (b := ((2 ^ (i % 8) : Nat) : Int)) rfl rfl rfl (show _ ≤ 8 from by omega) (shl_u8 (by omega))) ?_)); refine HLp rfl (HL_as (show _ = bV (UInt8.ofNat ((Y.getD (i / 8) 0).toNat + 2 ^ (i % 8))) from add_byte hlt8) (HL_r rfl rfl rfl rfl (R_indexS (j := i / 8) (m := 1) (off' := i / 8) rfl rfl rfl rfl (by omega) (by omega) (by omega)) ?_)); refine HL_store (k := 0) (cs' := ((packG l N (i + 1)).map bV ++ sp2).toArray) rfl rfl rfl rfl rfl rfl (by simp; omega) rfl (by rw [set_mapV (by omega), hst1]) rfl ?_; refine HL_nil ?_; refine HQ_blockN (hK8 _ _ _ _ ?_); clear hK8 K8; refine HC_region (HLm rfl ?_)
        refine HLp rfl ?_; refine HL_as (show _ = Value.int .i64 ((i + 1 : Nat) : Int) from by rw [wrap_i64 (by omega) (by omega)]; congr 1 <;> omega) ?_; refine HLm rfl (HL_nil (HQ_then ?_)); exact HQ_again (i + 1, some (rr, cap2, sp2)) ⟨by simp only; omega, by simp only; rw [hst1, show (i + 1 + 7) / 8 = i / 8 + 1 by omega]; exact ⟨by rw [List.length_map, List.length_set]; omega, hra.2⟩⟩ (by simp only; omega) (.cons rfl (.cons (by simp only; rw [show (i + 1 + 7) / 8 = i / 8 + 1 by omega]; rfl) (.cons rfl .nil))) (List.Sublist.refl _) (fun _ _ h => h)
      · try exact Bool.noConfusion h15
        try simp only [ZZ] at h15
        refine HC_skip (HQ_blockN (hK8 _ _ _ _ ?_)); clear hK8 K8; refine HC_region (HLm rfl ?_)
        refine HLp rfl ?_; refine HL_as (show _ = Value.int .i64 ((i + 1 : Nat) : Int) from by rw [wrap_i64 (by omega) (by omega)]; congr 1 <;> omega) ?_; refine HLm rfl (HL_nil (HQ_then ?_))
        (have hst0 := packG_f (l := l) (N := N) (i := i) (by simp_all)
         exact HQ_again (i + 1, row2) ⟨by simp only; omega, by simp only; rw [hst0, show (i + 1 + 7) / 8 = i / 8 + 1 by omega]; exact hra⟩ (by simp only; omega) (.cons rfl (.cons (by simp only; rw [show (i + 1 + 7) / 8 = i / 8 + 1 by omega]; rfl) (.cons rfl .nil))) (by simp only; rw [hst0]; exact List.Sublist.refl _) (fun _ _ h => h))
  · try exact Bool.noConfusion h7
    try simp only [ZZ] at h7
    refine HC_exit (HQ_thenE ?_); clear hK5 K5; refine HQ_thenE (HQ_blockE (hK3 _ _ _ _ ?_)); clear hK3 K3; refine HC_seq fun K16 hK16 => ?_
    obtain rfl : i = l.length := by omega
    refine HC_region (HLm rfl ?_); refine HL_r rfl rfl rfl rfl (R_bytesStr (b := packG l N l.length) (row := row) (e := 5) (show _ = some (rowV (packG l N l.length).length _) from by rw [packG_len (by omega)]; rfl) (by rw [packG_len (by omega)]; exact hrow) (fun p hp => .inl hp) rfl rfl rfl) ?_; refine HLm rfl ?_; refine HL_nil (hK16 _ _ _ _ ?_); clear hK16 K16; refine HC_ret ?_; refine HQ_post rfl rfl (.cons (res_tmp rfl) .nil) (fun w1 hs1 => ?_); exact ⟨rfl, hs1.keep⟩
end Go.Proofs.YtlcbfphioeppaaaGreatDoor
namespace Go.Proofs.YtlcbfphioeppaaaGreatDoor
set_option linter.all false
open Go.SL Go.RowKit Go.Shelf
/-! ### Rows of bytes -/
theorem inTy_n8 {k : Int} (h8 : k ≠ 8) (pick : Int) (ins : List Ty) (i : Nat) : inTy k pick ins i = inTy k 0 ins i := by
  unfold inTy inX; split
  · rfl
  · simp [h8]
theorem putL_n8 {k : Int} (h8 : k ≠ 8) (pick : Int) (ins : List Ty) : ∀ (l : List Vl) (i : Nat), putL l k pick ins i = putL l k 0 ins i
  | [], i => by rw [putL, putL]
  | x :: xs, i => by rw [putL, putL, putL_n8 h8 pick ins xs (i + 1), inTy_n8 h8]
theorem putL_tys {k : Int} (ins : List Ty) : ∀ (l : List Vl) (i : Nat), (putL l k 0 ins i).map Prod.fst = (List.range' i l.length).map fun j => inTy k 0 ins j
  | [], i => by rw [putL]; rfl
  | x :: xs, i => by
    rw [putL, List.map_cons, putL_tys ins xs (i + 1), List.length_cons, List.range'_succ, List.map_cons]
theorem tysN_put (k : Int) (ins : List Ty) (l : List Vl) : (putL l k 0 ins 0).map Prod.fst = tysN k ins l.length := by
  rw [putL_tys]; unfold tysN; rw [List.range_eq_range']
theorem perm_x3 {α : Type} (A : List α) (x : α) (B : List α) : (A ++ x :: B).Perm (B ++ (A ++ [x])) := by
  rw [show A ++ x :: B = (A ++ [x]) ++ B by simp]; exact List.perm_append_comm
def restB (l : List (Ty × BS)) : Nat := (l.map fun p => p.2.length + 4).sum
theorem restB_cons (p : Ty × BS) (l : List (Ty × BS)) : restB (p :: l) = p.2.length + 4 + restB l := by unfold restB; rw [List.map_cons, List.sum_cons]
theorem bOk_nil : bOk [] none := ⟨⟨rfl, rfl⟩, fun _ => rfl⟩
set_option maxHeartbeats 1000000 in
set_option maxRecDepth 10000 in
theorem S_srow {R : List (Nat × Obj)} {k n : Int} {p : Pl} {ins : List Ty} {items : List Vl} {pi : Pl} {B : Nat} (ht : Ty.In R (.mk k n p ins)) (hs : Seg R items.length (vlsC items) pi) (hl : items.length ≤ 600) (hx : ∀ i, i < items.length → inX k 0 i < ins.length)
    (hb : ∀ (i : Nat) x, items[i]? = some x → PureR Tryz.prog 37 [(inTy k 0 ins i).val, x.val].toArray (strV (putV x (inTy k 0 ins i))) R) (hB : restB (putL items k 0 ins 0) ≤ B) (hB2 : B ≤ 900000) :
    PureR Tryz.prog 72 [Ty.val (.mk k n p ins), plV items.length pi].toArray (strV (rowF (begL (tysN k ins items.length)).toNat (putL items k 0 ins 0) [] [])) R := by
  have hti := fun i h => ht.sub _ (inTy_get (hx i h)).2
  have hbg := S_sbegin ht hl hx
  have hbl := begL_le (tysN k ins items.length)
  rw [tysN_len] at hbl
  obtain ⟨H, hH⟩ : ∃ H, H = (begL (tysN k ins items.length)).toNat := ⟨_, rfl⟩
  have hHi : begL (tysN k ins items.length) = (H : Int) := by omega
  have hHb : H ≤ 1351079888211148800 := by omega
  rw [hHi] at hbg; rw [← hH]
  obtain ⟨TOT, hTOT⟩ : ∃ T, T = rowF H (putL items k 0 ins 0) [] [] := ⟨_, rfl⟩
  rw [← hTOT]; refine pureR_of_HC Tryz.func72 rfl rfl fun w => ?_; refine HC_seq fun K1 hK1 => HC_region ?_; refine HL_box (cs := #[_, _, _]) rfl rfl rfl rfl fun r1 => ?_; refine HL_box (cs := #[_]) rfl rfl rfl rfl fun r2 => ?_; refine HLm rfl ?_; refine HL_nil (hK1 _ _ _ _ ?_); refine HC_seq fun K2 hK2 => HC_region ?_; refine HL_alloc (cs := #[_, _]) rfl rfl rfl rfl fun r3 => ?_; refine HL_alloc (cs := #[_, _]) rfl rfl rfl rfl fun r4 => ?_; refine HL_nil (hK2 _ _ _ _ ?_); refine HC_seq fun K3 hK3 => HC_region ?_; refine HL_r rfl rfl rfl rfl (R_loadA (vs := [_, _, _]) rfl (known_L (k := 3) rfl) rfl rfl rfl rfl) ?_; refine HL_r rfl rfl rfl rfl (R_load rfl (known_L (k := 2) rfl) rfl rfl) ?_; refine HL_r rfl rfl rfl rfl (R_lenPl rfl hs rfl) ?_; refine HL_callR rfl rfl rfl (enters_of Tryz.func120 (by kernel_rfl) rfl) hbg (fun q hq => Or.inr hq) ?_; refine HL_alloc (cs := #[_]) rfl rfl rfl rfl fun r5 => ?_
  refine HL_store (k := 0) rfl rfl rfl rfl rfl rfl rfl rfl (by first | (simp only [List.setIfInBounds_toArray, List.set_cons_zero, List.set_cons_succ]; exact rfl) | exact rfl) (by first | (simp only [List.set_cons_zero, List.set_cons_succ]; exact rfl) | exact rfl) ?_; refine HL_nil (hK3 _ _ _ _ ?_); refine HC_seq fun K4 hK4 => ?_; refine HC_seq fun K5 hK5 => HC_region ?_; refine HL_r rfl rfl rfl rfl (R_loadA (vs := [_, _, _]) rfl (known_L (k := 4) rfl) rfl rfl rfl rfl) ?_; refine HL_r rfl rfl rfl rfl (R_load rfl (known_L (k := 3) rfl) rfl rfl) ?_; refine HL_r rfl rfl rfl rfl (R_lenPl rfl hs rfl) ?_; refine HL_callPE rfl rfl rfl (enters_of Tryz.func121 (by kernel_rfl) rfl) (E_items (.mk k n p ins) (items.length : Int)) fun pp => ?_
  obtain ⟨ra, rb⟩ := pp
  change HL _ _ _ (iBlk rb items.length :: tBlk ra (.mk k n p ins) :: _) _ _ _ _; refine HL_nil (hK5 _ _ _ _ ?_); refine HC_block (HC_sel [4, 3, 0, 1, 2, 5, 6] (L' := [bldB r3 [] none false, bldB r4 [] none false, iBlk rb items.length, tBlk ra (.mk k n p ins), _, _, _]) (by decide) rfl ?_)
  refine HC_rangeR (τ := Unit) (fun i (s : BS × BS × Row × Row × Bool × Bool) => i ≤ items.length ∧ rowF H (putL (items.drop i) k 0 ins i) s.1 s.2.1 = TOT ∧ bOk s.1 s.2.2.1 ∧ bOk s.2.1 s.2.2.2.1 ∧ s.1.length + s.2.1.length + restB (putL (items.drop i) k 0 ins i) ≤ B) (fun s => bldL r3 s.1 s.2.2.1 s.2.2.2.2.1 ++ bldL r4 s.2.1 s.2.2.2.1 s.2.2.2.2.2) (fun _ _ => False) (fun _ => []) [iBlk rb items.length, tBlk ra (.mk k n p ins), _, _, _] ([], [], none, none, false, false) rfl rfl (enters_of Tryz.func189 (by kernel_rfl) rfl) (I_items ht (by omega) hx ra rb) (by rintro _ _ _ ⟨_, rfl, _⟩; rfl) rfl (fun q hq => by rcases List.mem_cons.1 hq with rfl | hq; exact .inl (by simp); rcases List.mem_cons.1 hq with rfl | hq; exact .inl (by simp); exact .inr hq) rfl ⟨Nat.zero_le _, hTOT.symm, bOk_nil, bOk_nil, by simpa using hB⟩ ?_ ?_ ?_
  · rintro q Xr Xb w3 i _ _ ⟨f, th, row1, row2, own1, own2⟩ ⟨hii, rfl, rfl⟩ ⟨him, hinv, hb1, hb2, hlen⟩ Kr hKr
    simp only at hinv hb1 hb2 hlen
    have hti1 := hti i hii
    have hix := itm_get hii
    have hbi := hb i _ hix.1
    rw [dropI hix.1, putL, rowF] at hinv; rw [dropI hix.1, putL, restB_cons] at hlen
    obtain ⟨S, hS⟩ : ∃ S, S = putV (itm items i) (inTy k 0 ins i) := ⟨_, rfl⟩
    simp only [← hS] at hinv hlen; rw [← hS] at hbi
    have hle4 := leR4_len (H + th.length)
    unfold itV
    refine HC_seq fun K6 hK6 => HC_region ?_; refine HLm rfl ?_; refine HL_nil (hK6 _ _ _ _ ?_); refine HC_region (HL_alloc (cs := #[.int .i64 0, .int .i64 0, .slice none 0 0]) rfl rfl rfl rfl fun r9 => (HL_storeArr (k := 0) (n := 3) (ys := (inTy k 0 ins i).cells) rfl rfl rfl rfl rfl (inTy k 0 ins i).len rfl (inTy k 0 ins i).one rfl ?_)); refine HL_nil ?_; refine hKr _ _ ?_; clear hKr; refine HC_block (HC_seq fun K7 hK7 => (HC_draw 7 (by kernel_rfl) (by kernel_rfl) ?_)); refine HD_r rfl rfl rfl (R_loadArr (xs := (inTy k 0 ins i).cells) (n := 3) rfl (known_L (k := 0) rfl) rfl rfl (inTy k 0 ins i).len) ?_; refine HD_r rfl rfl rfl (R_load (v := plV items.length pi) rfl (known_R (k := 3) rfl) rfl rfl) ?_; refine HD_r rfl rfl rfl (R_move rfl) ?_
    refine HD_r rfl rfl rfl (R_indexPl (j := i) rfl hs rfl rfl rfl (by first | rfl | omega) (by omega)) ?_; refine HD_r rfl rfl rfl (R_loadVl (fun q hq => Or.inr (List.mem_append_right _ hq)) rfl hs hix.1 rfl rfl) ?_; refine HD_callR rfl rfl rfl (enters_of Tryz.func37 (by kernel_rfl) rfl) hbi (fun q hq => Or.inr (List.mem_append_right _ hq)) ?_; refine HD_r rfl rfl rfl (R_assign rfl) ?_; refine HD_end ?_; refine HL_nil (hK7 _ _ _ _ ?_); refine HC_seq fun K8 hK8 => ?_; refine HC_seq fun K9 hK9 => HC_region ?_; refine HL_r rfl rfl rfl rfl (R_loadArr (xs := (inTy k 0 ins i).cells) (n := 3) rfl (known_L (k := 0) rfl) rfl rfl (inTy k 0 ins i).len) ?_; refine HL_callR rfl rfl rfl (enters_of Tryz.func122 (by kernel_rfl) rfl) (S_ssize hti1) (fun q hq => Or.inr (List.mem_append_right _ hq)) ?_; refine HLm rfl (HL_r rfl rfl rfl rfl (R_extract rfl rfl) (HL_r rfl rfl rfl rfl (R_extract rfl rfl) ?_)); refine HLm rfl (HLm rfl ?_); refine HL_nil (hK9 _ _ _ _ ?_); refine HC_seq fun K10 hK10 => HC_region ?_; refine HLm rfl ?_; refine HL_nil (hK10 _ _ _ _ ?_); refine HC_cond rfl (fun h11 => ?_) (fun h11 => ?_)
    · try exact Bool.noConfusion h11
      try simp only [ZZ] at h11
      refine HC_seq fun K12 hK12 => HC_region ?_; refine HLm rfl (HL_callT (T := bldL r3 f row1 own1) (L0 := (r9, .cells (inTy k 0 ins i).cells.toArray 24 (0, 0)) :: bldL r4 th row2 own2) (Rl := []) List.perm_middle.symm rfl rfl rfl (enters_of Tryz.func123 (by kernel_rfl) rfl) (T_Write hb1 (s2 := S) (by omega)) (fun q hq => nomatch hq) fun x => ?_)
      obtain ⟨row1x, hb1x⟩ := x
      refine HL_nil (hK12 _ _ _ _ ?_); refine HC_exit (HQ_thenE ?_); refine HQ_blockE ?_
      (rw [if_pos (by assumption)] at hinv
       refine HQ_subL (L' := bldL r3 (f ++ S) row1x true ++ bldL r4 th row2 own2) ((List.Sublist.refl _).append (.cons _ (List.Sublist.refl _))) ?_
       exact HQ_round (f ++ S, th, row1x, row2, true, own2) ⟨by omega, hinv, hb1x, hb2, by simp only [List.length_append]; omega⟩ rfl)
    · try exact Bool.noConfusion h11
      try simp only [ZZ] at h11
      refine HC_skip (hK8 _ _ _ _ ?_); refine HC_seq fun K13 hK13 => ?_; refine HC_draw 10 (by kernel_rfl) (by kernel_rfl) ?_; refine HD_r rfl rfl rfl (R_load (v := .int .i64 (H : Int)) rfl (known_R (k := 2) rfl) rfl rfl) ?_; refine HD_callR rfl rfl rfl (enters_of Tryz.func124 (by kernel_rfl) rfl) (P_bLen r4 own2 hb2) (fun q hq => Or.inl (by rw [List.mem_singleton.1 hq]; exact List.mem_cons_of_mem _ (List.mem_append_right _ List.mem_cons_self))) ?_
      refine HD_r rfl rfl rfl (R_pure rfl rfl rfl) ?_; refine HD_as (show _ = Value.int .i64 ((H + th.length : Nat) : Int) from by rw [wrap_i64 (by omega) (by omega)]; congr 1 <;> omega) ?_; refine HD_r rfl rfl rfl (R_pure rfl rfl rfl) ?_; refine HD_as (show _ = uV (H + th.length) from congrArg (Value.int .u64) (wrap_u64 (by omega) (by omega))) ?_; refine HD_callP rfl rfl rfl (enters_of Tryz.func56 (by kernel_rfl) rfl) (P_num_Le (n := H + th.length) (by omega) 4) ?_; refine HD_r rfl rfl rfl (R_move rfl) ?_; refine HD_r rfl rfl rfl (R_extract rfl rfl) ?_; refine HD_r rfl rfl rfl (R_extract rfl rfl) ?_; refine HD_r rfl rfl rfl (R_assign rfl) ?_; refine HD_r rfl rfl rfl (R_assign rfl) ?_; refine HD_end ?_; refine HL_nil (hK13 _ _ _ _ ?_); refine HC_seq fun K14 hK14 => HC_region ?_; refine HLm rfl (HL_callT (T := bldL r3 f row1 own1) (L0 := (r9, .cells (inTy k 0 ins i).cells.toArray 24 (0, 0)) :: bldL r4 th row2 own2) (Rl := []) List.perm_middle.symm rfl rfl rfl (enters_of Tryz.func123 (by kernel_rfl) rfl) (T_Write hb1 (s2 := (leR (H + th.length) 4).1) (by omega)) (fun q hq => nomatch hq) fun x => ?_)
      obtain ⟨row1x, hb1x⟩ := x
      refine HL_nil (hK14 _ _ _ _ ?_); refine HC_region (HLm rfl (HL_callT (T := bldL r4 th row2 own2) (L0 := bldL r3 (f ++ (leR (H + th.length) 4).1) row1x true ++ [(r9, .cells (inTy k 0 ins i).cells.toArray 24 (0, 0))]) (Rl := []) (perm_x3 _ _ _) rfl rfl rfl (enters_of Tryz.func123 (by kernel_rfl) rfl) (T_Write hb2 (s2 := S) (by omega)) (fun q hq => nomatch hq) fun x => ?_))
      obtain ⟨row2x, hb2x⟩ := x
      refine HL_nil ?_; refine HQ_blockN ?_
      (rw [if_neg (by rw [Bool.not_eq_true]; assumption)] at hinv
       refine HQ_perm List.perm_append_comm ?_; refine HQ_subL (L' := bldL r3 (f ++ (leR (H + th.length) 4).1) row1x true ++ bldL r4 (th ++ S) row2x true) ((List.sublist_append_left _ _).append (List.Sublist.refl _)) ?_
       exact HQ_round (f ++ (leR (H + th.length) 4).1, th ++ S, row1x, row2x, true, true) ⟨by omega, hinv, hb1x, hb2x, by simp only [List.length_append]; omega⟩ rfl)
  · rintro D i ⟨f, th, row1, row2, own1, own2⟩ hfi ⟨him, hinv, hb1, hb2, hlen⟩
    simp only at hinv hb1 hb2 hlen
    have hin : i = items.length := hfi
    rw [hin, List.drop_length, putL, rowF] at hinv; refine HQ_blockN (hK4 _ _ _ _ ?_); refine HC_seq fun K15 hK15 => HC_region ?_; refine HL_callT (T := bldL r3 f row1 own1) (L0 := _ :: (bldL r4 th row2 own2 ++ [iBlk rb items.length, tBlk ra (.mk k n p ins), _, _, _])) (Rl := []) (by rw [List.append_assoc]; exact List.perm_middle.symm) rfl rfl rfl (enters_of Tryz.func125 (by kernel_rfl) rfl) (T_bStr hb1 (by omega)) (fun q hq => nomatch hq) fun u1 => ?_; refine HL_callT (T := bldL r4 th row2 own2) (L0 := _ :: [iBlk rb items.length, tBlk ra (.mk k n p ins), _, _, _]) (Rl := []) List.perm_middle.symm rfl rfl rfl (enters_of Tryz.func125 (by kernel_rfl) rfl) (T_bStr hb2 (by omega)) (fun q hq => nomatch hq) fun u2 => ?_; refine HL_r rfl rfl rfl rfl (R_concat (a := f) (b := th) rfl rfl (by omega)) ?_; refine HLm rfl ?_; refine HL_nil (hK15 _ _ _ _ ?_); refine HC_ret (HQ_mark (k := 0) rfl rfl ?_); refine HQ_post rfl rfl (.cons (res_tmp rfl) .nil) (fun w1 hs1 => ?_); exact ⟨by rw [← hinv]; rfl, hs1.keep⟩
  · exact fun _ _ _ h => h.elim
end Go.Proofs.YtlcbfphioeppaaaGreatDoor
namespace Go.Proofs.YtlcbfphioeppaaaGreatDoor
set_option linter.all false
open Go.SL Go.RowKit Go.Shelf
/-! ### The bytes of a value -/
theorem fit_split {a b c d : Nat} {bits : List Bool} {pb : Pl} {items : List Vl} {pi : Pl} {pick k n : Int} {p : Pl} {ins : List Ty} (h : fitT (.mk a b c d bits pb items pi pick) (.mk k n p ins) = 0) :
    ¬ ((k = 4 ∧ n < items.length) ∨ (k = 6 ∧ n < bits.length)) ∧ ofT k n ins.length (.mk a b c d bits pb items pi pick) = true ∧ fitL items k pick ins 0 = 0 := by
  rw [fitT] at h
  split at h
  · cases h
  · rename_i h1
    split at h
    · cases h
    · rename_i h2
      exact ⟨h1, by simpa using h2, h⟩
theorem fitL_get : ∀ {l : List Vl} {k pick : Int} {ins : List Ty} {i j : Nat} {x : Vl}, fitL l k pick ins i = 0 → l[j]? = some x → fitT x (inTy k pick ins (i + j)) = 0
  | [], _, _, _, _, _, _, _, h => by simp at h
  | y :: ys, k, pick, ins, i, j, x, h0, h => by
    rw [fitL] at h0
    split at h0
    · rename_i h1
      cases j with
      | zero => simp at h; subst h; exact h1
      | succ j =>
        rw [List.getElem?_cons_succ] at h
        have := fitL_get h0 h
        rwa [show i + 1 + j = i + (j + 1) by omega] at this
    · rename_i h1; exact absurd h0 h1
theorem wL_mem : ∀ {l : List Vl} {x : Vl}, x ∈ l → wV x ≤ wL l
  | y :: ys, x, h => by
    rw [wL]
    rcases List.mem_cons.1 h with rfl | h
    · omega
    · have := wL_mem h; omega
theorem wV_sub {a b c d : Nat} {bits : List Bool} {pb : Pl} {items : List Vl} {pi : Pl} {pick : Int} {x : Vl} (h : x ∈ items) : wV x ≤ wV (.mk a b c d bits pb items pi pick) := by
  have := wL_mem h
  rw [wV]; omega
theorem restB_le (items : List Vl) (k pick : Int) (ins : List Ty) : ∀ (l : List Vl) (i : Nat), restB (putL l k pick ins i) ≤ 40 * wL l
  | [], i => by rw [putL, wL]; exact Nat.zero_le _
  | x :: xs, i => by
    rw [putL, wL, restB_cons]
    have h1 := putV_len x (inTy k pick ins i)
    have h2 := restB_le items k pick ins xs (i + 1)
    simp only
    omega
theorem pick_byte {z : Int} (h1 : 0 ≤ z) (h2 : z < 256) : Value.int .u8 (IntKind.u8.wrap z) = bV (UInt8.ofNat z.toNat) := by
  rw [wrap_u8 h1 (by omega), ← bV_of (by omega), Int.toNat_of_nonneg h1]
theorem put_one {l : List Vl} {k pick : Int} {ins : List Ty} (h : l.length = 1) : ((putL l k pick ins 0).headD (default, [])).2 = putV (itm l 0) (inTy k pick ins 0) := by
  match l, h with
  | [x], _ => rw [putL]; rfl
/-- How many items, bits there are. -/
theorem fit_many {a b c d : Nat} {bits : List Bool} {pb : Pl} {items : List Vl} {pi : Pl} {pick k n dp : Int} {p : Pl} {ins : List Ty} (hc : chk (.mk k n p ins) dp = 0) (h : fitT (.mk a b c d bits pb items pi pick) (.mk k n p ins) = 0) :
    items.length ≤ 512 ∧ bits.length ≤ 512 ∧ (k = 1 → 1 ≤ n ∧ n ≤ 32) ∧ (k = 8 → items.length = 1 ∧ 0 ≤ pick ∧ pick < ins.length ∧ ins.length ≤ 8) := by
  obtain ⟨h1, h2, _⟩ := fit_split h
  obtain ⟨hk, hf, _, _⟩ := chk_mk hc
  rw [ofT_mk k n ins.length a b c d bits pb items pi pick _ rfl] at h2; simp only [onlyB_mk] at h2
  unfold okForm at hf
  have h9 : k = 1 ∨ k = 2 ∨ k = 3 ∨ k = 4 ∨ k = 5 ∨ k = 6 ∨ k = 7 ∨ k = 8 := by omega
  rcases h9 with rfl | rfl | rfl | rfl | rfl | rfl | rfl | rfl
  all_goals generalize items.length = I at *
  all_goals generalize bits.length = J at *
  all_goals generalize ins.length = K at *
  all_goals simp at h1 h2 hf ⊢
  all_goals omega
section
variable {c : Cx} {l : List (Nat × Value)} {L E : List (Nat × Obj)} {X : XP} {Q : Exit → Act → World → Prop} {d : List Deferred}
variable {ops : Array Oper} {rest : List Nat} {i k : Nat} {v : Value} {o : Oper} {tb : Kbs} {S : List (Nat × Obj)} {T : List (Nat × Obj) → Act → Prop}
theorem HB_buildSlice {t ty : TypeId} {ps : String} {af : Array Edge} {gd : Option (Nat × Bool)} {n e sz : Nat} {pa : List (Nat × Operand)} {vs : List (Nat × Value)} {r zs : List Value} {z : Value} (hk : nth ops.toList k = some ⟨some i, .buildSlice t n pa.toArray, ty, ps, af, gd⟩) (hg : goes l ops ⟨some i, .buildSlice t n pa.toArray, ty, ps, af, gd⟩ = some true) (hi : Nat.ble (i + 1) c.n = true)
    (hA : tb k = .grow (geNew (slV n) (.cells r.toArray e (0, 0))))
    (hp : partsOf l pa = some vs) (ht : sliceOf c.P t = some e) (hz : zeroOf c.P e = some z) (hs : szOf c.P e = some sz) (hzs : z.cells.size = sz) (hb : Nat.ble (n * sz) 16777216 = true) (h0 : Nat.ble 1 (n * sz) = true)
    (hmk : (madeCells z.cells (n * sz)).toList = zs) (hf : fillL (fun i => some (i * sz, sz)) zs (cellsOfParts vs) = some r)
    (h : ∀ q, HB c d ((i, .slice (some ⟨q, 0, none⟩) n n) :: l) ((q, .cells r.toArray e (0, 0)) :: E) X S ops tb rest T) : HB c d l E X S ops tb (k :: rest) T :=
  HB_new (V := slV n) hk hg rfl hi hA (fun a w hfr => by
    have h1 := partsOf_eval hfr hp
    have h2 : (pa.toArray.map fun (p : Nat × Operand) => (p.1, a.eval p.2)) = vs.toArray := by
      apply Array.toList_inj.1; rw [Array.toList_map]; simpa using h1
    rw [cellsOfParts_eq] at hf; subst hmk
    have h3 := run_fill_slice ht hz hs hzs (Nat.le_of_ble_eq_true hb) (Nat.le_of_ble_eq_true h0) hf w
    rw [← h2] at h3; simp only [execOp, Sem.run_bind]
    have h4 : (Instr.buildSlice t n (pa.toArray.map fun (i, x) => (i, a.eval x))).run c.P w = .ok (.slice (some ⟨w.heap.size, 0, none⟩) n n) (w.alloc (.cells r.toArray e)) := h3
    rw [h4]; rfl) h
end
section
variable {a b c d : Nat} {bits : List Bool} {pb : Pl} {items : List Vl} {pi : Pl} {pick k n : Int} {p : Pl} {ins : List Ty}
theorem putV_mk : putV (.mk a b c d bits pb items pi pick) (.mk k n p ins) = if k = 1 then leW [a, b, c, d] n.toNat else if k = 2 then leW [a, b, c, d] 1 else if k = 5 then packB bits else if k = 6 then packB (bits ++ [true])
    else if k = 8 then UInt8.ofNat pick.toNat :: ((putL items k pick ins 0).headD (default, [])).2 else rowF (begL ((putL items k pick ins 0).map Prod.fst)).toNat (putL items k pick ins 0) [] [] := by rw [putV]; rfl
end
set_option maxHeartbeats 1000000 in
set_option maxRecDepth 10000 in
theorem S_bytes {R : List (Nat × Obj)} {v : Vl} (hv : v.In R) : ∀ (t : Ty) (dp : Int), t.In R → chk t dp = 0 → fitT v t = 0 → wV v ≤ 20000 → PureR Tryz.prog 37 [t.val, v.val].toArray (strV (putV v t)) R := by
  induction hv with
  | @mk a b c d bits pb items pi pick ha hb hc hd hlb hsb hl hs hp hi ih =>
  intro t dp ht hck hfit hw
  have ht0 := ht
  cases ht with
  | @mk k n p ins hk hn hlt hst hit =>
  obtain ⟨hk8, ho, h6, hci⟩ := chk_mk hck
  obtain ⟨hf1, hf2, hf3⟩ := fit_split hfit
  obtain ⟨m1, m2, m3, m4⟩ := fit_many hck hfit
  have hxl : ∀ i, i < items.length → inX k pick i < ins.length := fun i hi => inX_lt (v := .mk a b c d bits pb items pi pick) hck hf2 hi
  have hwd : WOk [a, b, c, d] := ⟨rfl, fun x hx => by simp at hx; rcases hx with rfl | rfl | rfl | rfl <;> assumption⟩
  have hfx := P_word_Fixed hwd
  have hlen32 : (beD [a, b, c, d] 32).reverse.length = 32 := by rw [List.length_reverse, beD_len]
  have hpt := P_turned (s := beD [a, b, c, d] 32) (by rw [beD_len]; decide)
  have hle : ∀ m, leW [a, b, c, d] m = ((beD [a, b, c, d] 32).reverse.take m).drop 0 := fun m => by rw [List.drop_zero]; rfl
  have hrow : ¬ k = 1 → ¬ k = 2 → ¬ k = 5 → ¬ k = 6 → ¬ k = 8 → PureR Tryz.prog 72 [Ty.val (.mk k n p ins), plV items.length pi].toArray (strV (putV (.mk a b c d bits pb items pi pick) (.mk k n p ins))) R := fun h1 h2 h5 h6 h8 => by
    have hx0 : ∀ i, i < items.length → inX k 0 i < ins.length := fun i hi => by have := hxl i hi; unfold inX at this ⊢; rw [if_neg h8] at this ⊢; exact this
    have hwl : wL items ≤ wV (.mk a b c d bits pb items pi pick) := by rw [wV]; omega
    have := S_srow (B := 800000) ht0 hs (by omega) hx0 (fun i x hxi => by
      have hm := List.mem_of_getElem? hxi
      have hlt3 := (List.getElem?_eq_some_iff.1 hxi).1
      have hty := (inTy_get (hx0 i hlt3)).2
      have hg := fitL_get hf3 hxi
      rw [Nat.zero_add, inTy_n8 h8] at hg
      exact ih x hm _ (dp + 1) (hit _ hty) (hci _ hty) hg (Nat.le_trans (wV_sub hm) hw)) (by have := restB_le items k 0 ins items 0; omega) (by decide)
    rw [putV_mk, if_neg h1, if_neg h2, if_neg h5, if_neg h6, if_neg h8, putL_n8 h8, tysN_put]; exact this
  refine pureR_of_HC Tryz.func37 rfl rfl fun w => ?_; refine HC_seq fun K1 hK1 => HC_region ?_; refine HL_box (cs := #[_, _, _]) rfl rfl rfl rfl fun r1 => ?_; refine HL_box (cs := #[_, _, _, _, _, _, _]) rfl rfl rfl rfl fun r2 => ?_; refine HLm rfl ?_; refine HL_nil (hK1 _ _ _ _ ?_); refine HC_seq fun K2 hK2 => HC_region ?_
  refine HL_r rfl rfl rfl rfl (R_fieldAddr rfl rfl (by first | (simp only [Nat.zero_add, Nat.reduceAdd, Nat.reduceMul, Nat.zero_mul, Nat.mul_one, Nat.add_zero]; exact rfl) | exact rfl)) ?_; refine HL_r rfl rfl rfl rfl (R_load rfl (known_L (k := 0) rfl) rfl rfl) ?_; refine HL_r rfl rfl rfl rfl (R_lenPl rfl hsb rfl) ?_; refine HL_alloc (cs := #[_]) rfl rfl rfl rfl fun r3 => ?_
  refine HL_store (k := 0) rfl rfl rfl rfl rfl rfl rfl rfl (by first | (simp only [List.setIfInBounds_toArray, List.set_cons_zero, List.set_cons_succ]; exact rfl) | exact rfl) (by first | (simp only [List.set_cons_zero, List.set_cons_succ]; exact rfl) | exact rfl) ?_; refine HL_nil (hK2 _ _ _ _ ?_); refine HC_seq fun K3 hK3 => ?_; refine HC_seq fun K4 hK4 => HC_region ?_
  refine HL_r rfl rfl rfl rfl (R_fieldAddr rfl rfl (by first | (simp only [Nat.zero_add, Nat.reduceAdd, Nat.reduceMul, Nat.zero_mul, Nat.mul_one, Nat.add_zero]; exact rfl) | exact rfl)) ?_; refine HL_r rfl rfl rfl rfl (R_load rfl (known_L (k := 2) rfl) rfl rfl) ?_; refine HL_nil (hK4 _ _ _ _ ?_); refine HC_block (HC_seq fun K5 hK5 => HC_region ?_); refine HLp rfl (HLm rfl ?_); refine HL_nil (hK5 _ _ _ _ ?_); refine HC_cond rfl (fun h6 => ?_) (fun h6 => ?_)
  · try exact Bool.noConfusion h6
    try simp only [ZZ] at h6
    refine HC_seq fun K7 hK7 => ?_
    have hn1 := m3 (by assumption)
    refine HC_draw 8 (by kernel_rfl) (by kernel_rfl) ?_
    refine HD_r rfl rfl rfl (R_fieldAddr rfl rfl (by first | (simp only [Nat.zero_add, Nat.reduceAdd, Nat.reduceMul, Nat.zero_mul, Nat.mul_one, Nat.add_zero]; exact rfl) | exact rfl)) ?_; refine HD_r rfl rfl rfl (R_loadA (vs := [_, _, _, _]) rfl (known_L (k := 1) rfl) rfl rfl rfl rfl) ?_; refine HD_callP rfl rfl rfl (enters_of Tryz.func68 (by kernel_rfl) rfl) hfx ?_; refine HD_callP rfl rfl rfl (enters_of Tryz.func67 (by kernel_rfl) rfl) hpt ?_
    refine HD_r rfl rfl rfl (R_fieldAddr rfl rfl (by first | (simp only [Nat.zero_add, Nat.reduceAdd, Nat.reduceMul, Nat.zero_mul, Nat.mul_one, Nat.add_zero]; exact rfl) | exact rfl)) ?_; refine HD_r rfl rfl rfl (R_load rfl (known_L (k := 2) rfl) rfl rfl) ?_; refine HD_r rfl rfl rfl (R_sliceBs (kl := none) (kh := some (.i64, n)) (m := 0) (n := n.toNat) rfl rfl rfl rfl rfl (by show n = ((n.toNat : Nat) : Int); omega) (Nat.zero_le _) (by rw [hlen32]; omega) rfl) ?_; rw [← hle]; refine HD_r rfl rfl rfl (R_assign rfl) ?_; refine HD_end ?_; refine HL_nil (hK7 _ _ _ _ ?_); refine HC_ret (HQ_blockR (HQ_thenR ?_)); refine HQ_post rfl rfl (.cons (res_tmp rfl) .nil) (fun w1 hs1 => ?_); refine ⟨?_, hs1.keep⟩; rw [putV_mk, if_pos (by assumption)]; rfl
  · try exact Bool.noConfusion h6
    try simp only [ZZ] at h6
    refine HC_seq fun K8 hK8 => HC_region ?_; refine HLp rfl (HLm rfl ?_); refine HL_nil (hK8 _ _ _ _ ?_); refine HC_cond rfl (fun h9 => ?_) (fun h9 => ?_)
    · try exact Bool.noConfusion h9
      try simp only [ZZ] at h9
      refine HC_seq fun K10 hK10 => HC_region ?_
      refine HL_r rfl rfl rfl rfl (R_fieldAddr rfl rfl (by first | (simp only [Nat.zero_add, Nat.reduceAdd, Nat.reduceMul, Nat.zero_mul, Nat.mul_one, Nat.add_zero]; exact rfl) | exact rfl)) ?_; refine HL_r rfl rfl rfl rfl (R_loadA (vs := [_, _, _, _]) rfl (known_L (k := 1) rfl) rfl rfl rfl rfl) ?_; refine HL_callP rfl rfl rfl (enters_of Tryz.func68 (by kernel_rfl) rfl) hfx ?_; refine HL_callP rfl rfl rfl (enters_of Tryz.func67 (by kernel_rfl) rfl) hpt ?_; refine HL_r rfl rfl rfl rfl (R_sliceBs (kl := none) (kh := some (.i64, 1)) (m := 0) (n := 1) rfl rfl rfl rfl rfl (by show (1 : Int) = ((1 : Nat) : Int); omega) (Nat.zero_le _) (by rw [hlen32]; omega) rfl) ?_; rw [← hle]; refine HLm rfl ?_; refine HL_nil (hK10 _ _ _ _ ?_); refine HC_ret (HQ_blockR (HQ_thenR ?_)); refine HQ_post rfl rfl (.cons (res_tmp rfl) .nil) (fun w1 hs1 => ?_); refine ⟨?_, hs1.keep⟩; rw [putV_mk, if_neg (by assumption), if_pos (by assumption)]; rfl
    · try exact Bool.noConfusion h9
      try simp only [ZZ] at h9
      refine HC_seq fun K11 hK11 => HC_region ?_; refine HLp rfl (HLm rfl ?_); refine HL_nil (hK11 _ _ _ _ ?_); refine HC_cond rfl (fun h12 => ?_) (fun h12 => ?_)
      · try exact Bool.noConfusion h12
        try simp only [ZZ] at h12
        refine HC_seq fun K13 hK13 => HC_region ?_; refine HL_r rfl rfl rfl rfl (R_load rfl (known_L (k := 0) rfl) rfl rfl) ?_; refine HL_r rfl rfl rfl rfl (R_makeFunc rfl rfl) ?_; refine HL_callR (Rl := vBlk r2 (.mk a b c d bits pb items pi pick) :: R) rfl rfl rfl (enters_of Tryz.func69 (by kernel_rfl) rfl) (S_pack (caps := [pt0 r2]) (by omega) (enters_of Tryz.func70 (by kernel_rfl) rfl) (fun i hi => S_b1 hsb (by omega) r2 hi)) (fun q hq => (List.mem_cons.1 hq).elim (fun h => .inl (by rw [h]; exact List.mem_cons_of_mem _ List.mem_cons_self)) .inr) ?_; refine HLm rfl ?_; refine HL_nil (hK13 _ _ _ _ ?_); refine HC_ret (HQ_blockR (HQ_thenR ?_)); refine HQ_post rfl rfl (.cons (res_tmp rfl) .nil) (fun w1 hs1 => ?_); refine ⟨?_, hs1.keep⟩; rw [putV_mk, if_neg (by assumption), if_neg (by assumption), if_pos (by assumption)]; rfl
      · try exact Bool.noConfusion h12
        try simp only [ZZ] at h12
        refine HC_seq fun K14 hK14 => HC_region ?_; refine HLp rfl (HLm rfl ?_); refine HL_nil (hK14 _ _ _ _ ?_); refine HC_cond rfl (fun h15 => ?_) (fun h15 => ?_)
        · try exact Bool.noConfusion h15
          try simp only [ZZ] at h15
          refine HC_seq fun K16 hK16 => HC_region ?_; refine HL_r rfl rfl rfl rfl (R_load rfl (known_L (k := 0) rfl) rfl rfl) ?_; refine HLp rfl ?_; refine HL_as (show _ = Value.int .i64 (((bits ++ [true]).length : Nat) : Int) from by rw [wrap_i64 (by omega) (by omega)]; congr 1; rw [List.length_append]; rfl) ?_; refine HL_r rfl rfl rfl rfl (R_makeFunc rfl rfl) ?_
          refine HL_callR (Rl := iBlk r3 bits.length :: vBlk r2 (.mk a b c d bits pb items pi pick) :: R) rfl rfl rfl (enters_of Tryz.func69 (by kernel_rfl) rfl) (S_pack (caps := [pt0 r3, pt0 r2]) (by rw [List.length_append]; simp; omega) (enters_of Tryz.func71 (by kernel_rfl) rfl) (fun i hi => S_b2 hsb (by omega) r3 r2 hi)) (fun q hq => by rcases List.mem_cons.1 hq with rfl | hq; exact .inl List.mem_cons_self; rcases List.mem_cons.1 hq with rfl | hq; exact .inl (List.mem_cons_of_mem _ List.mem_cons_self); exact .inr hq) ?_; refine HLm rfl ?_; refine HL_nil (hK16 _ _ _ _ ?_); refine HC_ret (HQ_blockR (HQ_thenR ?_)); refine HQ_post rfl rfl (.cons (res_tmp rfl) .nil) (fun w1 hs1 => ?_); refine ⟨?_, hs1.keep⟩; rw [putV_mk, if_neg (by assumption), if_neg (by assumption), if_neg (by assumption), if_pos (by assumption)]; rfl
        · try exact Bool.noConfusion h15
          try simp only [ZZ] at h15
          refine HC_seq fun K17 hK17 => HC_region ?_; refine HLp rfl (HLm rfl ?_); refine HL_nil (hK17 _ _ _ _ ?_); refine HC_cond rfl (fun h18 => ?_) (fun h18 => ?_)
          · try exact Bool.noConfusion h18
            try simp only [ZZ] at h18
            refine HC_seq fun K19 hK19 => ?_
            have hk0 : k = 8 := by assumption
            have h81 := (m4 hk0).1
            have hx8 := itm_get (l := items) (i := 0) (by omega)
            have hty8 := inTy_get (hxl 0 (by omega))
            have hix8 : inX k pick 0 = pick.toNat := by unfold inX; rw [if_neg (by omega), if_pos hk0]
            rw [hix8] at hty8
            have hg8 := fitL_get hf3 hx8.1
            have hw8 := Nat.le_trans (wV_sub (a := a) (b := b) (c := c) (d := d) (bits := bits) (pb := pb) (pi := pi) (pick := pick) hx8.2) hw
            have hrec := ih _ hx8.2 (inTy k pick ins 0) (dp + 1) (hit _ hty8.2) (hci _ hty8.2) hg8 hw8
            have hpl8 := putV_len (itm items 0) (inTy k pick ins 0)
            refine HC_drawB [] [(0, .pure), (2, .pure), (3, .grow (geNew (slV 1) (.cells #[bV (UInt8.ofNat pick.toNat)] 5 (0, 0)))), (5, .pure), (7, .pure), (9, .pure), (11, .pure), (13, .pure), (16, .pure), (17, .pure)] 18 [0, 1, 2, 5, 6, 7, 8, 9, 10, 11, 12, 13, 14, 15, 3, 4, 16, 17] (by kernel_rfl) (by kernel_rfl) (by first | exact (fun _ h => nomatch h) | simp [SubS] | (intro p hp; simp [hp])) ?_
            refine HB_p (k := 0) rfl rfl rfl rfl rfl (fun _ hS => (R_fieldAddr rfl rfl (by first | (simp only [Nat.zero_add, Nat.reduceAdd, Nat.reduceMul, Nat.zero_mul, Nat.mul_one, Nat.add_zero]; exact rfl) | exact rfl))) ?_; refine HB_r (k := 1) rfl rfl rfl rfl rfl (R_load rfl (known_L (k := 1) rfl) rfl rfl) ?_; refine HB_p (k := 2) rfl rfl rfl rfl rfl (fun _ hS => (R_pure rfl rfl rfl)) ?_; refine HB_as (show _ = bV (UInt8.ofNat pick.toNat) from pick_byte (m4 (by assumption)).2.1 (by have := m4 (by assumption); omega)) ?_
            refine HB_p (k := 5) rfl rfl rfl rfl rfl (fun _ hS => (R_fieldAddr rfl rfl (by first | (simp only [Nat.zero_add, Nat.reduceAdd, Nat.reduceMul, Nat.zero_mul, Nat.mul_one, Nat.add_zero]; exact rfl) | exact rfl))) ?_; refine HB_r (k := 6) rfl rfl rfl rfl rfl (R_load rfl (known_L (k := 2) rfl) rfl rfl) ?_
            refine HB_p (k := 7) rfl rfl rfl rfl rfl (fun _ hS => (R_fieldAddr rfl rfl (by first | (simp only [Nat.zero_add, Nat.reduceAdd, Nat.reduceMul, Nat.zero_mul, Nat.mul_one, Nat.add_zero]; exact rfl) | exact rfl))) ?_; refine HB_r (k := 8) rfl rfl rfl rfl rfl (R_load rfl (known_L (k := 1) rfl) rfl rfl) ?_; refine HB_p (k := 9) rfl rfl rfl rfl rfl (fun _ hS => (R_indexPl (j := pick.toNat) rfl hst rfl rfl rfl (by have := m4 (by assumption); omega) (by have := m4 (by assumption); omega))) ?_; refine HB_r (k := 10) rfl rfl rfl rfl rfl (R_loadTy (fun q hq => Or.inr hq) rfl hst hty8.1 rfl rfl) ?_
            refine HB_p (k := 11) rfl rfl rfl rfl rfl (fun _ hS => (R_fieldAddr rfl rfl (by first | (simp only [Nat.zero_add, Nat.reduceAdd, Nat.reduceMul, Nat.zero_mul, Nat.mul_one, Nat.add_zero]; exact rfl) | exact rfl))) ?_; refine HB_r (k := 12) rfl rfl rfl rfl rfl (R_load rfl (known_L (k := 1) rfl) rfl rfl) ?_
            refine HB_p (k := 13) rfl rfl rfl rfl rfl (fun _ hS => (R_indexPl (j := 0) rfl hs rfl rfl rfl (by first | rfl | omega) (by omega))) ?_; refine HB_r (k := 14) rfl rfl rfl rfl rfl (R_loadVl (fun q hq => Or.inr hq) rfl hs hx8.1 rfl rfl) ?_; refine HB_callR (k := 15) rfl rfl rfl rfl rfl (enters_of Tryz.func37 (by kernel_rfl) rfl) hrec (fun q hq => Or.inr hq) ?_; refine HB_buildSlice (k := 3) (n := 1) (sz := 1) (vs := [_]) (zs := [_]) (r := [bV (UInt8.ofNat pick.toNat)]) rfl rfl rfl rfl rfl rfl rfl rfl rfl rfl rfl (by show (madeCells #[_] _).toList = _; rw [made_one]; exact rfl) rfl fun rv => ?_; refine HB_r (k := 4) rfl rfl rfl rfl rfl (R_bytesStr (b := [UInt8.ofNat pick.toNat]) (row := some (rv, 1, [])) (e := 5) rfl ⟨rfl, rfl⟩ (fun p hp => .inl (by rw [List.mem_singleton.1 hp]; exact List.mem_cons_self)) rfl rfl rfl) ?_; refine HB_p (k := 16) rfl rfl rfl rfl rfl (fun _ hS => (R_concat (a := [UInt8.ofNat pick.toNat]) (b := putV (itm items 0) (inTy k pick ins 0)) rfl rfl (by simp only [List.length_cons, List.length_nil]; omega))) ?_; refine HB_p (k := 17) rfl rfl rfl rfl rfl (fun _ hS => (R_assign rfl)) ?_; refine HB_end ?_; refine HL_nil (hK19 _ _ _ _ ?_); refine HC_ret (HQ_blockR (HQ_thenR ?_)); refine HQ_post rfl rfl (.cons (res_tmp rfl) .nil) (fun w1 hs1 => ?_); refine ⟨?_, hs1.keep⟩; rw [putV_mk, if_neg (by assumption), if_neg (by assumption), if_neg (by assumption), if_neg (by assumption), if_pos (by assumption), put_one h81]; rfl
          · try exact Bool.noConfusion h18
            try simp only [ZZ] at h18
            refine HC_skip (HQ_blockN (hK3 _ _ _ _ ?_)); refine HC_seq fun K20 hK20 => HC_region ?_; refine HL_r rfl rfl rfl rfl (R_loadA (vs := [_, _, _]) rfl (known_L (k := 2) rfl) rfl rfl rfl rfl) ?_
            refine HL_r rfl rfl rfl rfl (R_fieldAddr rfl rfl (by first | (simp only [Nat.zero_add, Nat.reduceAdd, Nat.reduceMul, Nat.zero_mul, Nat.mul_one, Nat.add_zero]; exact rfl) | exact rfl)) ?_; refine HL_r rfl rfl rfl rfl (R_load rfl (known_L (k := 1) rfl) rfl rfl) ?_; refine HL_callR rfl rfl rfl (enters_of Tryz.func72 (by kernel_rfl) rfl) (hrow (by assumption) (by assumption) (by assumption) (by assumption) (by assumption)) (fun q hq => Or.inr hq) ?_; refine HLm rfl ?_; refine HL_nil (hK20 _ _ _ _ ?_); refine HC_ret ?_; refine HQ_post rfl rfl (.cons (res_tmp rfl) .nil) (fun w1 hs1 => ?_); refine ⟨?_, hs1.keep⟩
            rfl
end Go.Proofs.YtlcbfphioeppaaaGreatDoor
namespace Go.Proofs.YtlcbfphioeppaaaGreatDoor
set_option linter.all false
open Go.SL Go.RowKit Go.Shelf
section
variable {c : Cx} {l : List (Nat × Value)} {L : List (Nat × Obj)} {X : XP} {Q : Exit → Act → World → Prop} {d : List Deferred}
variable {ops : Array Oper} {rest : List Oper} {i : Nat} {v : Value} {t : TypeId} {ps : String} {af : Array Edge} {gd : Option (Nat × Bool)} {ty : TypeId}
/-- 'append(l, s...)' of a known part. -/
theorem HL_appendPl {x y : Operand} {e sz b n m : Nat} {z : Value} {p : Pl} {news xs : List Value} {R L0 : List (Nat × Obj)} {row : Row}
    (hp : L.Perm (rowL e xs row ++ L0)) (hg : goes l ops ⟨some i, .call ⟨.builtin .append, #[x, y], #[t, t]⟩, ty, ps, af, gd⟩ = some true) (hi : Nat.ble (i + 1) c.n = true) (hx : evl l x = some (rowV n row)) (hy : evl l y = some (plV m p)) (hs : Seg R m news p) (hR : ∀ q ∈ R, known c L0 q.1 q.2)
    (ht : sliceOf c.P t = some e) (hz : zeroOf c.P e = some z) (hsz : szOf c.P e = some sz) (hb : byOf c.P e = some b) (hzs : z.cells.size = sz) (h0 : 0 < sz) (hcs : news.length = m * sz) (hone : news.all oneB = true) (ho : rowOk sz n xs row) (h63 : n + m ≤ 9223372036854775807) (h47 : (n + m) * b ≤ 140737488355328)
    (h : ∀ row', rowOk sz (n + m) (xs ++ news) row' → HL c d ((i, rowV (n + m) row') :: l) (rowL e (xs ++ news) row' ++ L0) X ops rest Q) : HL c d l L X ops (⟨some i, .call ⟨.builtin .append, #[x, y], #[t, t]⟩, ty, ps, af, gd⟩ :: rest) Q := by
  by_cases hm : m = 0
  · subst hm
    have hn0 : news = [] := List.length_eq_zero_iff.1 (by rw [hcs, Nat.zero_mul])
    subst hn0
    have h2 := h row (by rw [List.append_nil, Nat.add_zero]; exact ho)
    rw [List.append_nil, Nat.add_zero] at h2; refine HL_perm hp ?_
    cases row with
    | none => exact HL_append0 hg hi (show _ = some (Value.slice none n 0) from by rw [hx, ho.1]; rfl) hy ht hsz (by rw [ho.1]; exact Nat.le_refl _) (by rw [ho.1] at h2 ⊢; exact h2)
    | some q =>
      obtain ⟨r, cap, sp⟩ := q
      refine HL_append0 hg hi hx hy ht hsz ?_ h2
      have h3 := ho.2
      exact Nat.le_of_mul_le_mul_right (by omega : n * sz ≤ cap * sz) h0
  · cases p with
    | none => exact absurd hs hm
    | some q =>
      obtain ⟨⟨r2, o2, s2⟩, cap⟩ := q
      obtain ⟨hs1, hs2⟩ := hs
      obtain ⟨h3, all, e', fr, h4, h5⟩ := hs2 (by omega)
      have h3 : s2 = none := h3
      subst h3; rw [hcs] at h5; refine HL_appendRow hp hg hi hx hy (hR _ h4) ht hz hsz hb hzs h0 h5 hcs hone (by omega) ho h63 h47 fun r' cap' spare hok => ?_; exact h (some (r', cap', spare)) hok
end
/-! ### Put; the reference's bytes -/
theorem fits_split {t : Ty} {v : Vl} (h : fitsT t v = 0) : chk t 0 = 0 ∧ fitT v t = 0 := by
  unfold fitsT at h
  split at h
  · rename_i h1; exact ⟨h1, h⟩
  · rename_i h1; exact absurd h h1
theorem putV_le {v : Vl} (t : Ty) (h : wV v ≤ 20000) : (putV v t).length ≤ 800000 := by have := putV_len v t; omega
set_option maxRecDepth 10000 in
theorem S_sPut {R : List (Nat × Obj)} {t : Ty} {v : Vl} (ht : t.In R) (hv : v.In R) (hw : wV v ≤ 20000) : PureR Tryz.prog 17 [t.val, v.val].toArray (resS (putR t v)) R := by
  have h1 := S_Fits ht hv
  have h2 := fun h => S_bytes hv t 0 ht (fits_split (t := t) (v := v) h).1 (fits_split h).2 hw
  have hlb := putV_le t hw
  unfold putR
  generalize fitsT t v = e at h1 h2 ⊢
  generalize putV v t = s at h2 hlb ⊢
  obtain ⟨k, n, p, ins⟩ := t
  obtain ⟨a, b, c, d, bits, pb, items, pi, pick⟩ := v
  refine pureR_of_HC Tryz.func17 rfl rfl fun w => ?_; refine HC_seq fun K1 hK1 => HC_region ?_; refine HL_box (cs := #[_, _, _]) rfl rfl rfl rfl fun r1 => ?_; refine HL_box (cs := #[_, _, _, _, _, _, _]) rfl rfl rfl rfl fun r2 => ?_; refine HLm rfl (HLm rfl ?_); refine HL_nil (hK1 _ _ _ _ ?_); refine HC_seq fun K2 hK2 => ?_; refine HC_seq fun K3 hK3 => HC_region ?_; refine HL_r rfl rfl rfl rfl (R_loadA (vs := [_, _, _]) rfl (known_L (k := 1) rfl) rfl rfl rfl rfl) ?_; refine HL_r rfl rfl rfl rfl (R_loadA (vs := [_, _, _, _, _, _, _]) rfl (known_L (k := 0) rfl) rfl rfl rfl rfl) ?_; refine HL_callR rfl rfl rfl (enters_of Tryz.func22 (by kernel_rfl) rfl) h1 (fun q hq => Or.inr hq) ?_; refine HLm rfl ?_; refine HL_nil (hK3 _ _ _ _ ?_); refine HC_seq fun K4 hK4 => HC_region ?_; refine HLm rfl (HLp rfl ?_); refine HL_nil (hK4 _ _ _ _ ?_); refine HC_cond rfl (fun h5 => ?_) (fun h5 => ?_)
  · try exact Bool.noConfusion h5
    try simp only [ZZ] at h5
    refine HC_seq fun K6 hK6 => HC_region ?_; refine HLm rfl (HLm rfl (HLm rfl ?_)); refine HL_nil (hK6 _ _ _ _ ?_); refine HC_ret (HQ_thenR ?_); refine HQ_post rfl rfl (.cons (res_tmp rfl) (.cons (res_tmp rfl) .nil)) (fun w1 hs1 => ?_); refine ⟨?_, hs1.keep⟩; rw [if_pos (by omega)]; rfl
  · try exact Bool.noConfusion h5
    try simp only [ZZ] at h5
    refine HC_skip (hK2 _ _ _ _ ?_); refine HC_seq fun K7 hK7 => HC_region ?_; refine HL_r rfl rfl rfl rfl (R_loadA (vs := [_, _, _]) rfl (known_L (k := 1) rfl) rfl rfl rfl rfl) ?_; refine HL_r rfl rfl rfl rfl (R_loadA (vs := [_, _, _, _, _, _, _]) rfl (known_L (k := 0) rfl) rfl rfl rfl rfl) ?_; refine HL_callR rfl rfl rfl (enters_of Tryz.func37 (by kernel_rfl) rfl) (h2 (by omega)) (fun q hq => Or.inr hq) ?_; refine HLm rfl ?_; refine HL_nil (hK7 _ _ _ _ ?_); refine HC_seq fun K8 hK8 => ?_; refine HC_seq fun K9 hK9 => HC_region ?_; refine HLm rfl (HL_r rfl rfl rfl rfl (R_lenBs rfl rfl) (HLp rfl ?_)); refine HL_nil (hK9 _ _ _ _ ?_); refine HC_cond rfl (fun h10 => ?_) (fun h10 => ?_)
    · try exact Bool.noConfusion h10
      try simp only [ZZ] at h10
      refine HC_seq fun K11 hK11 => HC_region ?_; refine HLm rfl (HLm rfl ?_); refine HL_nil (hK11 _ _ _ _ ?_); refine HC_ret (HQ_thenR ?_); refine HQ_post rfl rfl (.cons (res_tmp rfl) (.cons (res_tmp rfl) .nil)) (fun w1 hs1 => ?_); refine ⟨?_, hs1.keep⟩; rw [if_neg (by omega), if_pos (by omega)]; rfl
    · try exact Bool.noConfusion h10
      try simp only [ZZ] at h10
      refine HC_skip (hK8 _ _ _ _ ?_); refine HC_seq fun K12 hK12 => HC_region ?_; refine HLm rfl (HLm rfl (HLm rfl ?_)); refine HL_nil (hK12 _ _ _ _ ?_); refine HC_ret ?_; refine HQ_post rfl rfl (.cons (res_tmp rfl) (.cons (res_tmp rfl) .nil)) (fun w1 hs1 => ?_); refine ⟨?_, hs1.keep⟩; rw [if_neg (by omega), if_neg (by omega)]; rfl
set_option maxRecDepth 10000 in
theorem P_offset {n : Nat} (hn : n ≤ 4611686018427387904) : Pure Tryz.prog 79 [.int .i64 (n : Int)].toArray (strV (leR n 4).1) := by
  have h := P_ref_Le (n := n) (by omega) 4
  generalize leR n 4 = q at h ⊢
  refine pure_of_HC Tryz.func79 rfl rfl fun w => ?_; refine HC_seq fun K1 hK1 => HC_region ?_; refine HLm rfl ?_; refine HL_nil (hK1 _ _ _ _ ?_); refine HC_seq fun K2 hK2 => HC_region ?_; refine HLm rfl (HLp rfl (HL_as (show _ = uV n from congrArg (Value.int .u64) (wrap_u64 (by omega) (by omega))) ?_)); refine HL_callP rfl rfl rfl (enters_of Tryz.func129 (by kernel_rfl) rfl) h ?_; refine HLm rfl (HL_r rfl rfl rfl rfl (R_extract rfl rfl) (HL_r rfl rfl rfl rfl (R_extract rfl rfl) ?_)); refine HLm rfl (HLm rfl ?_); refine HL_nil (hK2 _ _ _ _ ?_); refine HC_seq fun K3 hK3 => HC_region ?_; refine HLm rfl (HLm rfl ?_); refine HL_nil (hK3 _ _ _ _ ?_); refine HC_ret ?_; refine HQ_post rfl rfl (.cons (res_tmp rfl) .nil) (fun w1 hs1 => ?_); exact ⟨rfl, hs1.keep⟩
set_option maxRecDepth 10000 in
theorem S_rbegin {R : List (Nat × Obj)} {k n : Int} {p : Pl} {ins : List Ty} {v : Vl} {m : Nat} (ht : Ty.In R (.mk k n p ins)) (hv : v.In R) (h8 : k ≠ 8) (hm : m ≤ 600) (hx : ∀ i, i < m → inX k 0 i < ins.length) : PureR Tryz.prog 76 [Ty.val (.mk k n p ins), v.val, .int .i64 (m : Int)].toArray (.int .i64 (begL (tysN k ins m))) R := by
  have hti := fun i h => ht.sub _ (inTy_get (hx i h)).2
  have hin := fun i (h : i < m) => S_ref_In (v := v) (i := i) (y := inTy k 0 ins i) ht hv (fun e => absurd e h8) (by have := (inTy_get (hx i h)).1; unfold inX at this ⊢; rw [if_neg h8] at this ⊢; exact this)
  obtain ⟨a, b, c, d, bits, pb, items, pi, pick⟩ := v
  refine pureR_of_HC Tryz.func76 rfl rfl fun w => ?_; refine HC_seq fun K1 hK1 => HC_region ?_; refine HL_box (cs := #[_, _, _]) rfl rfl rfl rfl fun r1 => ?_; refine HL_box (cs := #[_, _, _, _, _, _, _]) rfl rfl rfl rfl fun r2 => ?_; refine HLm rfl ?_; refine HL_nil (hK1 _ _ _ _ ?_); refine HC_seq fun K2 hK2 => HC_region ?_; refine HLm rfl ?_; refine HL_nil (hK2 _ _ _ _ ?_); refine HC_seq fun K3 hK3 => ?_; refine HC_seq fun K4 hK4 => HC_region ?_; refine HLm rfl ?_; refine HL_nil (hK4 _ _ _ _ ?_); refine HC_block (HC_loop (σ := Nat) (fun i => i ≤ m) (fun i => [(2, .int .i64 (m : Int)), (3, pt0 r1), (4, pt0 r2), (7, .int .i64 (begL (tysN k ins i))), (8, .int .i64 (i : Int))]) (fun _ => [vBlk r2 (.mk a b c d bits pb items pi pick), tBlk r1 (.mk k n p ins)]) (fun _ _ _ => True) (fun i => m - i) 0 (Nat.zero_le _) (.cons rfl (.cons rfl (.cons rfl (.cons rfl (.cons rfl .nil))))) (List.Sublist.refl _) (fun _ _ h => h) ?_); intro i hi1; change HC _ _ _ ((r2, _) :: (r1, _) :: []) _ _ _; refine HC_seq fun K5 hK5 => ?_; refine HC_seq fun K6 hK6 => HC_region ?_; refine HLm rfl (HLm rfl (HLp rfl ?_)); refine HL_nil (hK6 _ _ _ _ ?_); refine HC_cond rfl (fun h7 => ?_) (fun h7 => ?_)
  · try exact Bool.noConfusion h7
    try simp only [ZZ] at h7
    refine HC_skip (hK5 _ _ _ _ ?_); refine HC_seq fun K8 hK8 => HC_block ?_; refine HC_seq fun K9 hK9 => ?_
    have hil : i < m := by omega
    have hb1 := begT_le (inTy k 0 ins i)
    have hb2 := begL_le (tysN k ins i)
    rw [tysN_len] at hb2; refine HC_region (HL_r rfl rfl rfl rfl (R_loadA (vs := [_, _, _]) rfl (known_L (k := 1) rfl) rfl rfl rfl rfl) (HL_r rfl rfl rfl rfl (R_loadA (vs := [_, _, _, _, _, _, _]) rfl (known_L (k := 0) rfl) rfl rfl rfl rfl) ?_)); refine HLm rfl (HL_callR rfl rfl rfl (enters_of Tryz.func77 (by kernel_rfl) rfl) (hin i hil) (fun q hq => Or.inr hq) (HL_alloc (cs := #[.int .i64 0, .int .i64 0, .slice none 0 0]) rfl rfl rfl rfl fun r9 => ?_)); refine HL_storeArr (k := 0) (n := 3) (ys := (inTy k 0 ins i).cells) rfl rfl rfl rfl rfl (inTy k 0 ins i).len rfl (inTy k 0 ins i).one rfl ?_; refine HL_nil (hK9 _ _ _ _ ?_); refine HC_seq fun K10 hK10 => HC_region ?_; refine HL_r rfl rfl rfl rfl (R_loadArr (xs := (inTy k 0 ins i).cells) (n := 3) rfl (known_L (k := 0) rfl) rfl rfl (inTy k 0 ins i).len) ?_; refine HL_callR rfl rfl rfl (enters_of Tryz.func78 (by kernel_rfl) rfl) (S_ref_Fixed (hti i hil)) (fun q hq => Or.inr hq) ?_; refine HL_nil (hK10 _ _ _ _ ?_); refine HC_cond rfl (fun h11 => ?_) (fun h11 => ?_)
    · try exact Bool.noConfusion h11
      try simp only [ZZ] at h11
      refine HC_region (HLm rfl (HL_r rfl rfl rfl rfl (R_loadArr (xs := (inTy k 0 ins i).cells) (n := 3) rfl (known_L (k := 0) rfl) rfl rfl (inTy k 0 ins i).len) ?_)); refine HL_callR rfl rfl rfl (enters_of Tryz.func86 (by kernel_rfl) rfl) (S_ref_Size (hti i hil)) (fun q hq => Or.inr hq) ?_; refine HLp rfl ?_; refine HL_as (show _ = Value.int .i64 (begL (tysN k ins (i + 1))) from by rw [begL_snoc, begT_eq, if_pos (by assumption)]; unfold sizeT; rw [if_pos (by assumption)]; exact congrArg (Value.int .i64) (wrap_i64 (by rw [begT_eq, if_pos (by assumption)] at hb1; omega) (by rw [begT_eq, if_pos (by assumption)] at hb1; omega))) ?_; refine HLm rfl (HL_nil ?_); refine HQ_blockN (hK8 _ _ _ _ ?_); refine HC_region (HLm rfl ?_)
      refine HLp rfl ?_; refine HL_as (show _ = Value.int .i64 ((i + 1 : Nat) : Int) from by rw [wrap_i64 (by omega) (by omega)]; congr 1 <;> omega) ?_; refine HLm rfl (HL_nil (HQ_then ?_)); exact HQ_again (i + 1) (by omega) (by omega) (.cons rfl (.cons rfl (.cons rfl (.cons rfl (.cons rfl .nil))))) (.cons _ (List.Sublist.refl _)) (fun _ _ h => h)
    · try exact Bool.noConfusion h11
      try simp only [ZZ] at h11
      refine HC_region (HLm rfl (HLp rfl ?_)); refine HL_as (show _ = Value.int .i64 (begL (tysN k ins (i + 1))) from by rw [begL_snoc, begT_eq, if_neg (by rw [Bool.not_eq_true]; assumption)]; exact congrArg (Value.int .i64) (wrap_i64 (by omega) (by omega))) ?_; refine HLm rfl (HL_nil ?_); refine HQ_blockN (hK8 _ _ _ _ ?_); refine HC_region (HLm rfl ?_)
      refine HLp rfl ?_; refine HL_as (show _ = Value.int .i64 ((i + 1 : Nat) : Int) from by rw [wrap_i64 (by omega) (by omega)]; congr 1 <;> omega) ?_; refine HLm rfl (HL_nil (HQ_then ?_)); exact HQ_again (i + 1) (by omega) (by omega) (.cons rfl (.cons rfl (.cons rfl (.cons rfl (.cons rfl .nil))))) (.cons _ (List.Sublist.refl _)) (fun _ _ h => h)
  · try exact Bool.noConfusion h7
    try simp only [ZZ] at h7
    refine HC_exit (HQ_thenE ?_); refine HQ_thenE (HQ_blockE (hK3 _ _ _ _ ?_)); refine HC_seq fun K12 hK12 => ?_
    obtain rfl : m = i := by omega
    refine HC_region (HLm rfl (HLm rfl ?_)); refine HL_nil (hK12 _ _ _ _ ?_); refine HC_ret ?_; refine HQ_post rfl rfl (.cons (res_tmp rfl) .nil) (fun w1 hs1 => ?_); exact ⟨rfl, hs1.keep⟩
end Go.Proofs.YtlcbfphioeppaaaGreatDoor
namespace Go.Proofs.YtlcbfphioeppaaaGreatDoor
set_option linter.all false
open Go.SL Go.RowKit Go.Shelf
/-! ### The reference's bytes of a value -/
theorem bitsC_app (a b : List Bool) : bitsC (a ++ b) = bitsC a ++ bitsC b := by unfold bitsC; rw [List.map_append]
theorem bitsC_ln (l : List Bool) : (bitsC l).length = l.length := by unfold bitsC; rw [List.length_map]
theorem bitsC_all (l : List Bool) : (bitsC l).all oneB = true := by
  rw [List.all_eq_true]; intro x hx
  obtain ⟨b, _, rfl⟩ := List.mem_map.1 hx
  rfl
set_option maxHeartbeats 1000000 in
set_option maxRecDepth 10000 in
theorem S_rBytes {R : List (Nat × Obj)} {v : Vl} (hv : v.In R) : ∀ (t : Ty) (dp : Int), t.In R → chk t dp = 0 → fitT v t = 0 → wV v ≤ 20000 → PureR Tryz.prog 39 [t.val, v.val].toArray (strV (putV v t)) R := by
  have hv0 := hv
  induction hv with
  | @mk a b c d bits pb items pi pick ha hb hc hd hlb hsb hl hs hp hi ih =>
  intro t dp ht hck hfit hw
  have ht0 := ht
  cases ht with
  | @mk k n p ins hk hn hlt hst hit =>
  obtain ⟨hk8, ho, h6, hci⟩ := chk_mk hck
  obtain ⟨hf1, hf2, hf3⟩ := fit_split hfit
  obtain ⟨m1, m2, m3, m4⟩ := fit_many hck hfit
  have hxl : ∀ i, i < items.length → inX k pick i < ins.length := fun i hi => inX_lt (v := .mk a b c d bits pb items pi pick) hck hf2 hi
  have hwd : WOk [a, b, c, d] := ⟨rfl, fun x hx => by simp at hx; rcases hx with rfl | rfl | rfl | rfl <;> assumption⟩
  have hwl : wL items ≤ 20000 := by rw [wV] at hw; omega
  have hrB := restB_le items k 0 ins items 0
  obtain ⟨TOT, hTOT⟩ : ∃ T, T = rowF (begL (tysN k ins items.length)).toNat (putL items k 0 ins 0) [] [] := ⟨_, rfl⟩
  refine pureR_of_HC Tryz.func39 rfl rfl fun w => ?_; refine HC_seq fun K1 hK1 => HC_region ?_; refine HL_box (cs := #[_, _, _]) rfl rfl rfl rfl fun r1 => ?_; refine HL_box (cs := #[_, _, _, _, _, _, _]) rfl rfl rfl rfl fun r2 => ?_; refine HLm rfl ?_; refine HL_nil (hK1 _ _ _ _ ?_); refine HC_seq fun K2 hK2 => ?_; refine HC_seq fun K3 hK3 => HC_region ?_
  refine HL_r rfl rfl rfl rfl (R_fieldAddr rfl rfl (by first | (simp only [Nat.zero_add, Nat.reduceAdd, Nat.reduceMul, Nat.zero_mul, Nat.mul_one, Nat.add_zero]; exact rfl) | exact rfl)) ?_; refine HL_r rfl rfl rfl rfl (R_load rfl (known_L (k := 1) rfl) rfl rfl) ?_; refine HL_nil (hK3 _ _ _ _ ?_); refine HC_block (HC_seq fun K4 hK4 => HC_region ?_); refine HLp rfl (HLm rfl ?_); refine HL_nil (hK4 _ _ _ _ ?_); refine HC_cond rfl (fun h5 => ?_) (fun h5 => ?_)
  · try exact Bool.noConfusion h5
    try simp only [ZZ] at h5
    refine HC_seq fun K6 hK6 => HC_region ?_
    refine HL_r rfl rfl rfl rfl (R_fieldAddr rfl rfl (by first | (simp only [Nat.zero_add, Nat.reduceAdd, Nat.reduceMul, Nat.zero_mul, Nat.mul_one, Nat.add_zero]; exact rfl) | exact rfl)) ?_; refine HL_r rfl rfl rfl rfl (R_loadA (vs := [_, _, _, _]) rfl (known_L (k := 0) rfl) rfl rfl rfl rfl) ?_
    refine HL_r rfl rfl rfl rfl (R_fieldAddr rfl rfl (by first | (simp only [Nat.zero_add, Nat.reduceAdd, Nat.reduceMul, Nat.zero_mul, Nat.mul_one, Nat.add_zero]; exact rfl) | exact rfl)) ?_; refine HL_r rfl rfl rfl rfl (R_load rfl (known_L (k := 1) rfl) rfl rfl) ?_; refine HL_callP rfl rfl rfl (enters_of Tryz.func74 (by kernel_rfl) rfl) (by rw [show n = ((n.toNat : Nat) : Int) by have := m3 (by assumption); omega]; exact P_Low hwd (n := n.toNat) (by have := m3 (by assumption); omega)) ?_; refine HLm rfl ?_; refine HL_nil (hK6 _ _ _ _ ?_); refine HC_ret (HQ_blockR (HQ_thenR ?_)); refine HQ_post rfl rfl (.cons (res_tmp rfl) .nil) (fun w1 hs1 => ?_); refine ⟨?_, hs1.keep⟩; rw [putV_mk, if_pos (by assumption)]; rfl
  · try exact Bool.noConfusion h5
    try simp only [ZZ] at h5
    refine HC_seq fun K7 hK7 => HC_region ?_; refine HLp rfl (HLm rfl ?_); refine HL_nil (hK7 _ _ _ _ ?_); refine HC_cond rfl (fun h8 => ?_) (fun h8 => ?_)
    · try exact Bool.noConfusion h8
      try simp only [ZZ] at h8
      refine HC_seq fun K9 hK9 => HC_region ?_
      refine HL_r rfl rfl rfl rfl (R_fieldAddr rfl rfl (by first | (simp only [Nat.zero_add, Nat.reduceAdd, Nat.reduceMul, Nat.zero_mul, Nat.mul_one, Nat.add_zero]; exact rfl) | exact rfl)) ?_; refine HL_r rfl rfl rfl rfl (R_loadA (vs := [_, _, _, _]) rfl (known_L (k := 0) rfl) rfl rfl rfl rfl) ?_; refine HL_callP rfl rfl rfl (enters_of Tryz.func74 (by kernel_rfl) rfl) (P_Low hwd (n := 1) (by decide)) ?_; refine HLm rfl ?_; refine HL_nil (hK9 _ _ _ _ ?_); refine HC_ret (HQ_blockR (HQ_thenR ?_)); refine HQ_post rfl rfl (.cons (res_tmp rfl) .nil) (fun w1 hs1 => ?_); refine ⟨?_, hs1.keep⟩; rw [putV_mk, if_neg (by assumption), if_pos (by assumption)]; rfl
    · try exact Bool.noConfusion h8
      try simp only [ZZ] at h8
      refine HC_seq fun K10 hK10 => HC_region ?_; refine HLp rfl (HLm rfl ?_); refine HL_nil (hK10 _ _ _ _ ?_); refine HC_cond rfl (fun h11 => ?_) (fun h11 => ?_)
      · try exact Bool.noConfusion h11
        try simp only [ZZ] at h11
        refine HC_seq fun K12 hK12 => HC_region ?_
        refine HL_r rfl rfl rfl rfl (R_fieldAddr rfl rfl (by first | (simp only [Nat.zero_add, Nat.reduceAdd, Nat.reduceMul, Nat.zero_mul, Nat.mul_one, Nat.add_zero]; exact rfl) | exact rfl)) ?_; refine HL_r rfl rfl rfl rfl (R_load rfl (known_L (k := 0) rfl) rfl rfl) ?_; refine HL_callR rfl rfl rfl (enters_of Tryz.func75 (by kernel_rfl) rfl) (S_refPack (by omega) hsb) (fun q hq => Or.inr hq) ?_; refine HLm rfl ?_; refine HL_nil (hK12 _ _ _ _ ?_); refine HC_ret (HQ_blockR (HQ_thenR ?_)); refine HQ_post rfl rfl (.cons (res_tmp rfl) .nil) (fun w1 hs1 => ?_); refine ⟨?_, hs1.keep⟩; rw [putV_mk, if_neg (by assumption), if_neg (by assumption), if_pos (by assumption)]; rfl
      · try exact Bool.noConfusion h11
        try simp only [ZZ] at h11
        refine HC_seq fun K13 hK13 => HC_region ?_; refine HLp rfl (HLm rfl ?_); refine HL_nil (hK13 _ _ _ _ ?_); refine HC_cond rfl (fun h14 => ?_) (fun h14 => ?_)
        · try exact Bool.noConfusion h14
          try simp only [ZZ] at h14
          refine HC_seq fun K15 hK15 => HC_region ?_; refine HLm rfl ?_; refine HL_nil (hK15 _ _ _ _ ?_); refine HC_seq fun K16 hK16 => HC_region ?_; refine HLm rfl ?_
          refine HL_r rfl rfl rfl rfl (R_fieldAddr rfl rfl (by first | (simp only [Nat.zero_add, Nat.reduceAdd, Nat.reduceMul, Nat.zero_mul, Nat.mul_one, Nat.add_zero]; exact rfl) | exact rfl)) ?_; refine HL_r rfl rfl rfl rfl (R_load rfl (known_L (k := 0) rfl) rfl rfl) ?_; refine HL_appendPl (e := 4) (L0 := [_, _]) (xs := []) (row := none) (n := 0) (sz := 1) (b := 1) (List.Perm.refl _) rfl rfl rfl rfl hsb (fun q hq => Or.inr hq) rfl rfl rfl rfl rfl (by decide) (by rw [bitsC_ln, Nat.mul_one]) (bitsC_all _) ⟨rfl, rfl⟩ (by omega) (by omega) fun row1 hr1 => ?_; rw [Nat.zero_add, List.nil_append] at hr1; rw [Nat.zero_add, List.nil_append]; refine HLm rfl ?_; refine HL_nil (hK16 _ _ _ _ ?_); refine HC_seq fun K17 hK17 => HC_region ?_; refine HLm rfl ?_; refine HL_buildSlice (vs := [_]) (zs := [_]) (r := [_]) rfl rfl rfl rfl rfl rfl rfl rfl rfl (by show (madeCells #[_] _).toList = _; rw [made_one]; exact rfl) rfl fun r3 => ?_; refine HL_appendRow (L0 := _ :: [_, _]) (xs := bitsC bits) (row := row1) (n := bits.length) (sz := 1) (b := 1) (news := [_]) List.perm_middle.symm rfl rfl rfl rfl (known_L (k := 0) rfl) rfl rfl rfl rfl rfl (by decide) rfl rfl rfl (by decide) hr1 (by omega) (by omega) fun ra cap sp hra => ?_; refine HL_as (show _ = plV (bits ++ [true]).length (rowP (some (ra, cap, sp))) from by rw [List.length_append]; rfl) ?_; refine HL_callR (Rl := rowL 4 (bitsC bits ++ [Value.bool true]) (some (ra, cap, sp))) rfl rfl rfl (enters_of Tryz.func75 (by kernel_rfl) rfl) (S_refPack (l := bits ++ [true]) (by rw [List.length_append]; simp; omega) (by rw [bitsC_app, List.length_append]; exact rowP_seg hra (by decide))) (fun q hq => .inl (by rw [List.mem_singleton.1 hq]; exact List.mem_cons_self)) ?_; refine HLm rfl ?_; refine HL_nil (hK17 _ _ _ _ ?_); refine HC_ret (HQ_blockR (HQ_thenR ?_)); refine HQ_post rfl rfl (.cons (res_tmp rfl) .nil) (fun w1 hs1 => ?_); refine ⟨?_, hs1.keep⟩; rw [putV_mk, if_neg (by assumption), if_neg (by assumption), if_neg (by assumption), if_pos (by assumption)]; rfl
        · try exact Bool.noConfusion h14
          try simp only [ZZ] at h14
          refine HC_seq fun K18 hK18 => HC_region ?_; refine HLp rfl (HLm rfl ?_); refine HL_nil (hK18 _ _ _ _ ?_); refine HC_cond rfl (fun h19 => ?_) (fun h19 => ?_)
          · try exact Bool.noConfusion h19
            try simp only [ZZ] at h19
            refine HC_seq fun K20 hK20 => ?_
            have hk0 : k = 8 := by assumption
            have h81 := (m4 hk0).1
            have hx8 := itm_get (l := items) (i := 0) (by omega)
            have hty8 := inTy_get (hxl 0 (by omega))
            have hix8 : inX k pick 0 = pick.toNat := by unfold inX; rw [if_neg (by omega), if_pos hk0]
            rw [hix8] at hty8
            have hg8 := fitL_get hf3 hx8.1
            have hw8 := Nat.le_trans (wV_sub (a := a) (b := b) (c := c) (d := d) (bits := bits) (pb := pb) (pi := pi) (pick := pick) hx8.2) hw
            have hrec := ih _ hx8.2 (hi _ hx8.2) (inTy k pick ins 0) (dp + 1) (hit _ hty8.2) (hci _ hty8.2) hg8 hw8
            have hpl8 := putV_len (itm items 0) (inTy k pick ins 0)
            refine HC_drawB [] [(0, .pure), (2, .pure), (3, .grow (geNew (slV 1) (.cells #[bV (UInt8.ofNat pick.toNat)] 5 (0, 0)))), (5, .pure), (7, .pure), (9, .pure), (11, .pure), (13, .pure), (16, .pure), (17, .pure)] 18 [0, 1, 2, 5, 6, 7, 8, 9, 10, 11, 12, 13, 14, 15, 3, 4, 16, 17] (by kernel_rfl) (by kernel_rfl) (by first | exact (fun _ h => nomatch h) | simp [SubS] | (intro p hp; simp [hp])) ?_
            refine HB_p (k := 0) rfl rfl rfl rfl rfl (fun _ hS => (R_fieldAddr rfl rfl (by first | (simp only [Nat.zero_add, Nat.reduceAdd, Nat.reduceMul, Nat.zero_mul, Nat.mul_one, Nat.add_zero]; exact rfl) | exact rfl))) ?_; refine HB_r (k := 1) rfl rfl rfl rfl rfl (R_load rfl (known_L (k := 0) rfl) rfl rfl) ?_; refine HB_p (k := 2) rfl rfl rfl rfl rfl (fun _ hS => (R_pure rfl rfl rfl)) ?_; refine HB_as (show _ = bV (UInt8.ofNat pick.toNat) from pick_byte (m4 (by assumption)).2.1 (by have := m4 (by assumption); omega)) ?_
            refine HB_p (k := 5) rfl rfl rfl rfl rfl (fun _ hS => (R_fieldAddr rfl rfl (by first | (simp only [Nat.zero_add, Nat.reduceAdd, Nat.reduceMul, Nat.zero_mul, Nat.mul_one, Nat.add_zero]; exact rfl) | exact rfl))) ?_; refine HB_r (k := 6) rfl rfl rfl rfl rfl (R_load rfl (known_L (k := 1) rfl) rfl rfl) ?_
            refine HB_p (k := 7) rfl rfl rfl rfl rfl (fun _ hS => (R_fieldAddr rfl rfl (by first | (simp only [Nat.zero_add, Nat.reduceAdd, Nat.reduceMul, Nat.zero_mul, Nat.mul_one, Nat.add_zero]; exact rfl) | exact rfl))) ?_; refine HB_r (k := 8) rfl rfl rfl rfl rfl (R_load rfl (known_L (k := 0) rfl) rfl rfl) ?_; refine HB_p (k := 9) rfl rfl rfl rfl rfl (fun _ hS => (R_indexPl (j := pick.toNat) rfl hst rfl rfl rfl (by have := m4 (by assumption); omega) (by have := m4 (by assumption); omega))) ?_; refine HB_r (k := 10) rfl rfl rfl rfl rfl (R_loadTy (fun q hq => Or.inr hq) rfl hst hty8.1 rfl rfl) ?_
            refine HB_p (k := 11) rfl rfl rfl rfl rfl (fun _ hS => (R_fieldAddr rfl rfl (by first | (simp only [Nat.zero_add, Nat.reduceAdd, Nat.reduceMul, Nat.zero_mul, Nat.mul_one, Nat.add_zero]; exact rfl) | exact rfl))) ?_; refine HB_r (k := 12) rfl rfl rfl rfl rfl (R_load rfl (known_L (k := 0) rfl) rfl rfl) ?_
            refine HB_p (k := 13) rfl rfl rfl rfl rfl (fun _ hS => (R_indexPl (j := 0) rfl hs rfl rfl rfl (by first | rfl | omega) (by omega))) ?_; refine HB_r (k := 14) rfl rfl rfl rfl rfl (R_loadVl (fun q hq => Or.inr hq) rfl hs hx8.1 rfl rfl) ?_; refine HB_callR (k := 15) rfl rfl rfl rfl rfl (enters_of Tryz.func39 (by kernel_rfl) rfl) hrec (fun q hq => Or.inr hq) ?_; refine HB_buildSlice (k := 3) (n := 1) (sz := 1) (vs := [_]) (zs := [_]) (r := [bV (UInt8.ofNat pick.toNat)]) rfl rfl rfl rfl rfl rfl rfl rfl rfl rfl rfl (by show (madeCells #[_] _).toList = _; rw [made_one]; exact rfl) rfl fun rv => ?_; refine HB_r (k := 4) rfl rfl rfl rfl rfl (R_bytesStr (b := [UInt8.ofNat pick.toNat]) (row := some (rv, 1, [])) (e := 5) rfl ⟨rfl, rfl⟩ (fun p hp => .inl (by rw [List.mem_singleton.1 hp]; exact List.mem_cons_self)) rfl rfl rfl) ?_; refine HB_p (k := 16) rfl rfl rfl rfl rfl (fun _ hS => (R_concat (a := [UInt8.ofNat pick.toNat]) (b := putV (itm items 0) (inTy k pick ins 0)) rfl rfl (by simp only [List.length_cons, List.length_nil]; omega))) ?_; refine HB_p (k := 17) rfl rfl rfl rfl rfl (fun _ hS => (R_assign rfl)) ?_; refine HB_end ?_; refine HL_nil (hK20 _ _ _ _ ?_); refine HC_ret (HQ_blockR (HQ_thenR ?_)); refine HQ_post rfl rfl (.cons (res_tmp rfl) .nil) (fun w1 hs1 => ?_); refine ⟨?_, hs1.keep⟩; rw [putV_mk, if_neg (by assumption), if_neg (by assumption), if_neg (by assumption), if_neg (by assumption), if_pos (by assumption), put_one h81]; rfl
          · try exact Bool.noConfusion h19
            try simp only [ZZ] at h19
            refine HC_skip (HQ_blockN (hK2 _ _ _ _ ?_)); refine HC_seq fun K21 hK21 => ?_
            have h8 : ¬ k = 8 := by assumption
            have hx0 : ∀ i, i < items.length → inX k 0 i < ins.length := fun i hi => by have := hxl i hi; unfold inX at this ⊢; rw [if_neg h8] at this ⊢; exact this
            have hput : putV (.mk a b c d bits pb items pi pick) (.mk k n p ins) = TOT := by rw [putV_mk, if_neg (by assumption), if_neg (by assumption), if_neg (by assumption), if_neg (by assumption), if_neg h8, putL_n8 h8, tysN_put]; exact hTOT.symm
            have hbg := S_rbegin (m := items.length) ht0 hv0 h8 (by omega) hx0
            have hbl := begL_le (tysN k ins items.length)
            rw [tysN_len] at hbl
            obtain ⟨H, hH⟩ : ∃ H, H = (begL (tysN k ins items.length)).toNat := ⟨_, rfl⟩
            have hHi : begL (tysN k ins items.length) = (H : Int) := by omega
            rw [hHi] at hbg; rw [← hH] at hTOT
            have hHb : H ≤ 1351079888211148800 := by omega
            refine HC_region (HLm rfl ?_); refine HL_nil (hK21 _ _ _ _ ?_); refine HC_seq fun K22 hK22 => HC_region ?_; refine HLm rfl ?_; refine HL_nil (hK22 _ _ _ _ ?_); refine HC_seq fun K23 hK23 => HC_region ?_; refine HL_r rfl rfl rfl rfl (R_loadA (vs := [_, _, _]) rfl (known_L (k := 1) rfl) rfl rfl rfl rfl) ?_; refine HL_r rfl rfl rfl rfl (R_loadA (vs := [_, _, _, _, _, _, _]) rfl (known_L (k := 0) rfl) rfl rfl rfl rfl) ?_
            refine HL_r rfl rfl rfl rfl (R_fieldAddr rfl rfl (by first | (simp only [Nat.zero_add, Nat.reduceAdd, Nat.reduceMul, Nat.zero_mul, Nat.mul_one, Nat.add_zero]; exact rfl) | exact rfl)) ?_; refine HL_r rfl rfl rfl rfl (R_load rfl (known_L (k := 0) rfl) rfl rfl) ?_; refine HL_r rfl rfl rfl rfl (R_lenPl rfl hs rfl) ?_; refine HL_callR rfl rfl rfl (enters_of Tryz.func76 (by kernel_rfl) rfl) hbg (fun q hq => Or.inr hq) ?_; refine HLm rfl ?_; refine HL_nil (hK23 _ _ _ _ ?_); refine HC_seq fun K24 hK24 => ?_; refine HC_seq fun K25 hK25 => HC_region ?_; refine HLm rfl ?_; refine HL_nil (hK25 _ _ _ _ ?_); refine HC_block ?_; refine HC_loop (σ := Nat × BS × BS) (fun q => q.1 ≤ items.length ∧ rowF H (putL (items.drop q.1) k 0 ins q.1) q.2.1 q.2.2 = TOT ∧ q.2.1.length + q.2.2.length + restB (putL (items.drop q.1) k 0 ins q.1) ≤ 800000) (fun q => [(2, pt0 r1), (3, pt0 r2), (6, strV q.2.1), (7, strV q.2.2), (8, .int .i64 (H : Int)), (9, .int .i64 (q.1 : Int))]) (fun _ => [vBlk r2 (.mk a b c d bits pb items pi pick), tBlk r1 (.mk k n p ins)]) (fun _ _ _ => True) (fun q => items.length - q.1) (0, [], []) ⟨Nat.zero_le _, hTOT.symm, by show 0 + 0 + restB (putL items k 0 ins 0) ≤ 800000; omega⟩ (.cons rfl (.cons rfl (.cons rfl (.cons rfl (.cons rfl (.cons rfl .nil)))))) (List.Sublist.refl _) (fun _ _ h => h) ?_; rintro ⟨i, f, th⟩ ⟨hi1, hinv, hlen⟩; simp only at hi1 hinv hlen; change HC _ _ [(2, _), (3, _), (6, strV f), (7, strV th), (8, _), (9, .int .i64 (i : Int))] ((r2, _) :: (r1, _) :: []) _ _ _; refine HC_seq fun K26 hK26 => ?_; refine HC_seq fun K27 hK27 => HC_region ?_; refine HLm rfl ?_
            refine HL_r rfl rfl rfl rfl (R_fieldAddr rfl rfl (by first | (simp only [Nat.zero_add, Nat.reduceAdd, Nat.reduceMul, Nat.zero_mul, Nat.mul_one, Nat.add_zero]; exact rfl) | exact rfl)) ?_; refine HL_r rfl rfl rfl rfl (R_load rfl (known_L (k := 0) rfl) rfl rfl) ?_; refine HL_r rfl rfl rfl rfl (R_lenPl rfl hs rfl) ?_; refine HLp rfl ?_; refine HL_nil (hK27 _ _ _ _ ?_); refine HC_cond rfl (fun h28 => ?_) (fun h28 => ?_)
            · try exact Bool.noConfusion h28
              try simp only [ZZ] at h28
              refine HC_skip (hK26 _ _ _ _ ?_); refine HC_seq fun K29 hK29 => HC_block ?_; refine HC_seq fun K30 hK30 => ?_
              have hii : i < items.length := by omega
              have hti1 := ht0.sub _ (inTy_get (hx0 i hii)).2
              have hix := itm_get hii
              have hin := S_ref_In (v := .mk a b c d bits pb items pi pick) (i := i) (y := inTy k 0 ins i) ht0 hv0 (fun e => absurd e h8) (by have := (inTy_get (hx0 i hii)).1; unfold inX at this ⊢; rw [if_neg h8] at this ⊢; exact this)
              have hbi : PureR Tryz.prog 39 [(inTy k 0 ins i).val, (itm items i).val].toArray (strV (putV (itm items i) (inTy k 0 ins i))) R := by
                have hty := (inTy_get (hx0 i hii)).2
                have hg := fitL_get hf3 hix.1
                rw [Nat.zero_add, inTy_n8 h8] at hg; exact ih _ hix.2 (hi _ hix.2) _ (dp + 1) (hit _ hty) (hci _ hty) hg (Nat.le_trans (wV_sub hix.2) hw)
              rw [dropI hix.1, putL, rowF] at hinv; rw [dropI hix.1, putL, restB_cons] at hlen
              obtain ⟨S, hS⟩ : ∃ S, S = putV (itm items i) (inTy k 0 ins i) := ⟨_, rfl⟩
              simp only [← hS] at hinv hlen; rw [← hS] at hbi
              have hle4 := leR4_len (H + th.length)
              refine HC_region (HL_r rfl rfl rfl rfl (R_loadA (vs := [_, _, _]) rfl (known_L (k := 1) rfl) rfl rfl rfl rfl) (HL_r rfl rfl rfl rfl (R_loadA (vs := [_, _, _, _, _, _, _]) rfl (known_L (k := 0) rfl) rfl rfl rfl rfl) ?_)); refine HLm rfl (HL_callR rfl rfl rfl (enters_of Tryz.func77 (by kernel_rfl) rfl) hin (fun q hq => Or.inr hq) (HL_alloc (cs := #[.int .i64 0, .int .i64 0, .slice none 0 0]) rfl rfl rfl rfl fun r9 => ?_)); refine HL_storeArr (k := 0) (n := 3) (ys := (inTy k 0 ins i).cells) rfl rfl rfl rfl rfl (inTy k 0 ins i).len rfl (inTy k 0 ins i).one rfl ?_; refine HL_nil (hK30 _ _ _ _ ?_); refine HC_seq fun K31 hK31 => ?_; refine HC_draw 8 (by kernel_rfl) (by kernel_rfl) ?_; refine HD_r rfl rfl rfl (R_loadArr (xs := (inTy k 0 ins i).cells) (n := 3) rfl (known_L (k := 0) rfl) rfl rfl (inTy k 0 ins i).len) ?_
              refine HD_r rfl rfl rfl (R_fieldAddr rfl rfl (by first | (simp only [Nat.zero_add, Nat.reduceAdd, Nat.reduceMul, Nat.zero_mul, Nat.mul_one, Nat.add_zero]; exact rfl) | exact rfl)) ?_; refine HD_r rfl rfl rfl (R_load rfl (known_L (k := 1) rfl) rfl rfl) ?_; refine HD_r rfl rfl rfl (R_move rfl) ?_
              refine HD_r rfl rfl rfl (R_indexPl (j := i) rfl hs rfl rfl rfl (by first | rfl | omega) (by omega)) ?_; refine HD_r rfl rfl rfl (R_loadVl (fun q hq => Or.inr hq) rfl hs hix.1 rfl rfl) ?_; refine HD_callR rfl rfl rfl (enters_of Tryz.func39 (by kernel_rfl) rfl) hbi (fun q hq => Or.inr hq) ?_; refine HD_r rfl rfl rfl (R_assign rfl) ?_; refine HD_end ?_; refine HL_nil (hK31 _ _ _ _ ?_); refine HC_seq fun K32 hK32 => HC_region ?_; refine HL_r rfl rfl rfl rfl (R_loadArr (xs := (inTy k 0 ins i).cells) (n := 3) rfl (known_L (k := 0) rfl) rfl rfl (inTy k 0 ins i).len) ?_; refine HL_callR rfl rfl rfl (enters_of Tryz.func78 (by kernel_rfl) rfl) (S_ref_Fixed hti1) (fun q hq => Or.inr hq) ?_; refine HL_nil (hK32 _ _ _ _ ?_); refine HC_cond rfl (fun h33 => ?_) (fun h33 => ?_)
              · try exact Bool.noConfusion h33
                try simp only [ZZ] at h33
                refine HC_region (HLm rfl ?_); refine HLm rfl (HL_r rfl rfl rfl rfl (R_concat (a := f) (b := S) rfl rfl (by omega)) ?_); refine HLm rfl (HL_nil ?_); refine HQ_blockN (hK29 _ _ _ _ ?_); refine HC_region (HLm rfl ?_)
                refine HLp rfl ?_; refine HL_as (show _ = Value.int .i64 ((i + 1 : Nat) : Int) from by rw [wrap_i64 (by omega) (by omega)]; congr 1 <;> omega) ?_; refine HLm rfl (HL_nil (HQ_then ?_))
                (rw [if_pos (by assumption)] at hinv
                 exact HQ_again (i + 1, f ++ S, th) ⟨by simp only; omega, hinv, by simp only [List.length_append]; omega⟩ (by simp only; omega) (.cons rfl (.cons rfl (.cons rfl (.cons rfl (.cons rfl (.cons rfl .nil)))))) (.cons _ (List.Sublist.refl _)) (fun _ _ h => h))
              · try exact Bool.noConfusion h33
                try simp only [ZZ] at h33
                refine HC_seq fun K34 hK34 => HC_region ?_; refine HLm rfl (HLm rfl ?_); refine HLm rfl (HL_r rfl rfl rfl rfl (R_lenBs rfl rfl) ?_)
                refine HLp rfl ?_; refine HL_as (show _ = Value.int .i64 ((H + th.length : Nat) : Int) from by rw [wrap_i64 (by omega) (by omega)]; congr 1 <;> omega) ?_; refine HL_callP rfl rfl rfl (enters_of Tryz.func79 (by kernel_rfl) rfl) (P_offset (n := H + th.length) (by omega)) ?_; refine HL_r rfl rfl rfl rfl (R_concat (a := f) (b := (leR (H + th.length) 4).1) rfl rfl (by omega)) ?_; refine HLm rfl ?_; refine HL_nil (hK34 _ _ _ _ ?_); refine HC_region (HLm rfl ?_); refine HLm rfl (HL_r rfl rfl rfl rfl (R_concat (a := th) (b := S) rfl rfl (by omega)) ?_); refine HLm rfl (HL_nil ?_); refine HQ_blockN (hK29 _ _ _ _ ?_); refine HC_region (HLm rfl ?_)
                refine HLp rfl ?_; refine HL_as (show _ = Value.int .i64 ((i + 1 : Nat) : Int) from by rw [wrap_i64 (by omega) (by omega)]; congr 1 <;> omega) ?_; refine HLm rfl (HL_nil (HQ_then ?_))
                (rw [if_neg (by rw [Bool.not_eq_true]; assumption)] at hinv
                 exact HQ_again (i + 1, f ++ (leR (H + th.length) 4).1, th ++ S) ⟨by simp only; omega, hinv, by simp only [List.length_append]; omega⟩ (by simp only; omega) (.cons rfl (.cons rfl (.cons rfl (.cons rfl (.cons rfl (.cons rfl .nil)))))) (.cons _ (List.Sublist.refl _)) (fun _ _ h => h))
            · try exact Bool.noConfusion h28
              try simp only [ZZ] at h28
              refine HC_exit (HQ_thenE ?_); refine HQ_thenE (HQ_blockE (hK24 _ _ _ _ ?_)); refine HC_seq fun K35 hK35 => ?_
              have hin : i = items.length := by omega
              rw [hin, List.drop_length, putL, rowF] at hinv; refine HC_region (HLm rfl ?_); refine HLm rfl (HL_r rfl rfl rfl rfl (R_concat (a := f) (b := th) rfl rfl (by omega)) (HLm rfl ?_)); refine HL_nil (hK35 _ _ _ _ ?_); refine HC_ret ?_; refine HQ_post rfl rfl (.cons (res_tmp rfl) .nil) (fun w1 hs1 => ?_); refine ⟨?_, hs1.keep⟩; rw [hput, ← hinv]; rfl
end Go.Proofs.YtlcbfphioeppaaaGreatDoor
namespace Go.Proofs.YtlcbfphioeppaaaGreatDoor
set_option linter.all false
open Go.SL Go.RowKit Go.Shelf
/-! ### Bytes in chunks -/
section
variable {c : Cx} {l : List (Nat × Value)} {L : List (Nat × Obj)} {X : XP} {d : List Deferred} {i : Nat} {ps : String} {af : Array Edge} {gd : Option (Nat × Bool)} {ty : TypeId}
theorem R_bytesStrO {x : Operand} {b : List UInt8} {r off n cap : Nat} {cs : Array Value} {e src dst : TypeId} {fr : Nat × Nat} (hx : evl l x = some (.slice (some ⟨r, off, none⟩) n cap)) (hk : known c L r (.cells cs e fr)) (hn : n = b.length) (ht : (cs.toList.drop off).take b.length = b.map bV)
    (hs : sliceOf c.P src = some e) (he : c.P.underlying e = some (.int .u8)) (hd : strB c.P dst = true) :
    RunsTo c d l L X ⟨some i, .convert src dst x, ty, ps, af, gd⟩ (.string (bs b)) := fun a' w hf hst => by
  subst hn; simp only [execOp]; rw [hf.eval hx]
  have hget := hst.known hk
  have hl : (loadCells ⟨r, off, none⟩ (b.map bV).length).run c.P w = .ok (b.map bV).toArray w := run_loadCells_list w ⟨r, off, none⟩ (b.map bV) fun j v hj => by
    have hlt := (List.getElem?_eq_some_iff.1 hj).1
    rw [List.length_map] at hlt
    have hj2 : cs[off + j]? = some v := by
      rw [← ht, List.getElem?_take, if_pos hlt, List.getElem?_drop] at hj
      simpa using hj
    rw [add_spot, cell_at hget]; exact hj2
  rw [List.length_map] at hl; simp only [Sem.run_bind]; rw [run_convert_bytes_string w src dst e _ _ _ (und_slice hs) he (und_str hd)]; rw [run_bytesToString w _ _ _ (b.map fun x => ((x.toNat : Nat) : Int)) (by rw [hl]; simp [bV, Function.comp_def])]
  have := fold_push b []
  rw [show (bs [] : ByteArray) = ByteArray.empty from rfl] at this; rw [this]
  rfl
end
def pieceC (s : BS) (i : Nat) : BS := (s.drop (32 * i)).take 32
def cutN (s : BS) : Nat := (s.length + 31) / 32
def cutS (s : BS) (m : Nat) : List BS := (List.range m).map fun i => padZ (pieceC s i)
def cutC (s : BS) : List BS := cutS s (cutN s)
theorem cutS_len (s : BS) (m : Nat) : (cutS s m).length = m := by unfold cutS; rw [List.length_map, List.length_range]
theorem cutC_len (s : BS) : (cutC s).length = cutN s := cutS_len _ _
theorem pieceC_len (s : BS) (i : Nat) : (pieceC s i).length = min 32 (s.length - 32 * i) := by unfold pieceC; rw [List.length_take, List.length_drop]
theorem cutS_snoc (s : BS) (i : Nat) : chC (cutS s (i + 1)) = chC (cutS s i) ++ [strV (padZ (pieceC s i))] := by
  unfold cutS
  rw [List.range_succ, List.map_append, List.map_cons, List.map_nil, chC_snoc]
theorem cutC_32 (s : BS) : ∀ x ∈ cutC s, x.length = 32 := by
  intro x hx
  unfold cutC cutS at hx
  obtain ⟨i, _, rfl⟩ := List.mem_map.1 hx
  exact padZ_len (by rw [pieceC_len]; omega)
theorem piece_at (s : BS) (i : Nat) (sp : List Value) : ((s.map bV ++ sp).toArray.toList.drop (32 * i)).take (pieceC s i).length = (pieceC s i).map bV := by
  simp only [List.toList_toArray]; rw [pieceC_len]
  by_cases h : 32 * i ≤ s.length
  · rw [List.drop_append_of_le_length (by rw [List.length_map]; exact h), List.take_append_of_le_length (by rw [List.length_drop, List.length_map]; omega)]
    unfold pieceC
    rw [List.map_take, List.map_drop]
    rcases Nat.le_total 32 (s.length - 32 * i) with h2 | h2
    · rw [Nat.min_eq_left h2]
    · rw [Nat.min_eq_right h2, List.take_of_length_le (by rw [List.length_drop, List.length_map]; omega), List.take_of_length_le (by rw [List.length_drop, List.length_map]; omega)]
  · unfold pieceC
    rw [show s.length - 32 * i = 0 by omega, Nat.min_zero, List.take_zero, List.drop_of_length_le (by omega)]; rfl
theorem piece_str (s : BS) (i : Nat) : (s.take (min (32 * i + 32) s.length)).drop (32 * i) = pieceC s i := by
  unfold pieceC
  rw [List.drop_take]
  rcases Nat.le_total (32 * i + 32) s.length with h | h
  · rw [Nat.min_eq_left h, show 32 * i + 32 - 32 * i = 32 by omega]
  · rw [Nat.min_eq_right h, List.take_of_length_le (by rw [List.length_drop]; omega), List.take_of_length_le (by rw [List.length_drop]; omega)]
def chM (rb n cap : Nat) (p : Nat × Nat) : List (Nat × Obj) := [(p.2, .cells #[.int .i64 32] 3 (0, 0)), (p.1, .cells #[.slice (some ⟨rb, 0, none⟩) n cap] 52 (0, 0))]
set_option maxRecDepth 10000 in
theorem E_ChunkM (rb n cap : Nat) : PureE (α := Nat × Nat) Tryz.prog 63 [.slice (some ⟨rb, 0, none⟩) n cap, .int .i64 32].toArray (fun p => .func (.func 116) #[] #[pt0 p.1, pt0 p.2]) (chM rb n cap) := by
  refine pureE_of_HC Tryz.func63 rfl rfl fun w => ?_; refine HC_seq fun K1 hK1 => HC_region ?_; refine HL_box (cs := #[_]) rfl rfl rfl rfl fun r1 => ?_; refine HL_box (cs := #[_]) rfl rfl rfl rfl fun r2 => ?_; refine HLm rfl ?_; refine HL_nil (hK1 _ _ _ _ ?_); refine HC_seq fun K2 hK2 => ?_; refine HC_seq fun K3 hK3 => HC_region ?_; refine HL_r rfl rfl rfl rfl (R_load rfl (known_L (k := 0) rfl) rfl rfl) ?_; refine HLp rfl ?_; refine HL_nil (hK3 _ _ _ _ ?_); refine HC_cond rfl (fun h4 => ?_) (fun h4 => ?_)
  · exact absurd h4 (by decide)
  · try exact Bool.noConfusion h4
    try simp only [ZZ] at h4
    refine HC_skip (hK2 _ _ _ _ ?_); refine HC_seq fun K5 hK5 => HC_region ?_; refine HL_r rfl rfl rfl rfl (R_makeFunc rfl rfl) ?_; refine HLm rfl ?_; refine HL_nil (hK5 _ _ _ _ ?_); refine HC_ret ?_; refine HQ_post rfl rfl (.cons (res_tmp rfl) .nil) (fun w1 hs1 => ?_); exact ⟨(r1, r2), rfl, hs1⟩
def chunkM (rb n j : Nat) : List Value := [.slice (some ⟨rb, 32 * j, none⟩) (min 32 (n - 32 * j)) (min 32 (n - 32 * j))]
set_option maxRecDepth 10000 in
theorem I_ChunkM {rb n cap N : Nat} (hn : N = (n + 31) / 32) (hcap : n ≤ cap) (hlim : n ≤ 1000000) (p1 p2 : Nat) : Iter Tryz.prog 116 [pt0 p1, pt0 p2] (chM rb n cap (p1, p2)) 0 (nxN (chunkM rb n) N) (finN N) := by
  refine iter_of_HC Tryz.func116 rfl rfl fun q xids w2 XI XF hY => ?_; refine HC_seq fun K1 hK1 => HC_region ?_; refine HLm rfl ?_; refine HL_nil (hK1 _ _ _ _ ?_); refine HC_block (HC_loop (σ := Nat) (fun i => i ≤ N) (fun i => [(0, .func (.yield q) #[] #[]), (1, pt0 p1), (2, pt0 p2), (4, .int .i64 ((32 * i : Nat) : Int))]) (fun _ => []) (fun i => XI i) (fun i => N - i) 0 (Nat.zero_le _) (.cons rfl (.cons rfl (.cons rfl (.cons rfl .nil)))) (List.nil_sublist _) (fun _ _ h => h) ?_); intro i hi; refine HC_seq fun K2 hK2 => ?_; refine HC_seq fun K3 hK3 => HC_region ?_; refine HLm rfl (HL_r rfl rfl rfl rfl (R_load rfl (known_R (k := 1) rfl) rfl rfl) (HL_r rfl rfl rfl rfl (R_lenSl rfl rfl) ?_)); refine HLp rfl ?_; refine HL_nil (hK3 _ _ _ _ ?_); refine HC_cond rfl (fun h4 => ?_) (fun h4 => ?_)
  · try exact Bool.noConfusion h4
    try simp only [ZZ] at h4
    refine HC_skip (hK2 _ _ _ _ ?_); refine HC_seq fun K5 hK5 => HC_block ?_; refine HC_seq fun K6 hK6 => ?_
    obtain ⟨M, hM⟩ : ∃ M, M = min 32 (n - 32 * i) := ⟨_, rfl⟩
    have hM1 : M ≤ 32 := by omega
    have hM2 : 0 < M := by omega
    refine HC_draw 7 (by kernel_rfl) (by kernel_rfl) ?_; refine HD_r rfl rfl rfl (R_load rfl (known_R (k := 0) rfl) rfl rfl) ?_; refine HD_r rfl rfl rfl (R_load rfl (known_R (k := 1) rfl) rfl rfl) ?_; refine HD_r rfl rfl rfl (R_move rfl) ?_; refine HD_r rfl rfl rfl (R_sliceSl (kl := some (32 * i)) (kh := none) (km := none) (sz := 1) (m := 32 * i) (q := n) (z := cap) rfl rfl rfl ⟨_, rfl⟩ trivial trivial rfl rfl rfl (by omega) hcap (Nat.le_refl _) (fun _ => rfl) rfl) ?_; refine HD_r rfl rfl rfl (R_lenSl rfl rfl) ?_
    refine HD_r rfl rfl rfl (R_min2 (r := ((M : Nat) : Int)) rfl rfl (by rw [hM]; split <;> omega)) ?_; refine HD_r rfl rfl rfl (R_assign rfl) ?_; refine HD_end ?_; refine HL_nil (hK6 _ _ _ _ ?_); refine HC_seq fun K7 hK7 => HC_region ?_; refine HLm rfl (HL_r rfl rfl rfl rfl (R_load rfl (known_R (k := 1) rfl) rfl rfl) ?_); refine HLm rfl (HLm rfl (HLm rfl ?_))
    refine HLp rfl ?_; refine HL_as (show _ = Value.int .i64 ((32 * i + M : Nat) : Int) from by rw [wrap_i64 (by omega) (by omega)]; congr 1 <;> omega) ?_; refine HLm rfl (HLm rfl ?_)
    refine HLp rfl ?_; refine HL_as (show _ = Value.int .i64 ((32 * i + M : Nat) : Int) from by rw [wrap_i64 (by omega) (by omega)]; congr 1 <;> omega) ?_
    refine HL_r rfl rfl rfl rfl (R_sliceSl (kl := some (32 * i)) (kh := some (32 * i + M)) (km := some (32 * i + M)) (sz := 1) (m := 32 * i) (q := 32 * i + M) (z := 32 * i + M) (off' := 32 * i) rfl rfl rfl ⟨_, rfl⟩ ⟨_, rfl⟩ ⟨_, rfl⟩ rfl rfl rfl (by omega) (Nat.le_refl _) (by omega) (fun h => by cases h) (by rw [if_neg (by omega)]; omega)) ?_; refine HL_as (show _ = Value.slice (some ⟨rb, 32 * i, none⟩) (min 32 (n - 32 * i)) (min 32 (n - 32 * i)) from by congr 1 <;> omega) ?_; refine HL_yield (XT := XI (i + 1)) (XF := XF) rfl rfl rfl rfl (hY i (chunkM rb n i) (i + 1) ⟨by omega, rfl, rfl⟩) ?_ ?_
    all_goals refine HLp rfl ?_
    all_goals refine HL_nil ?_
    all_goals (
     refine hK7 _ _ _ _ ?_; refine HC_cond rfl (fun h8 => ?_) (fun h8 => ?_)
     · try exact Bool.noConfusion h8
       all_goals try simp only [ZZ] at h8
       all_goals (
        refine HC_ret (HQ_blockR (HQ_thenR ?_)); refine HQ_thenR (HQ_blockR ?_); refine HQ_post rfl rfl .nil (fun w1 hs1 => ?_)
        obtain ⟨xs1, hx1⟩ := hs1.now
        exact ⟨⟨_, rfl⟩, hs1.keep, .inr ⟨_, hx1⟩⟩
        skip)
     · try exact Bool.noConfusion h8
       all_goals try simp only [ZZ] at h8
       all_goals (
        refine HC_skip (HQ_blockN (hK5 _ _ _ _ ?_)); refine HC_region (HLm rfl (HL_r rfl rfl rfl rfl (R_load rfl (known_R (k := 0) rfl) rfl rfl) ?_))
        refine HLp rfl ?_; refine HL_as (show _ = Value.int .i64 ((32 * (i + 1) : Nat) : Int) from by rw [wrap_i64 (by omega) (by omega)]; congr 1 <;> omega) ?_; refine HLm rfl (HL_nil (HQ_then ?_)); exact HQ_again (i + 1) (by omega) (by omega) (.cons rfl (.cons rfl (.cons rfl (.cons rfl .nil)))) (List.nil_sublist _) (fun _ _ h => h)
        skip)
     skip)
  · try exact Bool.noConfusion h4
    try simp only [ZZ] at h4
    refine HC_exit (HQ_thenE ?_); refine HQ_thenE (HQ_blockE ?_); refine HQ_postN rfl rfl .nil (fun w1 hs1 => ?_)
    obtain ⟨xs1, hx1⟩ := hs1.now
    exact ⟨⟨_, rfl⟩, hs1.keep, .inl ⟨i, _, (by show i = N; omega), hx1⟩⟩
set_option maxRecDepth 10000 in
theorem T_cut {s : BS} (hl : s.length ≤ 1000000) : PureT (α := { row : Row // rowOk 1 (cutN s) (chC (cutC s)) row }) Tryz.prog 183 [strV s].toArray (fun x => rowV (cutN s) x.1) [] (fun x => rowL 9 (chC (cutC s)) x.1) [] := by
  obtain ⟨N, hN⟩ : ∃ N, N = cutN s := ⟨_, rfl⟩
  have hN2 : N = (s.length + 31) / 32 := hN
  have hC : cutC s = cutS s N := by rw [hN]; rfl
  rw [hC, ← hN]; refine pureT_of_HC Tryz.func183 rfl rfl fun w => ?_; refine HC_seq fun K1 hK1 => HC_region ?_; refine HLm rfl ?_; refine HL_nil (hK1 _ _ _ _ ?_); refine HC_seq fun K2 hK2 => HC_region ?_; refine HL_alloc (cs := #[_]) rfl rfl rfl rfl fun r1 => ?_; refine HL_nil (hK2 _ _ _ _ ?_); refine HC_seq fun K3 hK3 => ?_; refine HC_seq fun K4 hK4 => HC_region ?_; refine HLm rfl (HL_strBytes rfl rfl rfl rfl rfl rfl fun rb kb => (HL_callPE rfl rfl rfl (enters_of Tryz.func63 (by kernel_rfl) rfl) (E_ChunkM rb s.length (s.length + kb)) fun pp => ?_))
  obtain ⟨p1, p2⟩ := pp
  change HL _ _ _ [(p2, _), (p1, _), (rb, _), (r1, _)] _ _ _ _; refine HL_nil (hK4 _ _ _ _ ?_); refine HC_block (HC_sel [3, 0, 1, 2] (L' := [_, _, _, _]) (by decide) rfl ?_)
  refine HC_rangeR (τ := Unit) (fun i (q : Nat × Row) => i ≤ N ∧ i = q.1 ∧ rowOk 1 q.1 (chC (cutS s q.1)) q.2) (fun q => (r1, .cells #[rowV q.1 q.2] 45 (0, 0)) :: rowL 9 (chC (cutS s q.1)) q.2) (fun _ _ => False) (fun _ => []) [(p2, _), (p1, _), (rb, _)] (0, none) rfl rfl (enters_of Tryz.func116 (by kernel_rfl) rfl) (I_ChunkM (rb := rb) (cap := s.length + kb) hN2 (by omega) hl p1 p2) (by rintro _ _ _ ⟨_, rfl, _⟩; rfl) rfl (fun q hq => .inl (by rcases List.mem_cons.1 hq with rfl | hq; exact List.mem_cons_self; rw [List.mem_singleton.1 hq]; exact List.mem_cons_of_mem _ List.mem_cons_self)) rfl ⟨Nat.zero_le _, rfl, rfl, rfl⟩ ?_ ?_ ?_
  · rintro q Xr Xb w3 i _ _ ⟨i2, row⟩ ⟨hii, rfl, rfl⟩ ⟨him, he, hrow⟩ Kr hKr
    simp only at he
    obtain rfl := he
    simp only at hrow
    unfold chunkM
    refine HC_region (HLm rfl (HL_nil ?_)); refine hKr _ _ ?_; clear hKr; refine HC_block ?_
    have hfull := P_full (s := pieceC s i) (by rw [pieceC_len]; omega)
    have hsn := cutS_snoc s i
    obtain ⟨sv, hsv⟩ : ∃ x, x = padZ (pieceC s i) := ⟨_, rfl⟩
    rw [← hsv] at hfull hsn
    refine HC_drawB [] [(1, .pure), (3, .pure), (4, .grow (geNew (slV 1) (.cells #[strV sv] 9 (0, 0))))] 5 [0, 1, 2, 3, 4] (by kernel_rfl) (by kernel_rfl) (by first | exact (fun _ h => nomatch h) | simp [SubS] | (intro p hp; simp [hp])) ?_; refine HB_r (k := 0) rfl rfl rfl rfl rfl (R_load (v := rowV i row) rfl (known_L (k := 0) rfl) rfl rfl) ?_; refine HB_p (k := 1) rfl rfl rfl rfl rfl (fun _ hS => (R_move rfl)) ?_; refine HB_r (k := 2) rfl rfl rfl rfl rfl (R_bytesStrO (b := pieceC s i) rfl (known_R (k := 2) rfl) (pieceC_len s i).symm (piece_at s i _) rfl rfl rfl) ?_; refine HB_callP (k := 3) rfl rfl rfl rfl rfl (enters_of Tryz.func57 (by kernel_rfl) rfl) hfull ?_; refine HB_buildSlice (k := 4) (n := 1) (sz := 1) (vs := [_]) (zs := [_]) (r := [strV sv]) rfl rfl rfl rfl rfl rfl rfl rfl rfl rfl rfl (by show (madeCells #[_] _).toList = _; rw [made_one]; exact rfl) rfl fun rv => ?_; refine HB_end ?_; refine HL_appendRow (L0 := [_, _]) (xs := chC (cutS s i)) (row := row) (n := i) (sz := 1) (b := 16) (news := [strV sv]) (List.perm_append_comm (l₁ := [_, _])) rfl rfl rfl rfl (known_L (k := 0) rfl) rfl rfl rfl rfl rfl (by decide) rfl rfl rfl (by decide) hrow (by omega) (by omega) fun ra cap sp hra => ?_; refine HL_store (k := 2) (cs' := #[rowV (i + 1) (some (ra, cap, sp))]) rfl rfl rfl rfl rfl rfl rfl rfl rfl rfl ?_; refine HL_nil ?_; refine HQ_blockN (HQ_sel [2, 0] (L' := [_, _]) (by decide) rfl ?_); exact HQ_round (i + 1, some (ra, cap, sp)) ⟨by omega, rfl, by simp only; rw [hsn]; exact hra⟩ (by simp only; rw [hsn]; rfl)
  · rintro D i ⟨i2, row⟩ hfi ⟨him, he, hrow⟩
    simp only at he hrow
    obtain rfl : N = i := Eq.symm hfi
    obtain rfl := he
    refine HQ_blockN (hK3 _ _ _ _ ?_); refine HC_seq fun K5 hK5 => HC_region ?_; refine HL_r rfl rfl rfl rfl (R_load (v := rowV N row) rfl (known_L (k := 1) rfl) rfl rfl) ?_; refine HLm rfl ?_; refine HL_nil (hK5 _ _ _ _ ?_); refine HC_ret (HQ_mark (k := 0) rfl rfl ?_); refine HQ_post rfl rfl (.cons (res_tmp rfl) .nil) (fun w1 hs1 => ?_); exact ⟨⟨row, hrow⟩, rfl, hs1.weakL (.cons _ (.cons _ (List.sublist_append_left _ _)))⟩
  · exact fun _ _ _ h => h.elim
set_option maxRecDepth 10000 in
theorem P_need {n : Nat} (hn : n ≤ 4611686018427387904) : Pure Tryz.prog 184 [.int .i64 (n : Int)].toArray (.int .i64 (((n + 31) / 32 : Nat) : Int)) := by
  refine pure_of_HC Tryz.func184 rfl rfl fun w => ?_; refine HC_seq fun K1 hK1 => HC_region ?_; refine HLm rfl ?_; refine HL_nil (hK1 _ _ _ _ ?_); refine HC_seq fun K2 hK2 => HC_region ?_; refine HLm rfl ?_
  refine HLp rfl ?_; refine HL_as (show _ = Value.int .i64 ((n + 32 : Nat) : Int) from by rw [wrap_i64 (by omega) (by omega)]; congr 1 <;> omega) ?_
  refine HLp rfl ?_; refine HL_as (show _ = Value.int .i64 ((n + 31 : Nat) : Int) from by rw [wrap_i64 (by omega) (by omega)]; congr 1 <;> omega) ?_; refine HLp rfl (HL_as (show _ = Value.int .i64 (((n + 31) / 32 : Nat) : Int) from congrArg (Value.int .i64) (quo_i64 (by omega) (by decide) (by omega))) (HLm rfl ?_)); refine HL_nil (hK2 _ _ _ _ ?_); refine HC_ret ?_; refine HQ_post rfl rfl (.cons (res_tmp rfl) .nil) (fun w1 hs1 => ?_); exact ⟨rfl, hs1.keep⟩
set_option maxRecDepth 10000 in
theorem T_rchunks {s : BS} (hl : s.length ≤ 1000000) : PureT (α := { row : Row // rowOk 1 (cutN s) (chC (cutC s)) row }) Tryz.prog 115 [strV s].toArray (fun x => rowV (cutN s) x.1) [] (fun x => rowL 9 (chC (cutC s)) x.1) [] := by
  obtain ⟨N, hN⟩ : ∃ N, N = cutN s := ⟨_, rfl⟩
  have hN2 : N = (s.length + 31) / 32 := hN
  have hC : cutC s = cutS s N := by rw [hN]; rfl
  rw [hC, ← hN]; refine pureT_of_HC Tryz.func115 rfl rfl fun w => ?_; refine HC_seq fun K1 hK1 => HC_region ?_; refine HLm rfl ?_; refine HL_nil (hK1 _ _ _ _ ?_); refine HC_seq fun K2 hK2 => HC_region ?_; refine HLm rfl ?_; refine HL_nil (hK2 _ _ _ _ ?_); refine HC_seq fun K3 hK3 => ?_; refine HC_seq fun K4 hK4 => HC_region ?_; refine HLm rfl ?_; refine HL_nil (hK4 _ _ _ _ ?_); refine HC_block (HC_loop (σ := Nat × Row) (fun q => q.1 ≤ N ∧ rowOk 1 q.1 (chC (cutS s q.1)) q.2) (fun q => [(0, strV s), (3, rowV q.1 q.2), (4, .int .i64 ((32 * q.1 : Nat) : Int))]) (fun q => rowL 9 (chC (cutS s q.1)) q.2) (fun _ _ _ => True) (fun q => N - q.1) (0, none) ⟨Nat.zero_le _, rfl, rfl⟩ (.cons rfl (.cons rfl (.cons rfl .nil))) (List.Sublist.refl _) (fun _ _ h => h) ?_); rintro ⟨i, row⟩ ⟨hi1, hrow⟩; simp only at hi1 hrow; change HC _ _ [(0, strV s), (3, rowV i row), (4, .int .i64 ((32 * i : Nat) : Int))] (rowL _ (chC (cutS s i)) row) _ _ _; refine HC_seq fun K5 hK5 => ?_; refine HC_seq fun K6 hK6 => HC_region ?_; refine HLm rfl (HLm rfl (HL_r rfl rfl rfl rfl (R_lenBs rfl rfl) ?_)); refine HLp rfl ?_; refine HL_nil (hK6 _ _ _ _ ?_); refine HC_cond rfl (fun h7 => ?_) (fun h7 => ?_)
  · try exact Bool.noConfusion h7
    try simp only [ZZ] at h7
    refine HC_skip (hK5 _ _ _ _ ?_); refine HC_seq fun K8 hK8 => HC_block ?_; refine HC_seq fun K9 hK9 => ?_
    have hil : 32 * i < s.length := by omega
    obtain ⟨E, hE⟩ : ∃ E, E = min (32 * i + 32) s.length := ⟨_, rfl⟩
    obtain ⟨P, hPd⟩ : ∃ P, P = pieceC s i := ⟨_, rfl⟩
    have hP : (s.take E).drop (32 * i) = P := by rw [hPd, hE]; exact piece_str s i
    have hPl : P.length ≤ 32 := by rw [hPd, pieceC_len]; omega
    have hsn := cutS_snoc s i
    rw [← hPd] at hsn
    obtain ⟨sv, hsv⟩ : ∃ x, x = padZ P := ⟨_, rfl⟩
    rw [← hsv] at hsn; refine HC_region (HLm rfl ?_); refine HLm rfl (HLm rfl ?_)
    refine HLp rfl ?_; refine HL_as (show _ = Value.int .i64 ((32 * i + 32 : Nat) : Int) from by rw [wrap_i64 (by omega) (by omega)]; congr 1 <;> omega) ?_; refine HLm rfl (HL_r rfl rfl rfl rfl (R_lenBs rfl rfl) ?_)
    refine HL_r rfl rfl rfl rfl (R_min2 (r := ((E : Nat) : Int)) rfl rfl (by rw [hE]; split <;> omega)) ?_; refine HL_r rfl rfl rfl rfl (R_sliceBs (kl := some (.i64, ((32 * i : Nat) : Int))) (kh := some (.i64, (E : Int))) (m := 32 * i) (n := E) (r := P) rfl rfl rfl rfl rfl rfl (by omega) (by omega) hP) ?_; refine HLm rfl ?_; refine HL_nil (hK9 _ _ _ _ ?_); refine HC_region (HLm rfl ?_); refine HLm rfl (HLm rfl (HL_r rfl rfl rfl rfl (R_lenBs rfl rfl) ?_))
    refine HLp rfl ?_; refine HL_as (show _ = Value.int .i64 ((32 - P.length : Nat) : Int) from by rw [wrap_i64 (by omega) (by omega)]; congr 1 <;> omega) ?_; refine HL_make (n := 32 - P.length) (b := 1) rfl rfl rfl rfl rfl rfl rfl rfl rfl (by omega) (by omega) fun rm => ?_; refine HL_r rfl rfl rfl rfl (R_bytesStr (b := List.replicate (32 - P.length) 0) (row := some (rm, 32 - P.length, [])) (e := 5) (show _ = some (rowV (List.replicate (32 - P.length) (0 : UInt8)).length _) from by rw [List.length_replicate]; rfl) ⟨by simp, by simp⟩ (fun p hp => .inl (by rw [List.mem_singleton.1 hp, List.append_nil, List.map_replicate]; exact List.mem_cons_self)) rfl rfl rfl) ?_; refine HL_r rfl rfl rfl rfl (R_concat (a := P) (b := List.replicate (32 - P.length) 0) rfl rfl (by rw [List.length_replicate]; omega)) ?_; refine HL_as (show _ = strV sv from by rw [hsv]; rfl) ?_; refine HL_buildSlice (vs := [_]) (zs := [_]) (r := [_]) rfl rfl rfl rfl rfl rfl rfl rfl rfl (by show (madeCells #[_] _).toList = _; rw [made_one]; exact rfl) rfl fun r1 => ?_; refine HL_appendRow (L0 := [_, _]) (xs := chC (cutS s i)) (row := row) (n := i) (sz := 1) (b := 16) (news := [strV sv]) (List.perm_append_comm (l₁ := [_, _])) rfl rfl rfl rfl (known_L (k := 0) rfl) rfl rfl rfl rfl rfl (by decide) rfl rfl rfl (by decide) hrow (by omega) (by omega) fun ra cap sp hra => ?_; refine HLm rfl (HL_nil ?_); refine HQ_blockN (hK8 _ _ _ _ ?_); refine HC_region (HLm rfl ?_)
    refine HLp rfl ?_; refine HL_as (show _ = Value.int .i64 ((32 * (i + 1) : Nat) : Int) from by rw [wrap_i64 (by omega) (by omega)]; congr 1 <;> omega) ?_; refine HLm rfl (HL_nil (HQ_then ?_)); refine HQ_sel [0] (L' := [_]) (by decide) rfl ?_; exact HQ_again (i + 1, some (ra, cap, sp)) ⟨by simp only; omega, by simp only; rw [hsn]; exact hra⟩ (by simp only; omega) (.cons rfl (.cons rfl (.cons rfl .nil))) (by simp only; rw [hsn]; exact List.Sublist.refl _) (fun _ _ h => h)
  · try exact Bool.noConfusion h7
    try simp only [ZZ] at h7
    refine HC_exit (HQ_thenE ?_); refine HQ_thenE (HQ_blockE (hK3 _ _ _ _ ?_)); refine HC_seq fun K10 hK10 => ?_
    obtain rfl : i = N := by omega
    refine HC_region (HLm rfl (HLm rfl ?_)); refine HL_nil (hK10 _ _ _ _ ?_); refine HC_ret ?_; refine HQ_post rfl rfl (.cons (res_tmp rfl) .nil) (fun w1 hs1 => ?_); exact ⟨⟨row, hrow⟩, rfl, hs1⟩
end Go.Proofs.YtlcbfphioeppaaaGreatDoor
namespace Go.Proofs.YtlcbfphioeppaaaGreatDoor
set_option linter.all false
open Go.SL Go.RowKit Go.Shelf
/-! ### Roots of values, in plain Lean -/
def plainT (x : Ty) : Bool := decide (x.k = 1) || decide (x.k = 2)
def catB (items : List Vl) (x : Ty) : BS := (items.map fun v => putV v x).flatten
def rowM (k n : Int) (ins : List Ty) (items : List Vl) (rs : List BS) : BS :=
  if k = 7 then rootC rs ins.length else if plainT (ins.getD 0 default) = true then rootC (cutC (catB items (ins.getD 0 default))) ((n.toNat * (sizT (ins.getD 0 default)).toNat + 31) / 32) else rootC rs n.toNat
mutual
def rootV : Vl → Ty → BS
  | .mk a b c d bits _ items _ pick, t =>
    if t.k = 1 ∨ t.k = 2 then leW [a, b, c, d] 32 else if t.k = 4 then mixE (rowM t.k t.n t.ins items (rootL items t.k pick t.ins 0)) items.length
    else if t.k = 5 then rootC (cutC (packB bits)) ((t.n.toNat + 255) / 256) else if t.k = 6 then mixE (rootC (cutC (packB bits)) ((t.n.toNat + 255) / 256)) bits.length
    else if t.k = 8 then mixE ((rootL items t.k pick t.ins 0).headD []) pick.toNat else rowM t.k t.n t.ins items (rootL items t.k pick t.ins 0)
def rootL : List Vl → Int → Int → List Ty → Nat → List BS
  | [], _, _, _, _ => []
  | x :: xs, k, pick, ins, i => rootV x (inTy k pick ins i) :: rootL xs k pick ins (i + 1)
end
section
variable {a b c d : Nat} {bits : List Bool} {pb : Pl} {items : List Vl} {pi : Pl} {pick k n : Int} {p : Pl} {ins : List Ty}
theorem rootV_mk : rootV (.mk a b c d bits pb items pi pick) (.mk k n p ins) = if k = 1 ∨ k = 2 then leW [a, b, c, d] 32 else if k = 4 then mixE (rowM k n ins items (rootL items k pick ins 0)) items.length
    else if k = 5 then rootC (cutC (packB bits)) ((n.toNat + 255) / 256) else if k = 6 then mixE (rootC (cutC (packB bits)) ((n.toNat + 255) / 256)) bits.length
    else if k = 8 then mixE ((rootL items k pick ins 0).headD []) pick.toNat else rowM k n ins items (rootL items k pick ins 0) := by rw [rootV]; rfl
end
theorem rootL_len : ∀ (l : List Vl) (k pick : Int) (ins : List Ty) (i : Nat), (rootL l k pick ins i).length = l.length
  | [], _, _, _, _ => by rw [rootL]; rfl
  | x :: xs, k, pick, ins, i => by rw [rootL, List.length_cons, rootL_len xs, List.length_cons]
theorem rootL_n8 {k : Int} (h8 : k ≠ 8) (pick : Int) (ins : List Ty) : ∀ (l : List Vl) (i : Nat), rootL l k pick ins i = rootL l k 0 ins i
  | [], i => by rw [rootL, rootL]
  | x :: xs, i => by rw [rootL, rootL, rootL_n8 h8 pick ins xs (i + 1), inTy_n8 h8]
theorem rootL_mem : ∀ {l : List Vl} {k pick : Int} {ins : List Ty} {i : Nat} {s : BS}, s ∈ rootL l k pick ins i → ∃ j x, l[j]? = some x ∧ s = rootV x (inTy k pick ins (i + j))
  | [], _, _, _, _, _, h => by rw [rootL] at h; cases h
  | y :: ys, k, pick, ins, i, s, h => by
    rw [rootL] at h
    rcases List.mem_cons.1 h with rfl | h
    · exact ⟨0, y, rfl, rfl⟩
    · obtain ⟨j, x, h1, h2⟩ := rootL_mem h
      exact ⟨j + 1, x, h1, by rw [h2, show i + 1 + j = i + (j + 1) by omega]⟩
theorem rootL_take (k : Int) (ins : List Ty) : ∀ {l : List Vl} {i j : Nat} {x : Vl}, l[j]? = some x → (rootL l k 0 ins i).take (j + 1) = (rootL l k 0 ins i).take j ++ [rootV x (inTy k 0 ins (i + j))]
  | [], _, _, _, h => by simp at h
  | y :: ys, i, 0, x, h => by
    simp at h; subst h; rw [rootL]; rfl
  | y :: ys, i, j + 1, x, h => by
    rw [List.getElem?_cons_succ] at h; rw [rootL, List.take_succ_cons, List.take_succ_cons, rootL_take k ins h, show i + 1 + j = i + (j + 1) by omega]; rfl
theorem chk_in' {k n : Int} {p : Pl} {ins : List Ty} {d : Int} (hk : 1 ≤ k ∧ k ≤ 8) (ho : okForm k n ins.length = true) : chk (.mk k n p ins) d = if 6 ≤ d then 7 else chkL ins (d + 1) := by
  rw [chk, if_neg (by omega), if_neg (by rw [ho]; simp)]
theorem chkL_zero : ∀ {ins : List Ty} {d : Int}, (∀ x ∈ ins, chk x d = 0) → chkL ins d = 0
  | [], _, _ => by rw [chkL]
  | x :: xs, d, h => by
    rw [chkL, if_pos (h x List.mem_cons_self)]; exact chkL_zero fun y hy => h y (List.mem_cons_of_mem _ hy)
theorem chk_down' (t : Ty) : ∀ d : Int, chk t (d + 1) = 0 → chk t d = 0 := by
  induction t using Ty.ind with
  | h k n p ins ih =>
    intro d h
    obtain ⟨hk, ho, h6, hi⟩ := chk_mk h
    rw [chk_in' hk ho, if_neg (by omega)]; exact chkL_zero fun x hx => ih x hx (d + 1) (hi x hx)
theorem chk_dn {t : Ty} : ∀ {d : Nat}, chk t (d : Int) = 0 → chk t 0 = 0
  | 0, h => h
  | d + 1, h => chk_dn (d := d) (chk_down' t d (by rw [Int.natCast_add] at h; exact h))
theorem chk_sub {k n : Int} {p : Pl} {ins : List Ty} (h : chk (.mk k n p ins) 0 = 0) : ∀ x ∈ ins, chk x 0 = 0 := fun x hx => chk_dn (d := 1) ((chk_mk h).2.2.2 x hx)
/-- A number's type. -/
theorem plain_fix {x : Ty} (hc : chk x 0 = 0) (hp : plainT x = true) : isFix x = true ∧ 1 ≤ sizT x ∧ sizT x ≤ 32 ∧ ∀ v : Vl, fitT v x = 0 → ((putV v x).length : Int) = sizT x := by
  obtain ⟨k, n, p, ins⟩ := x
  obtain ⟨hk, hf, _, _⟩ := chk_mk hc
  have hk2 : k = 1 ∨ k = 2 := by
    unfold plainT at hp
    rw [Bool.or_eq_true] at hp; exact hp.imp of_decide_eq_true of_decide_eq_true
  unfold okForm at hf
  have hins : ins.length = 0 := by
    rcases hk2 with rfl | rfl
    all_goals generalize ins.length = m at hf ⊢
    all_goals simp at hf
    all_goals omega
  have hi : ins = [] := List.length_eq_zero_iff.1 hins
  subst hi
  rcases hk2 with rfl | rfl
  · have hn : 1 ≤ n ∧ n ≤ 32 := by simp at hf; omega
    refine ⟨isFix_iff.2 ⟨hc, by rw [fixT, fixL]; rfl⟩, by rw [sizT, if_pos rfl]; exact hn.1, by rw [sizT, if_pos rfl]; exact hn.2, fun v _ => ?_⟩
    obtain ⟨a, b, c, d, bits, pb, items, pi, pick⟩ := v
    rw [putV_mk, if_pos rfl, sizT, if_pos rfl, leW_len _ (by omega)]; omega
  · refine ⟨isFix_iff.2 ⟨hc, by rw [fixT, fixL]; rfl⟩, by rw [sizT, if_neg (by decide), if_pos rfl]; decide, by rw [sizT, if_neg (by decide), if_pos rfl]; decide, fun v _ => ?_⟩
    obtain ⟨a, b, c, d, bits, pb, items, pi, pick⟩ := v
    rw [putV_mk, if_neg (by decide), if_pos rfl, sizT, if_neg (by decide), if_pos rfl, leW_len _ (by decide)]
    rfl
theorem cat_len' {x : Ty} {z : Nat} : ∀ {items : List Vl}, (∀ v ∈ items, (putV v x).length = z) → (catB items x).length = items.length * z
  | [], _ => by unfold catB; simp
  | v :: l, h => by
    have ih := cat_len' (items := l) fun y hy => h y (List.mem_cons_of_mem _ hy)
    unfold catB at ih ⊢
    rw [List.map_cons, List.flatten_cons, List.length_append, ih, h v List.mem_cons_self, List.length_cons, Nat.succ_mul, Nat.add_comm]
theorem fit_more {a b c d : Nat} {bits : List Bool} {pb : Pl} {items : List Vl} {pi : Pl} {pick k n dp : Int} {p : Pl} {ins : List Ty} (hc : chk (.mk k n p ins) dp = 0) (h : fitT (.mk a b c d bits pb items pi pick) (.mk k n p ins) = 0) :
    (k = 3 ∨ k = 4 → 1 ≤ n ∧ n ≤ 512 ∧ (items.length : Int) ≤ n ∧ ins.length = 1) ∧ (k = 5 ∨ k = 6 → 1 ≤ n ∧ n ≤ 512 ∧ (bits.length : Int) ≤ n) ∧ (k = 7 → items.length = ins.length ∧ 1 ≤ ins.length ∧ ins.length ≤ 16) := by
  obtain ⟨h1, h2, _⟩ := fit_split h
  obtain ⟨hk, hf, _, _⟩ := chk_mk hc
  rw [ofT_mk k n ins.length a b c d bits pb items pi pick _ rfl] at h2; simp only [onlyB_mk] at h2
  unfold okForm at hf
  have h9 : k = 1 ∨ k = 2 ∨ k = 3 ∨ k = 4 ∨ k = 5 ∨ k = 6 ∨ k = 7 ∨ k = 8 := by omega
  rcases h9 with rfl | rfl | rfl | rfl | rfl | rfl | rfl | rfl
  all_goals generalize items.length = I at *
  all_goals generalize bits.length = J at *
  all_goals generalize ins.length = K at *
  all_goals simp at h1 h2 hf ⊢
  all_goals omega
theorem need_bits {bits : List Bool} {n : Int} (h : (bits.length : Int) ≤ n) : (cutC (packB bits)).length ≤ (n.toNat + 255) / 256 := by
  rw [cutC_len]
  unfold cutN
  rw [packB_len]; omega
theorem rootV_len (v : Vl) : ∀ (t : Ty) (dp : Nat), chk t (dp : Int) = 0 → fitT v t = 0 → (rootV v t).length = 32 := by
  induction v using Vl.ind with
  | h a b c d bits pb items pi pick ih =>
  intro t dp hck hfit
  obtain ⟨k, n, p, ins⟩ := t
  obtain ⟨hk8, ho, h6, hci⟩ := chk_mk hck
  obtain ⟨hf1, hf2, hf3⟩ := fit_split hfit
  obtain ⟨q1, q2, q3⟩ := fit_more hck hfit
  have hxl : ∀ i, i < items.length → inX k pick i < ins.length := fun i hi => inX_lt (v := .mk a b c d bits pb items pi pick) hck hf2 hi
  have hrs : ∀ s ∈ rootL items k pick ins 0, s.length = 32 := fun s hs => by
    obtain ⟨j, x, h1, rfl⟩ := rootL_mem hs
    have hlt := (List.getElem?_eq_some_iff.1 h1).1
    rw [Nat.zero_add]
    have hty := inTy_get (hxl j hlt)
    exact ih x (List.mem_of_getElem? h1) _ (dp + 1) (hci _ hty.2) (by have := fitL_get hf3 h1; rwa [Nat.zero_add] at this)
  have hrl := rootL_len items k pick ins 0
  have hrow : k = 3 ∨ k = 4 ∨ k = 7 → (rowM k n ins items (rootL items k pick ins 0)).length = 32 := fun hk => by
    unfold rowM
    split
    · rename_i h7
      exact rootC_len (by have := q3 h7; omega) hrs
    · rename_i h7
      have := q1 (by omega)
      split
      · rename_i hp
        have hin0 : ins.getD 0 default ∈ ins := by
          match ins, this.2.2.2 with
          | [x], _ => exact List.mem_cons_self
        have hc0 : chk (ins.getD 0 default) 0 = 0 := chk_sub (chk_dn hck) _ hin0
        obtain ⟨f1, f2, f3, f4⟩ := plain_fix hc0 hp
        refine rootC_len ?_ (cutC_32 _); rw [cutC_len]
        unfold cutN
        have hz : ∀ v ∈ items, (putV v (ins.getD 0 default)).length = (sizT (ins.getD 0 default)).toNat := fun v hv => by
          obtain ⟨j, hj⟩ := List.getElem?_of_mem hv
          have hg := fitL_get hf3 hj
          rw [Nat.zero_add] at hg
          have he : inTy k pick ins j = ins.getD 0 default := by unfold inTy inX; rw [if_neg h7, if_neg (by omega)]
          rw [he] at hg
          have := f4 v hg
          omega
        rw [cat_len' hz]
        have hm : items.length * (sizT (ins.getD 0 default)).toNat ≤ n.toNat * (sizT (ins.getD 0 default)).toNat := Nat.mul_le_mul_right _ (by omega)
        omega
      · exact rootC_len (by omega) hrs
  rw [rootV_mk]
  split
  · exact leW_len _ (Nat.le_refl _)
  · split
    · exact kec_len _
    · split
      · rename_i h5
        exact rootC_len (need_bits (q2 (by omega)).2.2) (cutC_32 _)
      · split
        · exact kec_len _
        · split
          · exact kec_len _
          · exact hrow (by omega)
end Go.Proofs.YtlcbfphioeppaaaGreatDoor
namespace Go.Proofs.YtlcbfphioeppaaaGreatDoor
set_option linter.all false
open Go.SL Go.RowKit Go.Shelf
section
variable {c : Cx} {l : List (Nat × Value)} {L E : List (Nat × Obj)} {X : XP} {Q : Exit → Act → World → Prop} {d : List Deferred}
variable {ops : Array Oper} {rest : List Nat} {i k : Nat} {v : Value} {o : Oper} {tb : Kbs} {S : List (Nat × Obj)} {T : List (Nat × Obj) → Act → Prop}
theorem HB_callT {α : Type} {T0 L0 Rl : List (Nat × Obj)} {f : Operand} {args : Array Operand} {at_ : Array TypeId} {g : FuncId} {vs : List Value} {V : α → Value} {LL : α → List (Nat × Obj)} {ty : TypeId} {ps : String} {af : Array Edge} {gd : Option (Nat × Bool)}
    (hp : E.Perm (T0 ++ L0)) (hk : nth ops.toList k = some ⟨some i, .call ⟨.value f, args, at_⟩, ty, ps, af, gd⟩) (hg : goes l ops ⟨some i, .call ⟨.value f, args, at_⟩, ty, ps, af, gd⟩ = some true) (hi : Nat.ble (i + 1) c.n = true) (hA : tb k = .turn) (hca : callArgs l f args = some (g, vs)) (eg : Enters c.P g)
    (hpt : PureT c.P g vs.toArray V T0 LL Rl) (hR : ∀ p ∈ Rl, known c L0 p.1 p.2) (hS : ∀ x, SubS S (LL x ++ L0)) (h : ∀ x, HB c d ((i, V x) :: l) (LL x ++ L0) X S ops tb rest T) : HB c d l E X S ops tb (k :: rest) T := fun a hf => by
  refine ⟨_, nth_arr hk, ?_⟩; rw [hA]; refine .inl ⟨α, V, fun x => LL x ++ L0, ⟨goes_wanted hf hg, fun w hs => ?_⟩, fun x => ⟨hS x, h x _ (hf.put (Nat.le_of_ble_eq_true hi))⟩⟩
  have hs := hs.perm hp
  obtain ⟨hd1, _, hd3⟩ := List.pairwise_append.1 hs.distinct
  refine act_call hf hca eg ((hpt.run w (fun p hp => (hs.own p (List.mem_append_left _ hp)).2.2) (fun p hp => ?_) hd1 (fun p hp q hq => ?_)).mono fun _ _ ⟨x, he, hk, h1, h2⟩ => ⟨V x, he, x, rfl, hs.turnT hk h1 h2⟩)
  · exact (hR p hp).elim (fun h => (hs.own _ (List.mem_append_right _ h)).2.2) hs.readR
  · rcases hR p hp with h | h
    · exact fun e => hd3 q hq _ h e.symm
    · rintro e
      obtain ⟨h1, _, h3⟩ := hs.ext _ h
      have h3 := lt_of_some h3
      rcases (hs.own q (List.mem_append_left _ hq)).1 with h4 | h4
      · exact h1 (e ▸ h4)
      · simp only at h3 e; omega
end
/-! ### The roots of items; the root of bits -/
theorem rowNe {n : Nat} {xs : List Value} (h : xs.length = n) : rowOk 1 n xs (some (0, n, [])) := ⟨by rw [h, Nat.mul_one], by simp⟩
set_option maxRecDepth 10000 in
theorem T_mroots {R : List (Nat × Obj)} {k n : Int} {p : Pl} {ins : List Ty} {items : List Vl} {pi : Pl} (ht : Ty.In R (.mk k n p ins)) (h8 : k ≠ 8) (hs : Seg R items.length (vlsC items) pi) (hl : items.length ≤ 600) (hx : ∀ i, i < items.length → inX k 0 i < ins.length)
    (hb : ∀ (i : Nat) x, items[i]? = some x → PureR Tryz.prog 60 [(inTy k 0 ins i).val, x.val].toArray (strV (rootV x (inTy k 0 ins i))) R) :
    PureT (α := { row : Row // rowOk 1 items.length (chC (rootL items k 0 ins 0)) row }) Tryz.prog 112 [Ty.val (.mk k n p ins), plV items.length pi].toArray (fun x => rowV items.length x.1) [] (fun x => rowL 9 (chC (rootL items k 0 ins 0)) x.1) R := by
  cases ht with
  | @mk k n p ins hk hn hlt hst hit =>
  have hRL := rootL_len items k 0 ins 0
  obtain ⟨RS, hRS⟩ : ∃ x, x = rootL items k 0 ins 0 := ⟨_, rfl⟩
  have htk := fun i x (h : items[i]? = some x) => rootL_take k ins (i := 0) h
  simp only [← hRS, Nat.zero_add] at htk; rw [← hRS] at hRL ⊢; refine pureT_of_HC Tryz.func112 rfl rfl fun w => ?_; refine HC_seq fun K1 hK1 => HC_region ?_; refine HL_box (cs := #[_, _, _]) rfl rfl rfl rfl fun r1 => ?_; refine HLm rfl ?_; refine HL_nil (hK1 _ _ _ _ ?_); refine HC_seq fun K2 hK2 => HC_region ?_; refine HLm rfl ?_; refine HL_nil (hK2 _ _ _ _ ?_); refine HC_seq fun K3 hK3 => ?_; refine HC_seq fun K4 hK4 => HC_region ?_; refine HLm rfl (HL_r rfl rfl rfl rfl (R_lenPl rfl hs rfl) (HLm rfl ?_)); refine HL_nil (hK4 _ _ _ _ ?_); refine HC_block ?_; refine HC_loop (σ := Nat × Row) (fun q => q.1 ≤ items.length ∧ rowOk 1 q.1 (chC (RS.take q.1)) q.2) (fun q => [(2, pt0 r1), (5, rowV q.1 q.2), (9, plV items.length pi), (10, .int .i64 (items.length : Int)), (11, .int .i64 (q.1 : Int))]) (fun q => tBlk r1 (.mk k n p ins) :: rowL 9 (chC (RS.take q.1)) q.2) (fun _ _ _ => True) (fun q => items.length - q.1) (0, none) ⟨Nat.zero_le _, by rw [List.take_zero]; exact ⟨rfl, rfl⟩⟩ (.cons rfl (.cons rfl (.cons rfl (.cons rfl (.cons rfl .nil))))) (List.Sublist.refl _) (fun _ _ h => h) ?_; rintro ⟨i, row⟩ ⟨hi1, hrow⟩; simp only at hi1 hrow; change HC _ _ [(2, _), (5, rowV i row), (9, _), (10, _), (11, .int .i64 (i : Int))] ((r1, _) :: rowL _ (chC (RS.take i)) row) _ _ _; refine HC_seq fun K5 hK5 => HC_region ?_; refine HLp rfl ?_; refine HL_nil (hK5 _ _ _ _ ?_); refine HC_seq fun K6 hK6 => ?_; refine HC_cond rfl (fun h7 => ?_) (fun h7 => ?_)
  · try exact Bool.noConfusion h7
    try simp only [ZZ] at h7
    refine HC_skip (hK6 _ _ _ _ ?_); refine HC_seq fun K8 hK8 => HC_block ?_; refine HC_seq fun K9 hK9 => ?_
    have hil : i < items.length := by omega
    have hix := itm_get hil
    have hbi := hb i _ hix.1
    have hty := inTy_get (hx i hil)
    have hi0 : 0 < ins.length := Nat.lt_of_le_of_lt (Nat.zero_le _) (hx i hil)
    have hy0 : ins[0]? = some (ins.getD 0 default) := by rw [List.getD_eq_getElem?_getD, List.getElem?_eq_getElem hi0]; rfl
    have htki := htk i _ hix.1
    obtain ⟨sv, hsv⟩ : ∃ x, x = rootV (itm items i) (inTy k 0 ins i) := ⟨_, rfl⟩
    rw [← hsv] at hbi htki; refine HC_region (HLm rfl ?_)
    refine HL_r rfl rfl rfl rfl (R_indexPl (j := i) rfl hs rfl rfl rfl (by first | rfl | omega) (by omega)) ?_; refine HL_r rfl rfl rfl rfl (R_loadVl (fun q hq => Or.inr hq) rfl hs hix.1 rfl rfl) ?_; refine HL_alloc (cs := #[.int .u64 0, .int .u64 0, .int .u64 0, .int .u64 0, .slice none 0 0, .slice none 0 0, .int .i64 0]) rfl rfl rfl rfl fun rv => ?_; refine HLm rfl (HL_storeArr (k := 0) (n := 7) (ys := (itm items i).cells) rfl rfl rfl rfl rfl (itm items i).len rfl (itm items i).one rfl ?_); refine HL_nil (hK9 _ _ _ _ ?_); refine HC_seq fun K10 hK10 => HC_region ?_
    refine HL_r rfl rfl rfl rfl (R_fieldAddr rfl rfl (by first | (simp only [Nat.zero_add, Nat.reduceAdd, Nat.reduceMul, Nat.zero_mul, Nat.mul_one, Nat.add_zero]; exact rfl) | exact rfl)) ?_; refine HL_r rfl rfl rfl rfl (R_load rfl (known_L (k := 1) rfl) rfl rfl) ?_; refine HL_r rfl rfl rfl rfl (R_indexPl (j := 0) rfl hst rfl rfl rfl rfl (by omega)) ?_; refine HL_r rfl rfl rfl rfl (R_loadTy (fun q hq => Or.inr hq) rfl hst hy0 rfl rfl) ?_; refine HL_alloc (cs := #[.int .i64 0, .int .i64 0, .slice none 0 0]) rfl rfl rfl rfl fun rt => ?_; refine HL_storeArr (k := 0) (n := 3) (ys := (ins.getD 0 default).cells) rfl rfl rfl rfl rfl (ins.getD 0 default).len rfl (ins.getD 0 default).one rfl ?_; refine HL_nil (hK10 _ _ _ _ ?_); refine HC_seq fun K11 hK11 => ?_; refine HC_seq fun K12 hK12 => HC_region ?_
    refine HL_r rfl rfl rfl rfl (R_fieldAddr rfl rfl (by first | (simp only [Nat.zero_add, Nat.reduceAdd, Nat.reduceMul, Nat.zero_mul, Nat.mul_one, Nat.add_zero]; exact rfl) | exact rfl)) ?_; refine HL_r rfl rfl rfl rfl (R_load rfl (known_L (k := 2) rfl) rfl rfl) ?_; refine HLp rfl ?_; refine HL_nil (hK12 _ _ _ _ ?_); refine HC_cond rfl (fun h13 => ?_) (fun h13 => ?_)
    · try exact Bool.noConfusion h13
      try simp only [ZZ] at h13
      refine HC_region ?_
      refine HL_r rfl rfl rfl rfl (R_fieldAddr rfl rfl (by first | (simp only [Nat.zero_add, Nat.reduceAdd, Nat.reduceMul, Nat.zero_mul, Nat.mul_one, Nat.add_zero]; exact rfl) | exact rfl)) ?_; refine HL_r rfl rfl rfl rfl (R_load rfl (known_L (k := 2) rfl) rfl rfl) ?_; refine HLm rfl ?_; refine HL_r rfl rfl rfl rfl (R_indexPl (j := inX k 0 i) rfl hst rfl rfl rfl (by unfold inX; rw [if_pos (by assumption)]) (hx i hil)) ?_; refine HL_r rfl rfl rfl rfl (R_loadTy (fun q hq => Or.inr hq) rfl hst hty.1 rfl rfl) ?_; refine HL_storeArr (k := 0) (n := 3) (ys := (inTy k 0 ins i).cells) rfl rfl rfl rfl rfl (inTy k 0 ins i).len (by rw [List.size_toArray]; exact Ty.len _) (inTy k 0 ins i).one rfl ?_; refine HL_nil (hK11 _ _ _ _ ?_)
      (have h7 : k = 7 := by assumption
       skip)
      refine HC_region (HLm rfl (HL_r rfl rfl rfl rfl (R_loadArr (xs := (inTy k 0 ins i).cells) (n := 3) rfl (known_L (k := 0) rfl) rfl rfl (inTy k 0 ins i).len) ?_)); refine HL_r rfl rfl rfl rfl (R_loadArr (xs := (itm items i).cells) (n := 7) rfl (known_L (k := 1) rfl) rfl rfl (itm items i).len) ?_; refine HL_callR rfl rfl rfl (enters_of Tryz.func60 (by kernel_rfl) rfl) hbi (fun q hq => Or.inr hq) ?_; refine HL_buildSlice (vs := [_]) (zs := [_]) (r := [_]) rfl rfl rfl rfl rfl rfl rfl rfl rfl (by show (madeCells #[_] _).toList = _; rw [made_one]; exact rfl) rfl fun r2 => ?_; refine HL_appendRow (L0 := [_, _, _, _]) (xs := chC (RS.take i)) (row := row) (n := i) (sz := 1) (b := 16) (news := [strV sv]) (List.perm_append_comm (l₁ := [_, _, _, _])) rfl rfl rfl rfl (known_L (k := 0) rfl) rfl rfl rfl rfl rfl (by decide) rfl rfl rfl (by decide) hrow (by omega) (by omega) fun ra cap sp hra => ?_; refine HLm rfl (HL_nil ?_); refine HQ_blockN (hK8 _ _ _ _ ?_); refine HC_region ?_
      refine HLp rfl ?_; refine HL_as (show _ = Value.int .i64 ((i + 1 : Nat) : Int) from by rw [wrap_i64 (by omega) (by omega)]; congr 1 <;> omega) ?_; refine HLm rfl (HL_nil (HQ_then ?_)); refine HQ_sel [4, 0] (L' := [_, _]) (by decide) rfl ?_; exact HQ_again (i + 1, some (ra, cap, sp)) ⟨by simp only; omega, by simp only; rw [htki, chC_snoc]; exact hra⟩ (by simp only; omega) (.cons rfl (.cons rfl (.cons rfl (.cons rfl (.cons rfl .nil))))) (by simp only; rw [htki, chC_snoc]; exact List.Sublist.refl _) (fun _ _ h => h)
    · try exact Bool.noConfusion h13
      try simp only [ZZ] at h13
      refine HC_skip (hK11 _ _ _ _ ?_)
      (have h7 : ¬ k = 7 := by assumption
       have e : ins.getD 0 default = inTy k 0 ins i := by unfold inTy inX; rw [if_neg h7, if_neg h8]
       rw [e])
      refine HC_region (HLm rfl (HL_r rfl rfl rfl rfl (R_loadArr (xs := (inTy k 0 ins i).cells) (n := 3) rfl (known_L (k := 0) rfl) rfl rfl (inTy k 0 ins i).len) ?_)); refine HL_r rfl rfl rfl rfl (R_loadArr (xs := (itm items i).cells) (n := 7) rfl (known_L (k := 1) rfl) rfl rfl (itm items i).len) ?_; refine HL_callR rfl rfl rfl (enters_of Tryz.func60 (by kernel_rfl) rfl) hbi (fun q hq => Or.inr hq) ?_; refine HL_buildSlice (vs := [_]) (zs := [_]) (r := [_]) rfl rfl rfl rfl rfl rfl rfl rfl rfl (by show (madeCells #[_] _).toList = _; rw [made_one]; exact rfl) rfl fun r3 => ?_; refine HL_appendRow (L0 := [_, _, _, _]) (xs := chC (RS.take i)) (row := row) (n := i) (sz := 1) (b := 16) (news := [strV sv]) (List.perm_append_comm (l₁ := [_, _, _, _])) rfl rfl rfl rfl (known_L (k := 0) rfl) rfl rfl rfl rfl rfl (by decide) rfl rfl rfl (by decide) hrow (by omega) (by omega) fun ra cap sp hra => ?_; refine HLm rfl (HL_nil ?_); refine HQ_blockN (hK8 _ _ _ _ ?_); refine HC_region ?_
      refine HLp rfl ?_; refine HL_as (show _ = Value.int .i64 ((i + 1 : Nat) : Int) from by rw [wrap_i64 (by omega) (by omega)]; congr 1 <;> omega) ?_; refine HLm rfl (HL_nil (HQ_then ?_)); refine HQ_sel [4, 0] (L' := [_, _]) (by decide) rfl ?_; exact HQ_again (i + 1, some (ra, cap, sp)) ⟨by simp only; omega, by simp only; rw [htki, chC_snoc]; exact hra⟩ (by simp only; omega) (.cons rfl (.cons rfl (.cons rfl (.cons rfl (.cons rfl .nil))))) (by simp only; rw [htki, chC_snoc]; exact List.Sublist.refl _) (fun _ _ h => h)
  · try exact Bool.noConfusion h7
    try simp only [ZZ] at h7
    refine HC_exit (HQ_thenE ?_); refine HQ_thenE (HQ_blockE (hK3 _ _ _ _ ?_)); refine HC_seq fun K14 hK14 => ?_
    obtain rfl : i = items.length := by omega
    rw [List.take_of_length_le (by omega)] at hrow ⊢; refine HC_region (HLm rfl (HLm rfl ?_)); refine HL_nil (hK14 _ _ _ _ ?_); refine HC_ret ?_; refine HQ_post rfl rfl (.cons (res_tmp rfl) .nil) (fun w1 hs1 => ?_); exact ⟨⟨row, hrow⟩, rfl, hs1.weakL (.cons _ (List.Sublist.refl _))⟩
end Go.Proofs.YtlcbfphioeppaaaGreatDoor
namespace Go.Proofs.YtlcbfphioeppaaaGreatDoor
set_option linter.all false
open Go.SL Go.RowKit Go.Shelf
/-! ### Rows of chunks; whether a type is a number's; the root of bits -/
abbrev RowOf (l : List BS) : Type := { row : Row // rowOk 1 l.length (chC l) row }
def rowP0 (l : List BS) : RowOf l := ⟨some (0, l.length, []), rowNe (by unfold chC; rw [List.length_map])⟩
abbrev rV {l : List BS} (x : RowOf l) : Value := plV l.length (rowP x.1)
abbrev rL {l : List BS} (x : RowOf l) : List (Nat × Obj) := rowL 9 (chC l) x.1
theorem rV_eq {l : List BS} (x : RowOf l) : rV x = rowV l.length x.1 := rowP_V _ _ fun h => by
  have h2 := x.2
  rw [h] at h2; exact h2.1
theorem rV_fun (l : List BS) : (fun x : RowOf l => rV x) = fun x => rowV l.length x.1 := funext fun x => rV_eq x
theorem T_cutP {s : BS} (hl : s.length ≤ 1000000) : PureT (α := RowOf (cutC s)) Tryz.prog 183 [strV s].toArray (fun x => rV x) [] (fun x => rL x) [] := by
  have h := T_cut hl
  rw [← cutC_len] at h; rw [rV_fun]; exact h
theorem T_rchunksP {s : BS} (hl : s.length ≤ 1000000) : PureT (α := RowOf (cutC s)) Tryz.prog 115 [strV s].toArray (fun x => rV x) [] (fun x => rL x) [] := by
  have h := T_rchunks hl
  rw [← cutC_len] at h; rw [rV_fun]; exact h
theorem T_mrootsP {R : List (Nat × Obj)} {k n : Int} {p : Pl} {ins : List Ty} {items : List Vl} {pi : Pl} (ht : Ty.In R (.mk k n p ins)) (h8 : k ≠ 8) (hs : Seg R items.length (vlsC items) pi) (hl : items.length ≤ 600) (hx : ∀ i, i < items.length → inX k 0 i < ins.length)
    (hb : ∀ (i : Nat) x, items[i]? = some x → PureR Tryz.prog 60 [(inTy k 0 ins i).val, x.val].toArray (strV (rootV x (inTy k 0 ins i))) R) :
    PureT (α := RowOf (rootL items k 0 ins 0)) Tryz.prog 112 [Ty.val (.mk k n p ins), plV items.length pi].toArray (fun x => rV x) [] (fun x => rL x) R := by
  have h := T_mroots ht h8 hs hl hx hb
  rw [rV_fun]
  have e := rootL_len items k 0 ins 0
  generalize rootL items k 0 ins 0 = RS at h e ⊢
  rw [← e] at h; rw [← e]; exact h
set_option maxRecDepth 10000 in
theorem P_mplain (t : Ty) : Pure Tryz.prog 182 [t.val].toArray (.bool (plainT t)) := by
  obtain ⟨k, n, p, ins⟩ := t
  refine pure_of_HC Tryz.func182 rfl rfl fun w => ?_; refine HC_seq fun K1 hK1 => HC_region ?_; refine HL_box (cs := #[_, _, _]) rfl rfl rfl rfl fun r1 => ?_; refine HLm rfl ?_; refine HL_nil (hK1 _ _ _ _ ?_); clear hK1 K1; refine HC_seq fun K2 hK2 => HC_region ?_
  refine HL_r rfl rfl rfl rfl (R_fieldAddr rfl rfl (by first | (simp only [Nat.zero_add, Nat.reduceAdd, Nat.reduceMul, Nat.zero_mul, Nat.mul_one, Nat.add_zero]; exact rfl) | exact rfl)) ?_; refine HL_r rfl rfl rfl rfl (R_load rfl (known_L (k := 0) rfl) rfl rfl) ?_; refine HLp rfl (HLm rfl ?_)
  refine HL_case 6 rfl (fun hb3 => ?_) (fun hb3 => ?_) <;> (try simp only [ZZ] at hb3) <;> first | (refine HL_r rfl rfl rfl rfl (R_fieldAddr rfl rfl (by first | (simp only [Nat.zero_add, Nat.reduceAdd, Nat.reduceMul, Nat.zero_mul, Nat.mul_one, Nat.add_zero]; exact rfl) | exact rfl)) ?_) | (refine HL_skip rfl rfl rfl ?_)
  all_goals first
    | (refine HL_r rfl rfl rfl rfl (R_load rfl (known_L (k := 0) rfl) rfl rfl) ?_)
    | (refine HL_skip rfl rfl rfl ?_)
  all_goals first
    | (refine HLp rfl ?_)
    | (refine HL_skip rfl rfl rfl ?_)
  all_goals first
    | (refine HL_r rfl rfl rfl rfl (R_pickT rfl rfl) ?_)
    | (refine HL_r rfl rfl rfl rfl (R_pickF rfl rfl) ?_)
  all_goals refine HLm rfl ?_
  all_goals refine HL_nil ?_
  all_goals (
   refine hK2 _ _ _ _ ?_; clear hK2 K2; refine HC_ret ?_; refine HQ_post rfl rfl (.cons (res_tmp rfl) .nil) (fun w1 hs1 => ?_); refine ⟨?_, hs1.keep⟩
   simp_all [resVal, plainT, Ty.k]
   all_goals first | done | rfl
   skip)
theorem need_8 (n : Nat) : ((n + 7) / 8 + 31) / 32 = (n + 255) / 256 := by omega
set_option maxRecDepth 10000 in
theorem S_mbits {R : List (Nat × Obj)} {l : List Bool} {k : Int} {n : Nat} {p pb : Pl} {ins : List Ty} (hl : l.length ≤ n) (hn : n ≤ 512) (hs : Seg R l.length (bitsC l) pb) :
    PureR Tryz.prog 109 [Ty.val (.mk k (n : Int) p ins), plV l.length pb].toArray (strV (rootC (cutC (packB l)) ((n + 255) / 256))) R := by
  obtain ⟨N, hN⟩ : ∃ N, N = (l.length + 7) / 8 := ⟨_, rfl⟩
  have hpB : packB l = packS l N l.length := by rw [hN]; rfl
  have hnb := need_bits (bits := l) (n := (n : Int)) (by omega)
  rw [Int.toNat_natCast] at hnb
  have hc32 := cutC_32 (packB l)
  have hcut := T_cutP (s := packB l) (by rw [packB_len]; omega)
  rw [hpB] at hnb hc32 hcut ⊢; refine pureR_of_HC Tryz.func109 rfl rfl fun w => ?_; refine HC_seq fun K1 hK1 => HC_region ?_; refine HL_box (cs := #[_, _, _]) rfl rfl rfl rfl fun r1 => ?_; refine HLm rfl ?_; refine HL_nil (hK1 _ _ _ _ ?_); clear hK1 K1; refine HC_seq fun K2 hK2 => HC_region ?_; refine HLm rfl (HL_r rfl rfl rfl rfl (R_lenPl rfl hs rfl) ?_)
  refine HLp rfl ?_; refine HL_as (show _ = Value.int .i64 ((l.length + 8 : Nat) : Int) from by rw [wrap_i64 (by omega) (by omega)]; congr 1 <;> omega) ?_
  refine HLp rfl ?_; refine HL_as (show _ = Value.int .i64 ((l.length + 7 : Nat) : Int) from by rw [wrap_i64 (by omega) (by omega)]; congr 1 <;> omega) ?_; refine HLp rfl ?_; refine HL_as (show _ = Value.int .i64 ((N : Nat) : Int) from congrArg (Value.int .i64) (by rw [quo_i64 (by omega) (by decide) (by omega), hN]; rfl)) ?_; refine HL_make (n := N) (b := 1) rfl rfl rfl rfl rfl rfl rfl rfl rfl (by omega) (by omega) fun rm => ?_; rw [show List.replicate N (Value.int .u8 0) = (packS l N 0).map bV from by rw [packS, List.map_replicate]; rfl]; refine HLm rfl ?_; refine HL_nil (hK2 _ _ _ _ ?_); clear hK2 K2; refine HC_seq fun K3 hK3 => ?_; refine HC_seq fun K4 hK4 => HC_region ?_; refine HLm rfl (HL_r rfl rfl rfl rfl (R_lenPl rfl hs rfl) (HLm rfl ?_)); refine HL_nil (hK4 _ _ _ _ ?_); clear hK4 K4; refine HC_block (HC_loop (σ := Nat) (fun i => i ≤ l.length) (fun i => [(2, pt0 r1), (5, .slice (some ⟨rm, 0, none⟩) N N), (14, plV l.length pb), (15, .int .i64 (l.length : Int)), (16, .int .i64 (i : Int))]) (fun i => [(rm, .cells ((packS l N i).map bV).toArray 5 (0, 0)), tBlk r1 (.mk k (n : Int) p ins)]) (fun _ _ _ => True) (fun i => l.length - i) 0 (Nat.zero_le _) (.cons rfl (.cons rfl (.cons rfl (.cons rfl (.cons rfl .nil))))) (List.Sublist.refl _) (fun _ _ h => h) ?_); intro i hi1; change HC _ _ _ ((rm, _) :: (r1, _) :: []) _ _ _; refine HC_seq fun K5 hK5 => HC_region ?_; refine HLp rfl ?_; refine HL_nil (hK5 _ _ _ _ ?_); clear hK5 K5; refine HC_seq fun K6 hK6 => ?_; refine HC_cond rfl (fun h7 => ?_) (fun h7 => ?_)
  · try exact Bool.noConfusion h7
    try simp only [ZZ] at h7
    refine HC_skip (hK6 _ _ _ _ ?_); clear hK6 K6; refine HC_seq fun K8 hK8 => HC_block ?_; refine HC_seq fun K9 hK9 => ?_
    have hil : i < l.length := by omega
    have hi8 : i / 8 < N := by omega
    have hyb : l[i]? = some (l.getD i false) := by rw [List.getD_eq_getElem?_getD, List.getElem?_eq_getElem hil]; rfl
    refine HC_region (HLm rfl ?_)
    refine HL_r rfl rfl rfl rfl (R_indexPl (j := i) rfl hs rfl rfl rfl (by first | rfl | omega) (by omega)) ?_; refine HL_r rfl rfl rfl rfl (R_loadBit (fun q hq => Or.inr hq) rfl hs hyb rfl) ?_; refine HLm rfl (HLm rfl ?_); refine HL_nil (hK9 _ _ _ _ ?_); clear hK9 K9; refine HC_seq fun K10 hK10 => HC_region ?_; refine HLm rfl ?_; refine HL_nil (hK10 _ _ _ _ ?_); clear hK10 K10; refine HC_cond rfl (fun h11 => ?_) (fun h11 => ?_)
    · try exact Bool.noConfusion h11
      try simp only [ZZ] at h11
      have hbt : l.getD i false = true := by assumption
      have hst1 : packS l N (i + 1) = (packS l N i).set (i / 8) (UInt8.ofNat (((packS l N i).getD (i / 8) 0).toNat ||| 2 ^ (i % 8))) := by rw [packS, if_pos hbt]
      obtain ⟨Y, hY⟩ : ∃ Y, Y = packS l N i := ⟨_, rfl⟩
      have hYl : Y.length = N := by rw [hY]; exact packS_len l N i
      rw [← hY] at hst1 ⊢
      refine HC_drawB [] [(0, .pure), (1, .pure), (2, .pure), (3, .pure), (5, .pure), (6, .pure), (7, .pure), (8, .pure), (9, .pure), (10, .turn)] 11 [0, 1, 2, 3, 4, 5, 6, 7, 8, 9, 10] (by kernel_rfl) (by kernel_rfl) (by first | exact (fun _ h => nomatch h) | simp [SubS] | (intro p hp; simp [hp])) ?_; refine HB_p (k := 0) rfl rfl rfl rfl rfl (fun _ hS => (R_move rfl)) ?_; refine HB_p (k := 1) rfl rfl rfl rfl rfl (fun _ hS => (R_move rfl)) ?_
      refine HB_p (k := 2) rfl rfl rfl rfl rfl (fun _ _ => (R_pure rfl rfl rfl)) ?_; refine HB_as (show _ = Value.int .i64 ((i / 8 : Nat) : Int) from congrArg (Value.int .i64) (by first | exact rem_nat _ _ | exact quo_i64 (by omega) (by decide) (by omega) | (rw [wrap_i64 (by omega) (by omega)]; omega))) ?_; refine HB_p (k := 3) rfl rfl rfl rfl rfl (fun _ _ => R_indexS (j := (i / 8)) (m := 1) (off' := (i / 8)) rfl rfl rfl rfl (by omega) (by omega) (by omega)) ?_; refine HB_r (k := 4) rfl rfl rfl rfl rfl (R_load rfl (known_L (k := 0) rfl) rfl (by rw [nth_eq]; exact mapV_get (by omega))) ?_; refine HB_p (k := 5) rfl rfl rfl rfl rfl (fun _ hS => (R_move rfl)) ?_
      refine HB_p (k := 6) rfl rfl rfl rfl rfl (fun _ _ => (R_pure rfl rfl rfl)) ?_; refine HB_as (show _ = Value.int .i64 ((i % 8 : Nat) : Int) from congrArg (Value.int .i64) (by first | exact rem_nat _ _ | exact quo_i64 (by omega) (by decide) (by omega) | (rw [wrap_i64 (by omega) (by omega)]; omega))) ?_; refine HB_p (k := 7) rfl rfl rfl rfl rfl (fun _ _ => R_shl (n := i % 8) (b := ((2 ^ (i % 8) : Nat) : Int)) rfl rfl rfl (show _ ≤ 8 from by omega) (shl_u8 (by omega))) ?_; refine HB_p (k := 8) rfl rfl rfl rfl rfl (fun _ _ => R_bits8 (op := .or) (m := (Y.getD (i / 8) 0).toNat) (n := 2 ^ (i % 8)) rfl rfl rfl (u8_lt _) (Nat.pow_lt_pow_right (by decide) (by omega) : 2 ^ (i % 8) < 2 ^ 8) rfl) ?_; refine HB_as (or_byte _ (by omega)) ?_; refine HB_p (k := 9) rfl rfl rfl rfl rfl (fun _ _ => R_indexS (j := (i / 8)) (m := 1) (off' := (i / 8)) rfl rfl rfl rfl (by omega) (by omega) (by omega)) ?_; refine HB_store (k := 10) (q := 0) (cs' := ((packS l N (i + 1)).map bV).toArray) rfl rfl rfl rfl rfl rfl rfl rfl (by simp; omega) (by rw [set_mapV0, hst1]) rfl (fun _ h => nomatch h) ?_; refine HB_end ?_; refine HL_nil ?_; refine HQ_blockN (hK8 _ _ _ _ ?_); clear hK8 K8; refine HC_region ?_
      refine HLp rfl ?_; refine HL_as (show _ = Value.int .i64 ((i + 1 : Nat) : Int) from by rw [wrap_i64 (by omega) (by omega)]; congr 1 <;> omega) ?_; refine HLm rfl (HL_nil (HQ_then ?_)); exact HQ_again (i + 1) (by omega) (by omega) (.cons rfl (.cons rfl (.cons rfl (.cons rfl (.cons rfl .nil))))) (List.Sublist.refl _) (fun _ _ h => h)
    · try exact Bool.noConfusion h11
      try simp only [ZZ] at h11
      refine HC_skip (HQ_blockN (hK8 _ _ _ _ ?_)); clear hK8 K8; refine HC_region ?_
      refine HLp rfl ?_; refine HL_as (show _ = Value.int .i64 ((i + 1 : Nat) : Int) from by rw [wrap_i64 (by omega) (by omega)]; congr 1 <;> omega) ?_; refine HLm rfl (HL_nil (HQ_then ?_))
      (have hst0 : packS l N (i + 1) = packS l N i := by rw [packS, if_neg (by simp_all)]
       exact HQ_again (i + 1) (by omega) (by omega) (.cons rfl (.cons rfl (.cons rfl (.cons rfl (.cons rfl .nil))))) (by rw [hst0]; exact List.Sublist.refl _) (fun _ _ h => h))
  · try exact Bool.noConfusion h7
    try simp only [ZZ] at h7
    refine HC_exit (HQ_thenE ?_); clear hK6 K6; refine HQ_thenE (HQ_blockE (hK3 _ _ _ _ ?_)); clear hK3 K3; refine HC_seq fun K12 hK12 => ?_
    obtain rfl : i = l.length := by omega
    refine HC_drawB [] [(0, .pure), (2, .grow (geCall (rowP0 (cutC (packS l N l.length))) (fun x => rV x) (fun x => rL x))), (3, .pure), (5, .pure), (6, .pure), (7, .pure), (8, .pure), (10, .pure)] 11 [0, 1, 3, 4, 5, 6, 7, 2, 8, 9, 10] (by kernel_rfl) (by kernel_rfl) (by first | exact (fun _ h => nomatch h) | simp [SubS] | (intro p hp; simp [hp])) ?_; refine HB_p (k := 0) rfl rfl rfl rfl rfl (fun _ hS => (R_move rfl)) ?_; refine HB_r (k := 1) rfl rfl rfl rfl rfl (R_bytesStr (b := packS l N l.length) (row := some (rm, N, [])) (e := 5) (show _ = some (rowV (packS l N l.length).length _) from by rw [packS_len]; rfl) ⟨by rw [List.length_map]; omega, by rw [packS_len]; simp⟩ (fun p hp => .inl (by rw [List.mem_singleton.1 hp, List.append_nil]; exact List.mem_cons_self)) rfl rfl rfl) ?_
    refine HB_p (k := 3) rfl rfl rfl rfl rfl (fun _ hS => (R_fieldAddr rfl rfl (by first | (simp only [Nat.zero_add, Nat.reduceAdd, Nat.reduceMul, Nat.zero_mul, Nat.mul_one, Nat.add_zero]; exact rfl) | exact rfl))) ?_; refine HB_r (k := 4) rfl rfl rfl rfl rfl (R_load rfl (known_L (k := 1) rfl) rfl rfl) ?_
    refine HB_p (k := 5) rfl rfl rfl rfl rfl (fun _ _ => (R_pure rfl rfl rfl)) ?_; refine HB_as (show _ = Value.int .i64 ((n + 8 : Nat) : Int) from congrArg (Value.int .i64) (by first | exact rem_nat _ _ | exact quo_i64 (by omega) (by decide) (by omega) | (rw [wrap_i64 (by omega) (by omega)]; omega))) ?_
    refine HB_p (k := 6) rfl rfl rfl rfl rfl (fun _ _ => (R_pure rfl rfl rfl)) ?_; refine HB_as (show _ = Value.int .i64 ((n + 7 : Nat) : Int) from congrArg (Value.int .i64) (by first | exact rem_nat _ _ | exact quo_i64 (by omega) (by decide) (by omega) | (rw [wrap_i64 (by omega) (by omega)]; omega))) ?_
    refine HB_p (k := 7) rfl rfl rfl rfl rfl (fun _ _ => (R_pure rfl rfl rfl)) ?_; refine HB_as (show _ = Value.int .i64 (((n + 7) / 8 : Nat) : Int) from congrArg (Value.int .i64) (by first | exact rem_nat _ _ | exact quo_i64 (by omega) (by decide) (by omega) | (rw [wrap_i64 (by omega) (by omega)]; omega))) ?_; refine HB_callRE (k := 2) rfl rfl rfl rfl rfl (enters_of Tryz.func183 (by kernel_rfl) rfl) hcut (fun q hq => nomatch hq) fun x => ?_; refine HB_callP (k := 8) rfl rfl rfl rfl rfl (enters_of Tryz.func184 (by kernel_rfl) rfl) (P_need (n := (n + 7) / 8) (by omega)) ?_; rw [need_8]; refine HB_callR (k := 9) rfl rfl rfl rfl rfl (enters_of Tryz.func54 (by kernel_rfl) rfl) (S_mtree hnb (by omega) (rowP_seg x.2 (by decide)) hc32) (fun q hq => .inl (List.mem_append_left _ hq)) ?_; refine HB_p (k := 10) rfl rfl rfl rfl rfl (fun _ hS => (R_assign rfl)) ?_; refine HB_end ?_; refine HL_nil (hK12 _ _ _ _ ?_); clear hK12 K12; refine HC_ret ?_; refine HQ_post rfl rfl (.cons (res_tmp rfl) .nil) (fun w1 hs1 => ?_); exact ⟨rfl, hs1.keep⟩
end Go.Proofs.YtlcbfphioeppaaaGreatDoor
namespace Go.Proofs.YtlcbfphioeppaaaGreatDoor
set_option linter.all false
open Go.SL Go.RowKit Go.Shelf
/-! ### The root of a row of one type -/
section
variable {c : Cx} {l : List (Nat × Value)} {L E : List (Nat × Obj)} {X : XP} {Q : Exit → Act → World → Prop} {d : List Deferred}
variable {ops : Array Oper} {rest : List Nat} {i k : Nat} {v : Value} {o : Oper} {tb : Kbs} {S : List (Nat × Obj)} {T : List (Nat × Obj) → Act → Prop}
theorem HB_callRP {f : Operand} {args : Array Operand} {at_ : Array TypeId} {g : FuncId} {vs : List Value} {Rl : List (Nat × Obj)} {ty : TypeId} {ps : String} {af : Array Edge} {gd : Option (Nat × Bool)}
    (hk : nth ops.toList k = some ⟨some i, .call ⟨.value f, args, at_⟩, ty, ps, af, gd⟩) (hg : goes l ops ⟨some i, .call ⟨.value f, args, at_⟩, ty, ps, af, gd⟩ = some true) (hi : Nat.ble (i + 1) c.n = true) (hA : tb k = .pure) (hca : callArgs l f args = some (g, vs)) (eg : Enters c.P g)
    (hp : PureR c.P g vs.toArray v Rl) (hR : ∀ p ∈ Rl, p ∈ S ∨ p ∈ c.R) (h : HB c d ((i, v) :: l) E X S ops tb rest T) : HB c d l E X S ops tb (k :: rest) T := fun a hf => by
  refine ⟨_, nth_arr hk, ?_⟩; rw [hA]; exact ⟨v, .inl ⟨goes_wanted hf hg, fun E' hE' w hs => act_call hf hca eg ((hp.run w fun p hp => (hR p hp).elim (fun h => (hs.own _ (hE' p h)).2.2) hs.readR).mono fun _ _ ⟨he, hk⟩ => ⟨v, he, rfl, hk⟩)⟩, h _ (hf.put (Nat.le_of_ble_eq_true hi))⟩
end
theorem inTy_one {k : Int} (h7 : k ≠ 7) (h8 : k ≠ 8) (x : Ty) (i : Nat) : inTy k 0 [x] i = x := by unfold inTy inX; rw [if_neg h7, if_neg h8]; rfl
theorem catB_take {l : List Vl} {x : Ty} {i : Nat} {v : Vl} (h : l[i]? = some v) : catB (l.take (i + 1)) x = catB (l.take i) x ++ putV v x := by
  unfold catB
  rw [List.take_add_one, h]
  simp
theorem catB_le {x : Ty} : ∀ {l : List Vl}, (∀ v ∈ l, (putV v x).length ≤ 32) → (catB l x).length ≤ 32 * l.length
  | [], _ => by unfold catB; simp
  | v :: l, h => by
    have ih := catB_le (l := l) fun y hy => h y (List.mem_cons_of_mem _ hy)
    have h1 := h v List.mem_cons_self
    unfold catB at ih ⊢
    rw [List.map_cons, List.flatten_cons, List.length_append, List.length_cons]; omega
theorem putR_plain {x : Ty} {v : Vl} (hc : chk x 0 = 0) (hp : plainT x = true) (hf : fitT v x = 0) : putR x v = (putV v x, 0) ∧ (putV v x).length ≤ 32 := by
  obtain ⟨f1, f2, f3, f4⟩ := plain_fix hc hp
  have h1 := f4 v hf
  have h2 : (putV v x).length ≤ 32 := by omega
  have h3 : fitsT x v = 0 := by unfold fitsT; rw [if_pos hc]; exact hf
  unfold putR
  rw [if_neg (by rw [h3]; simp), if_neg (by omega)]; exact ⟨rfl, h2⟩
set_option maxHeartbeats 1000000 in
set_option maxRecDepth 10000 in
theorem S_mrow {R : List (Nat × Obj)} {k : Int} {n : Nat} {p pi : Pl} {x0 : Ty} {items : List Vl} (ht : Ty.In R (.mk k (n : Int) p [x0])) (h7 : k ≠ 7) (h8 : k ≠ 8) (hc : chk x0 0 = 0) (hs : Seg R items.length (vlsC items) pi) (hl : items.length ≤ n) (hn : n ≤ 512)
    (hfit : ∀ v ∈ items, fitT v x0 = 0) (hw : ∀ v ∈ items, wV v ≤ 20000) (hIn : ∀ v ∈ items, v.In R)
    (hb : ∀ (i : Nat) x, items[i]? = some x → PureR Tryz.prog 60 [x0.val, x.val].toArray (strV (rootV x x0)) R) :
    PureR Tryz.prog 105 [Ty.val (.mk k (n : Int) p [x0]), plV items.length pi].toArray (strV (rowM k (n : Int) [x0] items (rootL items k 0 [x0] 0))) R := by
  have hro := T_mrootsP ht h8 hs (by omega) (fun i _ => by unfold inX; rw [if_neg h7, if_neg h8]; exact Nat.lt_succ_self 0) (fun i x hx => by rw [inTy_one h7 h8]; exact hb i x hx)
  have hrl := rootL_len items k 0 [x0] 0
  have hr32 : ∀ s ∈ rootL items k 0 [x0] 0, s.length = 32 := fun s hs => by
    obtain ⟨j, x, h1, rfl⟩ := rootL_mem hs
    rw [inTy_one h7 h8]; exact rootV_len x x0 0 hc (hfit x (List.mem_of_getElem? h1))
  have hrt := fun (x : RowOf (rootL items k 0 [x0] 0)) => S_mtree (m := n) (by omega) (by omega) (rowP_seg (e := 9) x.2 (by decide)) hr32
  have hM : rowM k (n : Int) [x0] items (rootL items k 0 [x0] 0) = if plainT x0 = true then rootC (cutC (catB items x0)) ((n * (sizT x0).toNat + 31) / 32) else rootC (rootL items k 0 [x0] 0) n := by
    unfold rowM
    rw [if_neg h7]; rfl
  rw [hM]
  have hx0 := ht.sub x0 List.mem_cons_self
  have ht2 := ht
  cases ht with
  | @mk k n p ins hk hn2 hlt hst hit =>
  have hpl := P_mplain x0
  refine pureR_of_HC Tryz.func105 rfl rfl fun w => ?_; refine HC_seq fun K1 hK1 => HC_region ?_; refine HL_box (cs := #[_, _, _]) rfl rfl rfl rfl fun r1 => ?_; refine HLm rfl ?_; refine HL_nil (hK1 _ _ _ _ ?_); refine HC_seq fun K2 hK2 => ?_; refine HC_seq fun K3 hK3 => HC_region ?_
  refine HL_r rfl rfl rfl rfl (R_fieldAddr rfl rfl (by first | (simp only [Nat.zero_add, Nat.reduceAdd, Nat.reduceMul, Nat.zero_mul, Nat.mul_one, Nat.add_zero]; exact rfl) | exact rfl)) ?_; refine HL_r rfl rfl rfl rfl (R_load rfl (known_L (k := 0) rfl) rfl rfl) ?_
  refine HL_r rfl rfl rfl rfl (R_indexPl (j := 0) rfl hst rfl rfl rfl (by first | rfl | omega) (Nat.lt_succ_self 0)) ?_; refine HL_r rfl rfl rfl rfl (R_loadTy (fun q hq => Or.inr hq) rfl hst (show [x0][0]? = some x0 from rfl) rfl rfl) ?_; refine HL_callP rfl rfl rfl (enters_of Tryz.func182 (by kernel_rfl) rfl) hpl ?_; refine HLp rfl ?_; refine HL_nil (hK3 _ _ _ _ ?_); refine HC_cond rfl (fun h4 => ?_) (fun h4 => ?_)
  · try exact Bool.noConfusion h4
    try simp only [ZZ] at h4
    refine HC_seq fun K5 hK5 => ?_
    refine HC_drawB [] [(1, .pure), (2, .grow (geCall (rowP0 (rootL items k 0 [x0] 0)) (fun x => rV x) (fun x => rL x))), (3, .pure), (6, .pure)] 7 [0, 1, 3, 4, 2, 5, 6] (by kernel_rfl) (by kernel_rfl) (by first | exact (fun _ h => nomatch h) | simp [SubS] | (intro p hp; simp [hp])) ?_; refine HB_r (k := 0) rfl rfl rfl rfl rfl (R_loadArr (xs := (Ty.mk k (n : Int) p [x0]).cells) (n := 3) rfl (known_L (k := 0) rfl) rfl rfl (Ty.mk k (n : Int) p [x0]).len) ?_; refine HB_p (k := 1) rfl rfl rfl rfl rfl (fun _ hS => (R_move rfl)) ?_
    refine HB_p (k := 3) rfl rfl rfl rfl rfl (fun _ hS => (R_fieldAddr rfl rfl (by first | (simp only [Nat.zero_add, Nat.reduceAdd, Nat.reduceMul, Nat.zero_mul, Nat.mul_one, Nat.add_zero]; exact rfl) | exact rfl))) ?_; refine HB_r (k := 4) rfl rfl rfl rfl rfl (R_load rfl (known_L (k := 0) rfl) rfl rfl) ?_; refine HB_callRE (k := 2) rfl rfl rfl rfl rfl (enters_of Tryz.func112 (by kernel_rfl) rfl) hro (fun q hq => .inr hq) fun x => ?_; refine HB_callR (k := 5) rfl rfl rfl rfl rfl (enters_of Tryz.func54 (by kernel_rfl) rfl) (hrt x) (fun q hq => .inl (List.mem_append_left _ hq)) ?_; refine HB_p (k := 6) rfl rfl rfl rfl rfl (fun _ hS => (R_assign rfl)) ?_; refine HB_end ?_; refine HL_nil (hK5 _ _ _ _ ?_); refine HC_ret (HQ_thenR ?_); refine HQ_post rfl rfl (.cons (res_tmp rfl) .nil) (fun w1 hs1 => ?_); refine ⟨?_, hs1.keep⟩; rw [if_neg (by rw [Bool.not_eq_true]; assumption)]; rfl
  · try exact Bool.noConfusion h4
    try simp only [ZZ] at h4
    refine HC_skip (hK2 _ _ _ _ ?_); refine HC_seq fun K6 hK6 => ?_
    have hp : plainT x0 = true := by assumption
    obtain ⟨f1, f2, f3, f4⟩ := plain_fix hc hp
    obtain ⟨z, hz⟩ : ∃ z, z = (sizT x0).toNat := ⟨_, rfl⟩
    have hSz := S_Size hx0
    have hsz : sizeT x0 = (z : Int) := by unfold sizeT; rw [if_pos f1]; omega
    rw [hsz] at hSz
    have hnz : n * z ≤ 16384 := by
      have := Nat.mul_le_mul hn (show z ≤ 32 by omega)
      omega
    obtain ⟨C, hC⟩ : ∃ C, C = catB items x0 := ⟨_, rfl⟩
    have hCl : C.length = items.length * z := by rw [hC]; exact cat_len' fun v hv => by have := f4 v (hfit v hv); omega
    have hCn : C.length ≤ n * z := by rw [hCl]; exact Nat.mul_le_mul_right _ hl
    have hcn : (cutC C).length ≤ (n * z + 31) / 32 := by rw [cutC_len]; unfold cutN; omega
    refine HC_region (HL_alloc (cs := #[_, _]) rfl rfl rfl rfl fun r2 => ?_); refine HL_nil (hK6 _ _ _ _ ?_); refine HC_seq fun K7 hK7 => ?_; refine HC_seq fun K8 hK8 => HC_region ?_; refine HLm rfl (HL_r rfl rfl rfl rfl (R_lenPl rfl hs rfl) (HLm rfl ?_)); refine HL_nil (hK8 _ _ _ _ ?_); refine HC_block (HC_loop (σ := Nat × Row × Bool) (fun q => q.1 ≤ items.length ∧ bOk (catB (items.take q.1) x0) q.2.1) (fun q => [(2, pt0 r1), (5, pt0 r2), (22, plV items.length pi), (23, .int .i64 (items.length : Int)), (24, .int .i64 (q.1 : Int))]) (fun q => bldL r2 (catB (items.take q.1) x0) q.2.1 q.2.2 ++ [tBlk r1 (Ty.mk k (n : Int) p [x0])]) (fun _ _ _ => True) (fun q => items.length - q.1) (0, none, false) ⟨Nat.zero_le _, bOk_nil⟩ (.cons rfl (.cons rfl (.cons rfl (.cons rfl (.cons rfl .nil))))) (List.Sublist.refl _) (fun _ _ h => h) ?_); rintro ⟨i, row, own⟩ ⟨hi1, hb1⟩; simp only at hi1 hb1; change HC _ _ [(2, _), (5, _), (22, _), (23, _), (24, .int .i64 (i : Int))] (bldL r2 (catB (items.take i) x0) row own ++ [tBlk r1 (Ty.mk k (n : Int) p [x0])]) _ _ _; refine HC_seq fun K9 hK9 => HC_region ?_; refine HLp rfl ?_; refine HL_nil (hK9 _ _ _ _ ?_); refine HC_seq fun K10 hK10 => ?_; refine HC_cond rfl (fun h11 => ?_) (fun h11 => ?_)
    · try exact Bool.noConfusion h11
      try simp only [ZZ] at h11
      refine HC_skip (hK10 _ _ _ _ ?_); refine HC_seq fun K12 hK12 => HC_block ?_; refine HC_seq fun K13 hK13 => ?_
      have hil : i < items.length := by omega
      have hix := itm_get hil
      have hpr := putR_plain hc hp (hfit _ hix.2)
      have hput := S_sPut hx0 (hIn _ hix.2) (hw _ hix.2)
      rw [hpr.1] at hput
      have hsn := catB_take (x := x0) hix.1
      have hcl := catB_le (x := x0) (l := items.take i) fun v hv => (putR_plain hc hp (hfit v (List.mem_of_mem_take hv))).2
      rw [List.length_take] at hcl
      have hp2 := hpr.2
      refine HC_region ?_
      refine HL_r rfl rfl rfl rfl (R_indexPl (j := i) rfl hs rfl rfl rfl (by first | rfl | omega) (by omega)) ?_; refine HL_r rfl rfl rfl rfl (R_loadVl (fun q hq => Or.inr hq) rfl hs hix.1 rfl rfl) ?_; refine HL_alloc (cs := #[.int .u64 0, .int .u64 0, .int .u64 0, .int .u64 0, .slice none 0 0, .slice none 0 0, .int .i64 0]) rfl rfl rfl rfl fun rv => ?_; refine HL_storeArr (k := 0) (n := 7) (ys := (itm items i).cells) rfl rfl rfl rfl rfl (itm items i).len rfl (itm items i).one rfl ?_; refine HL_nil (hK13 _ _ _ _ ?_); refine HC_seq fun K14 hK14 => ?_; refine HC_draw 11 (by kernel_rfl) (by kernel_rfl) ?_
      refine HD_r rfl rfl rfl (R_fieldAddr rfl rfl (by first | (simp only [Nat.zero_add, Nat.reduceAdd, Nat.reduceMul, Nat.zero_mul, Nat.mul_one, Nat.add_zero]; exact rfl) | exact rfl)) ?_; refine HD_r rfl rfl rfl (R_load (v := plV 1 p) rfl (.inl (List.mem_cons_of_mem _ (List.mem_append_right _ List.mem_cons_self))) rfl rfl) ?_
      refine HD_r rfl rfl rfl (R_indexPl (j := 0) rfl hst rfl rfl rfl (by first | rfl | omega) (Nat.lt_succ_self 0)) ?_; refine HD_r rfl rfl rfl (R_loadTy (fun q hq => Or.inr hq) rfl hst (show [x0][0]? = some x0 from rfl) rfl rfl) ?_; refine HD_r rfl rfl rfl (R_loadArr (xs := (itm items i).cells) (n := 7) rfl (known_L (k := 0) rfl) rfl rfl (itm items i).len) ?_; refine HD_callR rfl rfl rfl (enters_of Tryz.func17 (by kernel_rfl) rfl) hput (fun q hq => Or.inr hq) ?_; refine HD_r rfl rfl rfl (R_move rfl) ?_; refine HD_r rfl rfl rfl (R_extract rfl rfl) ?_; refine HD_r rfl rfl rfl (R_extract rfl rfl) ?_; refine HD_r rfl rfl rfl (R_assign rfl) ?_; refine HD_r rfl rfl rfl (R_assign rfl) ?_; refine HD_end ?_; refine HL_nil (hK14 _ _ _ _ ?_); refine HC_region (HLm rfl (HL_callT (T := bldL r2 (catB (items.take i) x0) row own) (L0 := _ :: [tBlk r1 (Ty.mk k (n : Int) p [x0])]) (Rl := []) List.perm_middle.symm rfl rfl rfl (enters_of Tryz.func123 (by kernel_rfl) rfl) (T_Write hb1 (s2 := putV (itm items i) x0) (by omega)) (fun q hq => nomatch hq) fun x => ?_))
      obtain ⟨rowx, hbx⟩ := x
      refine HL_nil ?_; refine HQ_blockN (hK12 _ _ _ _ ?_); refine HC_region ?_
      refine HLp rfl ?_; refine HL_as (show _ = Value.int .i64 ((i + 1 : Nat) : Int) from by rw [wrap_i64 (by omega) (by omega)]; congr 1 <;> omega) ?_; refine HLm rfl (HL_nil (HQ_then ?_)); refine HQ_subL (L' := bldL r2 (catB (items.take (i + 1)) x0) rowx true ++ [tBlk r1 (Ty.mk k (n : Int) p [x0])]) (by rw [hsn]; exact (List.Sublist.refl _).append (.cons _ (List.Sublist.refl _))) ?_; exact HQ_again (i + 1, rowx, true) ⟨by simp only; omega, by simp only; rw [hsn]; exact hbx⟩ (by simp only; omega) (.cons rfl (.cons rfl (.cons rfl (.cons rfl (.cons rfl .nil))))) (List.Sublist.refl _) (fun _ _ h => h)
    · try exact Bool.noConfusion h11
      try simp only [ZZ] at h11
      refine HC_exit (HQ_thenE ?_); refine HQ_thenE (HQ_blockE (hK7 _ _ _ _ ?_)); refine HC_seq fun K15 hK15 => ?_
      obtain rfl : i = items.length := by omega
      rw [List.take_length, ← hC] at hb1; rw [List.take_length, ← hC]; refine HC_drawB [tBlk r1 (Ty.mk k (n : Int) p [x0])] [(0, .turn), (1, .grow (geCall (rowP0 (cutC C)) (fun x => rV x) (fun x => rL x))), (2, .pure), (3, .pure), (4, .pure), (5, .pure), (6, .pure), (7, .pure), (8, .pure), (9, .pure), (10, .pure)] 11 [2, 3, 4, 5, 6, 7, 0, 1, 8, 9, 10] (by kernel_rfl) (by kernel_rfl) (fun p hp => List.mem_append_right _ hp) ?_
      refine HB_p (k := 2) rfl rfl rfl rfl rfl (fun _ hS => (R_fieldAddr rfl rfl (by first | (simp only [Nat.zero_add, Nat.reduceAdd, Nat.reduceMul, Nat.zero_mul, Nat.mul_one, Nat.add_zero]; exact rfl) | exact rfl))) ?_; refine HB_p (k := 3) rfl rfl rfl rfl rfl (fun E' hS => R_load (v := .int .i64 (n : Int)) rfl (.inl (hS _ List.mem_cons_self)) rfl rfl) ?_
      refine HB_p (k := 4) rfl rfl rfl rfl rfl (fun _ hS => (R_fieldAddr rfl rfl (by first | (simp only [Nat.zero_add, Nat.reduceAdd, Nat.reduceMul, Nat.zero_mul, Nat.mul_one, Nat.add_zero]; exact rfl) | exact rfl))) ?_; refine HB_p (k := 5) rfl rfl rfl rfl rfl (fun E' hS => R_load (v := plV 1 p) rfl (.inl (hS _ List.mem_cons_self)) rfl rfl) ?_
      refine HB_p (k := 6) rfl rfl rfl rfl rfl (fun E' hS => R_indexPl (j := 0) rfl hst rfl rfl rfl (by first | rfl | omega) (Nat.lt_succ_self 0)) ?_; refine HB_p (k := 7) rfl rfl rfl rfl rfl (fun E' hS => R_loadTy (fun q hq => Or.inr hq) rfl hst (show [x0][0]? = some x0 from rfl) rfl rfl) ?_; refine HB_callT (k := 0) (T0 := bldL r2 C row own) (L0 := [tBlk r1 (Ty.mk k (n : Int) p [x0])]) (Rl := []) (List.Perm.refl _) rfl rfl rfl rfl rfl (enters_of Tryz.func125 (by kernel_rfl) rfl) (T_bStr hb1 (by omega)) (fun q hq => nomatch hq) (fun _ p hp => hp) fun u => ?_; refine HB_callRE (k := 1) rfl rfl rfl rfl rfl (enters_of Tryz.func183 (by kernel_rfl) rfl) (T_cutP (s := C) (by omega)) (fun q hq => nomatch hq) fun x => ?_; refine HB_callRP (k := 8) rfl rfl rfl rfl rfl (enters_of Tryz.func25 (by kernel_rfl) rfl) hSz (fun q hq => .inr hq) ?_; refine HB_p (k := 9) rfl rfl rfl rfl rfl (fun _ _ => (R_pure rfl rfl rfl)) ?_; refine HB_as (show _ = Value.int .i64 ((n * z : Nat) : Int) from congrArg (Value.int .i64) (by rw [← Int.natCast_mul]; exact wrap_i64 (by omega) (by omega))) ?_; refine HB_callP (k := 10) rfl rfl rfl rfl rfl (enters_of Tryz.func184 (by kernel_rfl) rfl) (P_need (n := n * z) (by omega)) ?_; refine HB_end ?_; refine HL_callR rfl rfl rfl (enters_of Tryz.func54 (by kernel_rfl) rfl) (S_mtree hcn (by omega) (rowP_seg x.2 (by decide)) (cutC_32 _)) (fun q hq => .inl (List.mem_append_left _ hq)) ?_; refine HLm rfl ?_; refine HL_nil (hK15 _ _ _ _ ?_); refine HC_ret ?_; refine HQ_post rfl rfl (.cons (res_tmp rfl) .nil) (fun w1 hs1 => ?_); refine ⟨?_, hs1.keep⟩; rw [if_pos hp, ← hz, ← hC]; rfl
end Go.Proofs.YtlcbfphioeppaaaGreatDoor
namespace Go.Proofs.YtlcbfphioeppaaaGreatDoor
set_option linter.all false
open Go.SL Go.RowKit Go.Shelf
end Go.Proofs.YtlcbfphioeppaaaGreatDoor
namespace Go.Proofs.YtlcbfphioeppaaaGreatDoor
set_option linter.all false
open Go.SL Go.RowKit Go.Shelf
def v0L : Vl := .mk 0 0 0 0 [] none [] none 0
abbrev Gf : Type := List UInt8 → Vl × Int
def g0 : Gf := fun _ => (v0L, 0)
section
variable {a b c d : Nat} {bits : List Bool} {pb : Pl} {items : List Vl} {pi : Pl} {pick k n : Int} {p : Pl} {ins : List Ty}
theorem fit_row (hc : chk (.mk k n p ins) 0 = 0) (h : fitT (.mk a b c d bits pb items pi pick) (.mk k n p ins) = 0) (h8 : k ≠ 8) {j : Nat} {x : Vl} (hx : items[j]? = some x) : ins[inX k 0 j]? = some (inTy k 0 ins j) ∧ inTy k 0 ins j ∈ ins ∧ chk (inTy k 0 ins j) 0 = 0 ∧ fitT x (inTy k 0 ins j) = 0 := by
  obtain ⟨_, h2, h3⟩ := fit_split h
  have hlt := (List.getElem?_eq_some_iff.1 hx).1
  have hin := inX_lt (v := .mk a b c d bits pb items pi pick) hc h2 hlt
  have hg := fitL_get h3 hx
  rw [Nat.zero_add, inTy_n8 h8] at hg
  have e : inX k (Vl.pick (.mk a b c d bits pb items pi pick)) j = inX k 0 j := by unfold inX; rw [if_neg h8, if_neg h8]
  rw [e] at hin
  have hty := inTy_get hin
  exact ⟨hty.1, hty.2, chk_sub hc _ hty.2, hg⟩
end
end Go.Proofs.YtlcbfphioeppaaaGreatDoor
namespace Go.Proofs.YtlcbfphioeppaaaGreatDoor
set_option linter.all false
open Go.SL Go.RowKit Go.Shelf
/-! ### The root of a value -/
section
variable {R : List (Nat × Obj)} {k n : Int} {p : Pl} {ins : List Ty} {a b c d : Nat} {bits : List Bool} {pb : Pl} {items : List Vl} {pi : Pl} {pick : Int} {s : BS}
set_option maxRecDepth 10000 in
theorem S_c1 (h : PureR Tryz.prog 105 [Ty.val (.mk k n p ins), plV items.length pi].toArray (strV s) R) : PureR Tryz.prog 104 [Ty.val (.mk k n p ins), Vl.val (.mk a b c d bits pb items pi pick)].toArray (strV s) R := by
  refine pureR_of_HC Tryz.func104 rfl rfl fun w => ?_; refine HC_seq fun K1 hK1 => HC_region ?_; refine HL_box (cs := #[_, _, _]) rfl rfl rfl rfl fun r1 => ?_; refine HL_box (cs := #[_, _, _, _, _, _, _]) rfl rfl rfl rfl fun r2 => ?_; refine HLm rfl ?_; refine HL_nil (hK1 _ _ _ _ ?_); refine HC_seq fun K2 hK2 => HC_region ?_; refine HL_r rfl rfl rfl rfl (R_loadArr (xs := (Ty.mk k n p ins).cells) (n := 3) rfl (known_L (k := 1) rfl) rfl rfl (Ty.mk k n p ins).len) ?_
  refine HL_r rfl rfl rfl rfl (R_fieldAddr rfl rfl (by first | (simp only [Nat.zero_add, Nat.reduceAdd, Nat.reduceMul, Nat.zero_mul, Nat.mul_one, Nat.add_zero]; exact rfl) | exact rfl)) ?_; refine HL_r rfl rfl rfl rfl (R_load rfl (known_L (k := 0) rfl) rfl rfl) ?_; refine HL_callR rfl rfl rfl (enters_of Tryz.func105 (by kernel_rfl) rfl) h (fun q hq => Or.inr hq) ?_; refine HLm rfl ?_; refine HL_nil (hK2 _ _ _ _ ?_); refine HC_ret ?_; refine HQ_post rfl rfl (.cons (res_tmp rfl) .nil) (fun w1 hs1 => ?_); exact ⟨rfl, hs1.keep⟩
set_option maxRecDepth 10000 in
theorem S_c2 (hs : Seg R items.length (vlsC items) pi) (h32 : s.length = 32) (hl : items.length ≤ 512) (h : PureR Tryz.prog 105 [Ty.val (.mk k n p ins), plV items.length pi].toArray (strV s) R) : PureR Tryz.prog 106 [Ty.val (.mk k n p ins), Vl.val (.mk a b c d bits pb items pi pick)].toArray (strV (mixE s items.length)) R := by
  refine pureR_of_HC Tryz.func106 rfl rfl fun w => ?_; refine HC_seq fun K1 hK1 => HC_region ?_; refine HL_box (cs := #[_, _, _]) rfl rfl rfl rfl fun r1 => ?_; refine HL_box (cs := #[_, _, _, _, _, _, _]) rfl rfl rfl rfl fun r2 => ?_; refine HLm rfl ?_; refine HL_nil (hK1 _ _ _ _ ?_); refine HC_seq fun K2 hK2 => ?_
  refine HC_drawB [] [(1, .pure), (4, .pure), (6, .pure), (7, .pure), (8, .pure)] 9 [0, 1, 2, 4, 5, 6, 3, 7, 8] (by kernel_rfl) (by kernel_rfl) (by first | exact (fun _ h => nomatch h) | simp [SubS] | (intro p hp; simp [hp])) ?_; refine HB_r (k := 0) rfl rfl rfl rfl rfl (R_loadArr (xs := (Ty.mk k n p ins).cells) (n := 3) rfl (known_L (k := 1) rfl) rfl rfl (Ty.mk k n p ins).len) ?_
  refine HB_p (k := 1) rfl rfl rfl rfl rfl (fun _ hS => (R_fieldAddr rfl rfl (by first | (simp only [Nat.zero_add, Nat.reduceAdd, Nat.reduceMul, Nat.zero_mul, Nat.mul_one, Nat.add_zero]; exact rfl) | exact rfl))) ?_; refine HB_r (k := 2) rfl rfl rfl rfl rfl (R_load rfl (known_L (k := 0) rfl) rfl rfl) ?_
  refine HB_p (k := 4) rfl rfl rfl rfl rfl (fun _ hS => (R_fieldAddr rfl rfl (by first | (simp only [Nat.zero_add, Nat.reduceAdd, Nat.reduceMul, Nat.zero_mul, Nat.mul_one, Nat.add_zero]; exact rfl) | exact rfl))) ?_; refine HB_r (k := 5) rfl rfl rfl rfl rfl (R_load rfl (known_L (k := 0) rfl) rfl rfl) ?_; refine HB_p (k := 6) rfl rfl rfl rfl rfl (fun _ hS => (R_lenPl rfl hs rfl)) ?_; refine HB_callR (k := 3) rfl rfl rfl rfl rfl (enters_of Tryz.func105 (by kernel_rfl) rfl) h (fun q hq => Or.inr hq) ?_; refine HB_callP (k := 7) rfl rfl rfl rfl rfl (enters_of Tryz.func107 (by kernel_rfl) rfl) (P_mix (by omega) (by omega)) ?_; refine HB_p (k := 8) rfl rfl rfl rfl rfl (fun _ hS => (R_assign rfl)) ?_; refine HB_end ?_; refine HL_nil (hK2 _ _ _ _ ?_); refine HC_ret ?_; refine HQ_post rfl rfl (.cons (res_tmp rfl) .nil) (fun w1 hs1 => ?_); exact ⟨rfl, hs1.keep⟩
set_option maxRecDepth 10000 in
theorem S_c3 (h : PureR Tryz.prog 109 [Ty.val (.mk k n p ins), plV bits.length pb].toArray (strV s) R) : PureR Tryz.prog 108 [Ty.val (.mk k n p ins), Vl.val (.mk a b c d bits pb items pi pick)].toArray (strV s) R := by
  refine pureR_of_HC Tryz.func108 rfl rfl fun w => ?_; refine HC_seq fun K1 hK1 => HC_region ?_; refine HL_box (cs := #[_, _, _]) rfl rfl rfl rfl fun r1 => ?_; refine HL_box (cs := #[_, _, _, _, _, _, _]) rfl rfl rfl rfl fun r2 => ?_; refine HLm rfl ?_; refine HL_nil (hK1 _ _ _ _ ?_); refine HC_seq fun K2 hK2 => HC_region ?_; refine HL_r rfl rfl rfl rfl (R_loadArr (xs := (Ty.mk k n p ins).cells) (n := 3) rfl (known_L (k := 1) rfl) rfl rfl (Ty.mk k n p ins).len) ?_
  refine HL_r rfl rfl rfl rfl (R_fieldAddr rfl rfl (by first | (simp only [Nat.zero_add, Nat.reduceAdd, Nat.reduceMul, Nat.zero_mul, Nat.mul_one, Nat.add_zero]; exact rfl) | exact rfl)) ?_; refine HL_r rfl rfl rfl rfl (R_load rfl (known_L (k := 0) rfl) rfl rfl) ?_; refine HL_callR rfl rfl rfl (enters_of Tryz.func109 (by kernel_rfl) rfl) h (fun q hq => Or.inr hq) ?_; refine HLm rfl ?_; refine HL_nil (hK2 _ _ _ _ ?_); refine HC_ret ?_; refine HQ_post rfl rfl (.cons (res_tmp rfl) .nil) (fun w1 hs1 => ?_); exact ⟨rfl, hs1.keep⟩
set_option maxRecDepth 10000 in
theorem S_c4 (hs : Seg R bits.length (bitsC bits) pb) (h32 : s.length = 32) (hl : bits.length ≤ 512) (h : PureR Tryz.prog 109 [Ty.val (.mk k n p ins), plV bits.length pb].toArray (strV s) R) : PureR Tryz.prog 110 [Ty.val (.mk k n p ins), Vl.val (.mk a b c d bits pb items pi pick)].toArray (strV (mixE s bits.length)) R := by
  refine pureR_of_HC Tryz.func110 rfl rfl fun w => ?_; refine HC_seq fun K1 hK1 => HC_region ?_; refine HL_box (cs := #[_, _, _]) rfl rfl rfl rfl fun r1 => ?_; refine HL_box (cs := #[_, _, _, _, _, _, _]) rfl rfl rfl rfl fun r2 => ?_; refine HLm rfl ?_; refine HL_nil (hK1 _ _ _ _ ?_); refine HC_seq fun K2 hK2 => ?_
  refine HC_drawB [] [(1, .pure), (4, .pure), (6, .pure), (7, .pure), (8, .pure)] 9 [0, 1, 2, 4, 5, 6, 3, 7, 8] (by kernel_rfl) (by kernel_rfl) (by first | exact (fun _ h => nomatch h) | simp [SubS] | (intro p hp; simp [hp])) ?_; refine HB_r (k := 0) rfl rfl rfl rfl rfl (R_loadArr (xs := (Ty.mk k n p ins).cells) (n := 3) rfl (known_L (k := 1) rfl) rfl rfl (Ty.mk k n p ins).len) ?_
  refine HB_p (k := 1) rfl rfl rfl rfl rfl (fun _ hS => (R_fieldAddr rfl rfl (by first | (simp only [Nat.zero_add, Nat.reduceAdd, Nat.reduceMul, Nat.zero_mul, Nat.mul_one, Nat.add_zero]; exact rfl) | exact rfl))) ?_; refine HB_r (k := 2) rfl rfl rfl rfl rfl (R_load rfl (known_L (k := 0) rfl) rfl rfl) ?_
  refine HB_p (k := 4) rfl rfl rfl rfl rfl (fun _ hS => (R_fieldAddr rfl rfl (by first | (simp only [Nat.zero_add, Nat.reduceAdd, Nat.reduceMul, Nat.zero_mul, Nat.mul_one, Nat.add_zero]; exact rfl) | exact rfl))) ?_; refine HB_r (k := 5) rfl rfl rfl rfl rfl (R_load rfl (known_L (k := 0) rfl) rfl rfl) ?_; refine HB_p (k := 6) rfl rfl rfl rfl rfl (fun _ hS => (R_lenPl rfl hs rfl)) ?_; refine HB_callR (k := 3) rfl rfl rfl rfl rfl (enters_of Tryz.func109 (by kernel_rfl) rfl) h (fun q hq => Or.inr hq) ?_; refine HB_callP (k := 7) rfl rfl rfl rfl rfl (enters_of Tryz.func107 (by kernel_rfl) rfl) (P_mix (by omega) (by omega)) ?_; refine HB_p (k := 8) rfl rfl rfl rfl rfl (fun _ hS => (R_assign rfl)) ?_; refine HB_end ?_; refine HL_nil (hK2 _ _ _ _ ?_); refine HC_ret ?_; refine HQ_post rfl rfl (.cons (res_tmp rfl) .nil) (fun w1 hs1 => ?_); exact ⟨rfl, hs1.keep⟩
set_option maxRecDepth 10000 in
theorem S_c5 {l : List BS} (hst : Seg R ins.length (tysC ins) p) (hl : l.length ≤ ins.length) (hn : ins.length ≤ 16) (h32 : ∀ s ∈ l, s.length = 32) (h : PureT (α := RowOf l) Tryz.prog 112 [Ty.val (.mk k n p ins), plV items.length pi].toArray (fun x => rV x) [] (fun x => rL x) R) :
    PureR Tryz.prog 111 [Ty.val (.mk k n p ins), Vl.val (.mk a b c d bits pb items pi pick)].toArray (strV (rootC l ins.length)) R := by
  refine pureR_of_HC Tryz.func111 rfl rfl fun w => ?_; refine HC_seq fun K1 hK1 => HC_region ?_; refine HL_box (cs := #[_, _, _]) rfl rfl rfl rfl fun r1 => ?_; refine HL_box (cs := #[_, _, _, _, _, _, _]) rfl rfl rfl rfl fun r2 => ?_; refine HLm rfl ?_; refine HL_nil (hK1 _ _ _ _ ?_); refine HC_seq fun K2 hK2 => ?_
  refine HC_drawB [] [(1, .pure), (3, .grow (geCall (rowP0 l) (fun x => rV x) (fun x => rL x))), (4, .pure), (6, .pure), (8, .pure)] 9 [0, 1, 2, 4, 5, 6, 3, 7, 8] (by kernel_rfl) (by kernel_rfl) (by first | exact (fun _ h => nomatch h) | simp [SubS] | (intro p hp; simp [hp])) ?_; refine HB_r (k := 0) rfl rfl rfl rfl rfl (R_loadArr (xs := (Ty.mk k n p ins).cells) (n := 3) rfl (known_L (k := 1) rfl) rfl rfl (Ty.mk k n p ins).len) ?_
  refine HB_p (k := 1) rfl rfl rfl rfl rfl (fun _ hS => (R_fieldAddr rfl rfl (by first | (simp only [Nat.zero_add, Nat.reduceAdd, Nat.reduceMul, Nat.zero_mul, Nat.mul_one, Nat.add_zero]; exact rfl) | exact rfl))) ?_; refine HB_r (k := 2) rfl rfl rfl rfl rfl (R_load rfl (known_L (k := 0) rfl) rfl rfl) ?_
  refine HB_p (k := 4) rfl rfl rfl rfl rfl (fun _ hS => (R_fieldAddr rfl rfl (by first | (simp only [Nat.zero_add, Nat.reduceAdd, Nat.reduceMul, Nat.zero_mul, Nat.mul_one, Nat.add_zero]; exact rfl) | exact rfl))) ?_; refine HB_r (k := 5) rfl rfl rfl rfl rfl (R_load rfl (known_L (k := 1) rfl) rfl rfl) ?_; refine HB_p (k := 6) rfl rfl rfl rfl rfl (fun _ hS => (R_lenPl rfl hst rfl)) ?_; refine HB_callRE (k := 3) rfl rfl rfl rfl rfl (enters_of Tryz.func112 (by kernel_rfl) rfl) h (fun q hq => .inr hq) fun x => ?_; refine HB_callR (k := 7) rfl rfl rfl rfl rfl (enters_of Tryz.func54 (by kernel_rfl) rfl) (S_mtree hl (by omega) (rowP_seg x.2 (by decide)) h32) (fun q hq => .inl (List.mem_append_left _ hq)) ?_; refine HB_p (k := 8) rfl rfl rfl rfl rfl (fun _ hS => (R_assign rfl)) ?_; refine HB_end ?_; refine HL_nil (hK2 _ _ _ _ ?_); refine HC_ret ?_; refine HQ_post rfl rfl (.cons (res_tmp rfl) .nil) (fun w1 hs1 => ?_); exact ⟨rfl, hs1.keep⟩
set_option maxRecDepth 10000 in
theorem S_c6 {m : Nat} {y : Ty} {x : Vl} (hst : Seg R ins.length (tysC ins) p) (hs : Seg R items.length (vlsC items) pi) (hm : m ≤ 8) (hy : ins[m]? = some y) (hx : items[0]? = some x) (h32 : s.length = 32) (h : PureR Tryz.prog 60 [y.val, x.val].toArray (strV s) R) :
    PureR Tryz.prog 113 [Ty.val (.mk k n p ins), Vl.val (.mk a b c d bits pb items pi (m : Int))].toArray (strV (mixE s m)) R := by
  have hm1 := (List.getElem?_eq_some_iff.1 hy).1
  have hm2 := (List.getElem?_eq_some_iff.1 hx).1
  refine pureR_of_HC Tryz.func113 rfl rfl fun w => ?_; refine HC_seq fun K1 hK1 => HC_region ?_; refine HL_box (cs := #[_, _, _]) rfl rfl rfl rfl fun r1 => ?_; refine HL_box (cs := #[_, _, _, _, _, _, _]) rfl rfl rfl rfl fun r2 => ?_; refine HLm rfl ?_; refine HL_nil (hK1 _ _ _ _ ?_); refine HC_seq fun K2 hK2 => ?_
  refine HC_drawB [] [(0, .pure), (2, .pure), (4, .pure), (6, .pure), (8, .pure), (11, .pure), (13, .pure), (14, .pure)] 15 [0, 1, 2, 3, 4, 5, 6, 7, 8, 9, 11, 12, 10, 13, 14] (by kernel_rfl) (by kernel_rfl) (by first | exact (fun _ h => nomatch h) | simp [SubS] | (intro p hp; simp [hp])) ?_
  refine HB_p (k := 0) rfl rfl rfl rfl rfl (fun _ hS => (R_fieldAddr rfl rfl (by first | (simp only [Nat.zero_add, Nat.reduceAdd, Nat.reduceMul, Nat.zero_mul, Nat.mul_one, Nat.add_zero]; exact rfl) | exact rfl))) ?_; refine HB_r (k := 1) rfl rfl rfl rfl rfl (R_load rfl (known_L (k := 1) rfl) rfl rfl) ?_
  refine HB_p (k := 2) rfl rfl rfl rfl rfl (fun _ hS => (R_fieldAddr rfl rfl (by first | (simp only [Nat.zero_add, Nat.reduceAdd, Nat.reduceMul, Nat.zero_mul, Nat.mul_one, Nat.add_zero]; exact rfl) | exact rfl))) ?_; refine HB_r (k := 3) rfl rfl rfl rfl rfl (R_load rfl (known_L (k := 0) rfl) rfl rfl) ?_; refine HB_p (k := 4) rfl rfl rfl rfl rfl (fun E' hS => R_indexPl (j := m) rfl hst rfl rfl rfl rfl hm1) ?_; refine HB_r (k := 5) rfl rfl rfl rfl rfl (R_loadTy (fun q hq => Or.inr hq) rfl hst hy rfl rfl) ?_
  refine HB_p (k := 6) rfl rfl rfl rfl rfl (fun _ hS => (R_fieldAddr rfl rfl (by first | (simp only [Nat.zero_add, Nat.reduceAdd, Nat.reduceMul, Nat.zero_mul, Nat.mul_one, Nat.add_zero]; exact rfl) | exact rfl))) ?_; refine HB_r (k := 7) rfl rfl rfl rfl rfl (R_load rfl (known_L (k := 0) rfl) rfl rfl) ?_
  refine HB_p (k := 8) rfl rfl rfl rfl rfl (fun E' hS => R_indexPl (j := 0) rfl hs rfl rfl rfl (by first | rfl | omega) hm2) ?_; refine HB_r (k := 9) rfl rfl rfl rfl rfl (R_loadVl (fun q hq => Or.inr hq) rfl hs hx rfl rfl) ?_
  refine HB_p (k := 11) rfl rfl rfl rfl rfl (fun _ hS => (R_fieldAddr rfl rfl (by first | (simp only [Nat.zero_add, Nat.reduceAdd, Nat.reduceMul, Nat.zero_mul, Nat.mul_one, Nat.add_zero]; exact rfl) | exact rfl))) ?_; refine HB_r (k := 12) rfl rfl rfl rfl rfl (R_load rfl (known_L (k := 0) rfl) rfl rfl) ?_; refine HB_callR (k := 10) rfl rfl rfl rfl rfl (enters_of Tryz.func60 (by kernel_rfl) rfl) h (fun q hq => Or.inr hq) ?_; refine HB_callP (k := 13) rfl rfl rfl rfl rfl (enters_of Tryz.func107 (by kernel_rfl) rfl) (P_mix (by omega) (by omega)) ?_; refine HB_p (k := 14) rfl rfl rfl rfl rfl (fun _ hS => (R_assign rfl)) ?_; refine HB_end ?_; refine HL_nil (hK2 _ _ _ _ ?_); refine HC_ret ?_; refine HQ_post rfl rfl (.cons (res_tmp rfl) .nil) (fun w1 hs1 => ?_); exact ⟨rfl, hs1.keep⟩
set_option maxRecDepth 10000 in
theorem S_rootG {g : FuncId} (hlk : mapGet intEq (.int .i64 k) (rootM.toList.map kvOf) = some (.func (.func g) #[] #[])) (eg : Enters Tryz.prog g) (hg : PureR Tryz.prog g [Ty.val (.mk k n p ins), Vl.val (.mk a b c d bits pb items pi pick)].toArray (strV s) R) :
    PureR Tryz.prog 60 [Ty.val (.mk k n p ins), Vl.val (.mk a b c d bits pb items pi pick)].toArray (strV s) R := by
  refine pureR_of_HC Tryz.func60 rfl rfl fun w => ?_; refine HC_seq fun K1 hK1 => HC_region ?_; refine HL_box (cs := #[_, _, _]) rfl rfl rfl rfl fun r1 => ?_; refine HL_box (cs := #[_, _, _, _, _, _, _]) rfl rfl rfl rfl fun r2 => ?_; refine HLm rfl ?_; refine HL_nil (hK1 _ _ _ _ ?_); refine HC_seq fun K2 hK2 => HC_region ?_; refine HL_makeMap rfl rfl fun rm => ?_; refine HL_insert (q := 0) (key := .int .i64 1) (val := .func (.func 103) #[] #[]) (keyI (t := 3) (by kernel_rfl)) rfl rfl rfl rfl rfl rfl ⟨_, rfl⟩ (by intro e he; simp at he) rfl rfl ?_
  refine HL_insert (q := 0) (key := .int .i64 2) (val := .func (.func 103) #[] #[]) (keyI (t := 3) (by kernel_rfl)) rfl rfl rfl rfl rfl rfl ⟨_, rfl⟩ (by intro e he; simp at he; rcases he with rfl <;> exact ⟨_, rfl⟩) rfl rfl ?_
  refine HL_insert (q := 0) (key := .int .i64 3) (val := .func (.func 104) #[] #[]) (keyI (t := 3) (by kernel_rfl)) rfl rfl rfl rfl rfl rfl ⟨_, rfl⟩ (by intro e he; simp at he; rcases he with rfl | rfl <;> exact ⟨_, rfl⟩) rfl rfl ?_
  refine HL_insert (q := 0) (key := .int .i64 4) (val := .func (.func 106) #[] #[]) (keyI (t := 3) (by kernel_rfl)) rfl rfl rfl rfl rfl rfl ⟨_, rfl⟩ (by intro e he; simp at he; rcases he with rfl | rfl | rfl <;> exact ⟨_, rfl⟩) rfl rfl ?_
  refine HL_insert (q := 0) (key := .int .i64 5) (val := .func (.func 108) #[] #[]) (keyI (t := 3) (by kernel_rfl)) rfl rfl rfl rfl rfl rfl ⟨_, rfl⟩ (by intro e he; simp at he; rcases he with rfl | rfl | rfl | rfl <;> exact ⟨_, rfl⟩) rfl rfl ?_
  refine HL_insert (q := 0) (key := .int .i64 6) (val := .func (.func 110) #[] #[]) (keyI (t := 3) (by kernel_rfl)) rfl rfl rfl rfl rfl rfl ⟨_, rfl⟩ (by intro e he; simp at he; rcases he with rfl | rfl | rfl | rfl | rfl <;> exact ⟨_, rfl⟩) rfl rfl ?_
  refine HL_insert (q := 0) (key := .int .i64 7) (val := .func (.func 111) #[] #[]) (keyI (t := 3) (by kernel_rfl)) rfl rfl rfl rfl rfl rfl ⟨_, rfl⟩ (by intro e he; simp at he; rcases he with rfl | rfl | rfl | rfl | rfl | rfl <;> exact ⟨_, rfl⟩) rfl rfl ?_
  refine HL_insert (q := 0) (key := .int .i64 8) (val := .func (.func 113) #[] #[]) (keyI (t := 3) (by kernel_rfl)) rfl rfl rfl rfl rfl rfl ⟨_, rfl⟩ (by intro e he; simp at he; rcases he with rfl | rfl | rfl | rfl | rfl | rfl | rfl <;> exact ⟨_, rfl⟩) rfl rfl ?_; change HL _ _ _ ((rm, .map rootM 8) :: _) _ _ _ _; refine HLm rfl (HLm rfl ?_); refine HL_nil (hK2 _ _ _ _ ?_); refine HC_seq fun K3 hK3 => HC_region ?_; refine HLm rfl ?_
  refine HL_r rfl rfl rfl rfl (R_fieldAddr rfl rfl (by first | (simp only [Nat.zero_add, Nat.reduceAdd, Nat.reduceMul, Nat.zero_mul, Nat.mul_one, Nat.add_zero]; exact rfl) | exact rfl)) ?_; refine HL_r rfl rfl rfl rfl (R_load rfl (known_L (k := 2) rfl) rfl rfl) ?_; refine HL_r rfl rfl rfl rfl (R_lookup (v := .func (.func g) #[] #[]) (keyI (t := 3) (by kernel_rfl)) rfl rfl (known_L (k := 0) rfl) rfl rfl ⟨_, rfl⟩ rootM_dom (by show (mapGet intEq (.int .i64 k) (rootM.toList.map kvOf)).getD _ = _; rw [hlk]; rfl)) ?_; refine HL_r rfl rfl rfl rfl (R_loadA (vs := [_, _, _]) rfl (known_L (k := 2) rfl) rfl rfl rfl rfl) ?_; refine HL_r rfl rfl rfl rfl (R_loadA (vs := [_, _, _, _, _, _, _]) rfl (known_L (k := 1) rfl) rfl rfl rfl rfl) ?_; refine HL_callR rfl rfl rfl eg hg (fun q hq => Or.inr hq) ?_; refine HLm rfl ?_; refine HL_nil (hK3 _ _ _ _ ?_); refine HC_ret ?_; refine HQ_post rfl rfl (.cons (res_tmp rfl) .nil) (fun w1 hs1 => ?_); exact ⟨rfl, hs1.keep⟩
end
theorem rootL_one {l : List Vl} {k pick : Int} {ins : List Ty} (h : l.length = 1) : (rootL l k pick ins 0).headD [] = rootV (itm l 0) (inTy k pick ins 0) := by
  match l, h with
  | [x], _ => rw [rootL]; rfl
theorem rowM_len {a b c d : Nat} {bits : List Bool} {pb : Pl} {items : List Vl} {pi : Pl} {pick k n : Int} {p : Pl} {ins : List Ty} (hcz : chk (.mk k n p ins) 0 = 0) (hfit : fitT (.mk a b c d bits pb items pi pick) (.mk k n p ins) = 0) (hk : k = 3 ∨ k = 4 ∨ k = 7) : (rowM k n ins items (rootL items k 0 ins 0)).length = 32 := by
  obtain ⟨q1, q2, q3⟩ := fit_more hcz hfit
  have hrow := fun (j : Nat) x (h : items[j]? = some x) => fit_row hcz hfit (by omega) h
  have hrs : ∀ s ∈ rootL items k 0 ins 0, s.length = 32 := fun s hs => by
    obtain ⟨j, x, h1, rfl⟩ := rootL_mem hs
    rw [Nat.zero_add]
    obtain ⟨_, r1, r2, r3⟩ := hrow j x h1
    exact rootV_len x _ 0 r2 r3
  have hrl := rootL_len items k 0 ins 0
  unfold rowM
  by_cases h7 : k = 7
  · rw [if_pos h7]
    exact rootC_len (by have := q3 h7; omega) hrs
  · rw [if_neg h7]
    obtain ⟨w1, w2, w3, w4⟩ := q1 (by omega)
    match ins, w4 with
    | [x0], _ =>
    rw [show [x0].getD 0 default = x0 from rfl]
    by_cases hp : plainT x0 = true
    · rw [if_pos hp]
      have hc0 := chk_sub hcz _ List.mem_cons_self
      obtain ⟨f1, f2, f3, f4⟩ := plain_fix hc0 hp
      refine rootC_len ?_ (cutC_32 _); rw [cutC_len]
      unfold cutN
      have hz : ∀ v ∈ items, (putV v x0).length = (sizT x0).toNat := fun v hv => by
        obtain ⟨j, hj⟩ := List.getElem?_of_mem hv
        have hg := (hrow j v hj).2.2.2
        rw [inTy_one h7 (by omega)] at hg
        have := f4 v hg
        omega
      rw [cat_len' hz]
      have hm : items.length * (sizT x0).toNat ≤ n.toNat * (sizT x0).toNat := Nat.mul_le_mul_right _ (by omega)
      omega
    · rw [if_neg hp]
      exact rootC_len (by omega) hrs
set_option maxHeartbeats 1000000 in
set_option maxRecDepth 10000 in
theorem S_root {R : List (Nat × Obj)} {v : Vl} (hv : v.In R) : ∀ (t : Ty) (dp : Nat), t.In R → chk t (dp : Int) = 0 → fitT v t = 0 → wV v ≤ 20000 → PureR Tryz.prog 60 [t.val, v.val].toArray (strV (rootV v t)) R := by
  have hv0 := hv
  induction hv with
  | @mk a b c d bits pb items pi pick ha hb hcc hd hlb hsb hl hs hp hi ih =>
  intro t dp ht hck hfit hw
  obtain ⟨k, n, p, ins⟩ := t
  have ht0 := ht
  cases ht with
  | mk hk hn hlt hst hit =>
  obtain ⟨hk8, ho, h6, hci⟩ := chk_mk hck
  obtain ⟨hf1, hf2, hf3⟩ := fit_split hfit
  obtain ⟨m1, m2, m3, m4⟩ := fit_many hck hfit
  obtain ⟨q1, q2, q3⟩ := fit_more hck hfit
  have hcz := chk_dn hck
  have hrow := fun (h8 : k ≠ 8) (j : Nat) x (h : items[j]? = some x) => fit_row hcz hfit h8 h
  have hwi : ∀ x ∈ items, wV x ≤ 20000 := fun x hx => Nat.le_trans (wV_sub hx) hw
  have hrec : k ≠ 8 → ∀ (i : Nat) x, items[i]? = some x → PureR Tryz.prog 60 [(inTy k 0 ins i).val, x.val].toArray (strV (rootV x (inTy k 0 ins i))) R := fun h8 i x hx => by
    obtain ⟨_, r1, r2, r3⟩ := hrow h8 i x hx
    have hm := List.mem_of_getElem? hx
    exact ih x hm (hi x hm) _ 0 (hit _ r1) r2 r3 (hwi x hm)
  have hlen := rootV_len _ _ dp hck hfit
  rw [rootV_mk] at hlen ⊢
  by_cases h1 : k = 1
  · subst h1
    rw [if_pos (.inl rfl)]; exact S_rootG rfl (enters_of Tryz.func103 (by kernel_rfl) rfl) (P_number _ hv0).toR
  by_cases h2 : k = 2
  · subst h2
    rw [if_pos (.inr rfl)]; exact S_rootG rfl (enters_of Tryz.func103 (by kernel_rfl) rfl) (P_number _ hv0).toR
  rw [if_neg (by omega)] at hlen ⊢
  have hone : k ≠ 7 → k ≠ 8 → ∀ x0, ins = [x0] → ∀ N : Nat, n = (N : Int) → N ≤ 512 → items.length ≤ N → PureR Tryz.prog 105 [Ty.val (.mk k n p ins), plV items.length pi].toArray (strV (rowM k n ins items (rootL items k 0 ins 0))) R := fun h7 h8 x0 e N en hN hle => by
    subst e; subst en; refine S_mrow ht0 h7 h8 (chk_sub hcz _ List.mem_cons_self) hs hle hN (fun v hv => ?_) hwi hi fun i x hx => ?_
    · obtain ⟨j, hj⟩ := List.getElem?_of_mem hv
      have := (hrow h8 j v hj).2.2.2
      rwa [inTy_one h7 h8] at this
    · have := hrec h8 i x hx
      rwa [inTy_one h7 h8] at this
  by_cases h4 : k = 4
  · subst h4
    obtain ⟨w1, w2, w3, w4⟩ := q1 (.inr rfl)
    rw [if_pos rfl, rootL_n8 (by decide)] at hlen ⊢
    have hrl : (rowM 4 n ins items (rootL items 4 0 ins 0)).length = 32 := rowM_len hcz hfit (.inr (.inl rfl))
    obtain ⟨x0, hx0⟩ := List.length_eq_one_iff.1 w4
    exact S_rootG rfl (enters_of Tryz.func106 (by kernel_rfl) rfl) (S_c2 hs hrl m1 (hone (by decide) (by decide) x0 hx0 n.toNat (by omega) (by omega) (by omega)))
  rw [if_neg h4] at hlen ⊢
  by_cases h5 : k = 5
  · subst h5
    obtain ⟨w1, w2, w3⟩ := q2 (.inl rfl)
    rw [if_pos rfl] at hlen ⊢; refine S_rootG rfl (enters_of Tryz.func108 (by kernel_rfl) rfl) (S_c3 ?_)
    have := S_mbits (k := 5) (p := p) (ins := ins) (l := bits) (n := n.toNat) (by omega) (by omega) hsb
    rwa [show ((n.toNat : Nat) : Int) = n by omega] at this
  rw [if_neg h5] at hlen ⊢
  by_cases h6 : k = 6
  · subst h6
    obtain ⟨w1, w2, w3⟩ := q2 (.inr rfl)
    rw [if_pos rfl] at hlen ⊢; refine S_rootG rfl (enters_of Tryz.func110 (by kernel_rfl) rfl) (S_c4 hsb (rootC_len (need_bits w3) (cutC_32 _)) m2 ?_)
    have := S_mbits (k := 6) (p := p) (ins := ins) (l := bits) (n := n.toNat) (by omega) (by omega) hsb
    rwa [show ((n.toNat : Nat) : Int) = n by omega] at this
  rw [if_neg h6] at hlen ⊢
  by_cases h8 : k = 8
  · subst h8
    obtain ⟨w1, w2, w3, w4⟩ := m4 rfl
    obtain ⟨m, rfl⟩ : ∃ m : Nat, pick = (m : Int) := ⟨pick.toNat, by omega⟩
    have hx8 := itm_get (l := items) (i := 0) (by omega)
    have hg := fitL_get (j := 0) hf3 hx8.1
    have hin := inX_lt (v := .mk a b c d bits pb items pi (m : Int)) (i := 0) hcz hf2 (show 0 < items.length by omega)
    have hty := inTy_get hin
    have hX := ih _ hx8.2 (hi _ hx8.2) _ 0 (hit _ hty.2) (chk_sub hcz _ hty.2) hg (hwi _ hx8.2)
    have hXl := rootV_len _ _ 0 (chk_sub hcz _ hty.2) hg
    rw [if_pos rfl, rootL_one w1, Int.toNat_natCast]; exact S_rootG rfl (enters_of Tryz.func113 (by kernel_rfl) rfl) (S_c6 hst hs (by omega) (show ins[m]? = some _ from hty.1) hx8.1 hXl hX)
  rw [if_neg h8, rootL_n8 h8] at hlen ⊢
  by_cases h3 : k = 3
  · subst h3
    obtain ⟨w1, w2, w3, w4⟩ := q1 (.inl rfl)
    obtain ⟨x0, hx0⟩ := List.length_eq_one_iff.1 w4
    exact S_rootG rfl (enters_of Tryz.func104 (by kernel_rfl) rfl) (S_c1 (hone (by decide) (by decide) x0 hx0 n.toNat (by omega) (by omega) (by omega)))
  have h7 : k = 7 := by omega
  subst h7
  obtain ⟨w1, w2, w3⟩ := q3 rfl
  have hM : rowM 7 n ins items (rootL items 7 0 ins 0) = rootC (rootL items 7 0 ins 0) ins.length := by unfold rowM; rw [if_pos rfl]
  rw [hM]
  have hrl := rootL_len items 7 0 ins 0
  refine S_rootG rfl (enters_of Tryz.func111 (by kernel_rfl) rfl) (S_c5 hst (by omega) w3 (fun s hs => ?_) (T_mrootsP ht0 (by decide) hs (by omega) (fun i hi => ?_) (hrec (by decide))))
  · obtain ⟨j, x, h1, rfl⟩ := rootL_mem hs
    rw [Nat.zero_add]
    obtain ⟨_, r1, r2, r3⟩ := hrow (by decide) j x h1
    exact rootV_len x _ 0 r2 r3
  · show i < ins.length
    omega
def rootR (t : Ty) (v : Vl) : BS × Int := if fitsT t v ≠ 0 then ([], fitsT t v) else (rootV v t, 0)
set_option maxRecDepth 10000 in
theorem S_mRoot {R : List (Nat × Obj)} {t : Ty} {v : Vl} (ht : t.In R) (hv : v.In R) (hw : wV v ≤ 20000) : PureR Tryz.prog 32 [t.val, v.val].toArray (resS (rootR t v)) R := by
  have h1 := S_Fits ht hv
  have h2 := fun h => S_root hv t 0 ht (fits_split (t := t) (v := v) h).1 (fits_split h).2 hw
  unfold rootR
  generalize fitsT t v = e at h1 h2 ⊢
  generalize rootV v t = s at h2 ⊢
  obtain ⟨k, n, p, ins⟩ := t
  obtain ⟨a, b, c, d, bits, pb, items, pi, pick⟩ := v
  refine pureR_of_HC Tryz.func32 rfl rfl fun w => ?_; refine HC_seq fun K1 hK1 => HC_region ?_; refine HL_box (cs := #[_, _, _]) rfl rfl rfl rfl fun r1 => ?_; refine HL_box (cs := #[_, _, _, _, _, _, _]) rfl rfl rfl rfl fun r2 => ?_; refine HLm rfl (HLm rfl ?_); refine HL_nil (hK1 _ _ _ _ ?_); refine HC_seq fun K2 hK2 => ?_; refine HC_seq fun K3 hK3 => HC_region ?_; refine HL_r rfl rfl rfl rfl (R_loadA (vs := [_, _, _]) rfl (known_L (k := 1) rfl) rfl rfl rfl rfl) ?_; refine HL_r rfl rfl rfl rfl (R_loadA (vs := [_, _, _, _, _, _, _]) rfl (known_L (k := 0) rfl) rfl rfl rfl rfl) ?_; refine HL_callR rfl rfl rfl (enters_of Tryz.func22 (by kernel_rfl) rfl) h1 (fun q hq => Or.inr hq) ?_; refine HLm rfl ?_; refine HL_nil (hK3 _ _ _ _ ?_); refine HC_seq fun K4 hK4 => HC_region ?_; refine HLm rfl (HLp rfl ?_); refine HL_nil (hK4 _ _ _ _ ?_); refine HC_cond rfl (fun h5 => ?_) (fun h5 => ?_)
  · try exact Bool.noConfusion h5
    try simp only [ZZ] at h5
    refine HC_seq fun K6 hK6 => HC_region ?_; refine HLm rfl (HLm rfl (HLm rfl ?_)); refine HL_nil (hK6 _ _ _ _ ?_); refine HC_ret (HQ_thenR ?_); refine HQ_post rfl rfl (.cons (res_tmp rfl) (.cons (res_tmp rfl) .nil)) (fun w1 hs1 => ?_); refine ⟨?_, hs1.keep⟩; rw [if_pos (by omega)]; rfl
  · try exact Bool.noConfusion h5
    try simp only [ZZ] at h5
    refine HC_skip (hK2 _ _ _ _ ?_); refine HC_seq fun K7 hK7 => HC_region ?_; refine HL_r rfl rfl rfl rfl (R_loadA (vs := [_, _, _]) rfl (known_L (k := 1) rfl) rfl rfl rfl rfl) ?_; refine HL_r rfl rfl rfl rfl (R_loadA (vs := [_, _, _, _, _, _, _]) rfl (known_L (k := 0) rfl) rfl rfl rfl rfl) ?_; refine HL_callR rfl rfl rfl (enters_of Tryz.func60 (by kernel_rfl) rfl) (h2 (by omega)) (fun q hq => Or.inr hq) ?_; refine HLm rfl (HLm rfl ?_); refine HL_nil (hK7 _ _ _ _ ?_); refine HC_ret ?_; refine HQ_post rfl rfl (.cons (res_tmp rfl) (.cons (res_tmp rfl) .nil)) (fun w1 hs1 => ?_); refine ⟨?_, hs1.keep⟩; rw [if_neg (by omega)]; rfl
end Go.Proofs.YtlcbfphioeppaaaGreatDoor
namespace Go.Proofs.YtlcbfphioeppaaaGreatDoor
set_option linter.all false
open Go.SL Go.RowKit Go.Shelf
/-! ### The reference: roots, a row, a value, Root -/
theorem plain_k {x : Ty} (h : chk x 0 = 0) : plainT x = decide (¬ x.k > 2) := by
  obtain ⟨k, n, p, ins⟩ := x
  obtain ⟨hk, _, _, _⟩ := chk_mk h
  show (decide (k = 1) || decide (k = 2)) = decide (¬ k > 2)
  by_cases h1 : k = 1
  · subst h1; rfl
  by_cases h2 : k = 2
  · subst h2; rfl
  rw [decide_eq_false h1, decide_eq_false h2, decide_eq_false (by omega)]; rfl
theorem form_nn {k n : Int} {m : Nat} (hk : 1 ≤ k ∧ k ≤ 8) (h : okForm k n m = true) : 0 ≤ n := by
  unfold okForm at h
  have h9 : k = 1 ∨ k = 2 ∨ k = 3 ∨ k = 4 ∨ k = 5 ∨ k = 6 ∨ k = 7 ∨ k = 8 := by omega
  rcases h9 with rfl | rfl | rfl | rfl | rfl | rfl | rfl | rfl
  all_goals simp at h
  all_goals omega
set_option maxRecDepth 10000 in
theorem T_rroots {R : List (Nat × Obj)} {k n : Int} {p : Pl} {ins : List Ty} {a b c d : Nat} {bits : List Bool} {pb : Pl} {items : List Vl} {pi : Pl} {pick : Int} (ht : Ty.In R (.mk k n p ins)) (hv : Vl.In R (.mk a b c d bits pb items pi pick)) (h8 : k ≠ 8) (hl : items.length ≤ 600) (hx : ∀ i, i < items.length → inX k 0 i < ins.length)
    (hb : ∀ (i : Nat) x, items[i]? = some x → PureR Tryz.prog 61 [(inTy k 0 ins i).val, x.val].toArray (strV (rootV x (inTy k 0 ins i))) R) :
    PureT (α := RowOf (rootL items k 0 ins 0)) Tryz.prog 185 [Ty.val (.mk k n p ins), Vl.val (.mk a b c d bits pb items pi pick)].toArray (fun x => rV x) [] (fun x => rL x) R := by
  have hs : Seg R items.length (vlsC items) pi := by cases hv; assumption
  have hin := fun i (h : i < items.length) => S_ref_In (v := .mk a b c d bits pb items pi pick) (i := i) (y := inTy k 0 ins i) ht hv (fun e => absurd e h8) (by have := (inTy_get (hx i h)).1; unfold inX at this ⊢; rw [if_neg h8] at this ⊢; exact this)
  have hRL := rootL_len items k 0 ins 0
  obtain ⟨RS, hRS⟩ : ∃ x, x = rootL items k 0 ins 0 := ⟨_, rfl⟩
  have htk := fun i x (h : items[i]? = some x) => rootL_take k ins (i := 0) h
  simp only [← hRS, Nat.zero_add] at htk; rw [← hRS] at hRL ⊢; rw [rV_fun]; refine pureT_of_HC Tryz.func185 rfl rfl fun w => ?_; refine HC_seq fun K1 hK1 => HC_region ?_; refine HL_box (cs := #[_, _, _]) rfl rfl rfl rfl fun r1 => ?_; refine HL_box (cs := #[_, _, _, _, _, _, _]) rfl rfl rfl rfl fun r2 => ?_; refine HLm rfl ?_; refine HL_nil (hK1 _ _ _ _ ?_); refine HC_seq fun K2 hK2 => HC_region ?_; refine HLm rfl ?_; refine HL_nil (hK2 _ _ _ _ ?_); refine HC_seq fun K3 hK3 => ?_; refine HC_seq fun K4 hK4 => HC_region ?_; refine HLm rfl ?_; refine HL_nil (hK4 _ _ _ _ ?_); refine HC_block (HC_loop (σ := Nat × Row) (fun q => q.1 ≤ items.length ∧ rowOk 1 q.1 (chC (RS.take q.1)) q.2) (fun q => [(2, pt0 r1), (3, pt0 r2), (5, rowV q.1 q.2), (6, .int .i64 (q.1 : Int))]) (fun q => vBlk r2 (Vl.mk a b c d bits pb items pi pick) :: tBlk r1 (Ty.mk k n p ins) :: rowL 9 (chC (RS.take q.1)) q.2) (fun _ _ _ => True) (fun q => items.length - q.1) (0, none) ⟨Nat.zero_le _, rfl, rfl⟩ (.cons rfl (.cons rfl (.cons rfl (.cons rfl .nil)))) (List.Sublist.refl _) (fun _ _ h => h) ?_); rintro ⟨i, row⟩ ⟨hi1, hrow⟩; simp only at hi1 hrow; change HC _ _ [(2, _), (3, _), (5, rowV i row), (6, .int .i64 (i : Int))] ((r2, _) :: (r1, _) :: rowL _ (chC (RS.take i)) row) _ _ _; refine HC_seq fun K5 hK5 => ?_; refine HC_seq fun K6 hK6 => HC_region ?_; refine HLm rfl ?_
  refine HL_r rfl rfl rfl rfl (R_fieldAddr rfl rfl (by first | (simp only [Nat.zero_add, Nat.reduceAdd, Nat.reduceMul, Nat.zero_mul, Nat.mul_one, Nat.add_zero]; exact rfl) | exact rfl)) ?_; refine HL_r rfl rfl rfl rfl (R_load rfl (known_L (k := 0) rfl) rfl rfl) ?_; refine HL_r rfl rfl rfl rfl (R_lenPl rfl hs rfl) ?_; refine HLp rfl ?_; refine HL_nil (hK6 _ _ _ _ ?_); refine HC_cond rfl (fun h7 => ?_) (fun h7 => ?_)
  · try exact Bool.noConfusion h7
    try simp only [ZZ] at h7
    refine HC_skip (hK5 _ _ _ _ ?_); refine HC_seq fun K8 hK8 => HC_block ?_
    have hil : i < items.length := by omega
    have hix := itm_get hil
    have hini := hin i hil
    have hbi := hb i _ hix.1
    obtain ⟨sv, hsv⟩ : ∃ x, x = rootV (itm items i) (inTy k 0 ins i) := ⟨_, rfl⟩
    have htki := htk i _ hix.1
    rw [← hsv] at hbi htki
    refine HC_drawB [] [(0, .pure), (3, .pure), (5, .pure), (7, .pure), (8, .pure), (11, .grow (geNew (slV 1) (.cells #[strV sv] 9 (0, 0))))] 12 [0, 1, 2, 3, 4, 5, 6, 7, 8, 9, 10, 11] (by kernel_rfl) (by kernel_rfl) (by first | exact (fun _ h => nomatch h) | simp [SubS] | (intro p hp; simp [hp])) ?_; refine HB_p (k := 0) rfl rfl rfl rfl rfl (fun _ hS => (R_move rfl)) ?_; refine HB_r (k := 1) rfl rfl rfl rfl rfl (R_loadArr (xs := (Ty.mk k n p ins).cells) (n := 3) rfl (known_L (k := 1) rfl) rfl rfl (Ty.mk k n p ins).len) ?_; refine HB_r (k := 2) rfl rfl rfl rfl rfl (R_loadArr (xs := (Vl.mk a b c d bits pb items pi pick).cells) (n := 7) rfl (known_L (k := 0) rfl) rfl rfl (Vl.mk a b c d bits pb items pi pick).len) ?_; refine HB_p (k := 3) rfl rfl rfl rfl rfl (fun _ hS => (R_move rfl)) ?_; refine HB_callR (k := 4) rfl rfl rfl rfl rfl (enters_of Tryz.func77 (by kernel_rfl) rfl) hini (fun q hq => Or.inr hq) ?_
    refine HB_p (k := 5) rfl rfl rfl rfl rfl (fun _ hS => (R_fieldAddr rfl rfl (by first | (simp only [Nat.zero_add, Nat.reduceAdd, Nat.reduceMul, Nat.zero_mul, Nat.mul_one, Nat.add_zero]; exact rfl) | exact rfl))) ?_; refine HB_r (k := 6) rfl rfl rfl rfl rfl (R_load rfl (known_L (k := 0) rfl) rfl rfl) ?_; refine HB_p (k := 7) rfl rfl rfl rfl rfl (fun _ hS => (R_move rfl)) ?_
    refine HB_p (k := 8) rfl rfl rfl rfl rfl (fun E' hS => R_indexPl (j := i) rfl hs rfl rfl rfl (by first | rfl | omega) hil) ?_; refine HB_r (k := 9) rfl rfl rfl rfl rfl (R_loadVl (fun q hq => Or.inr hq) rfl hs hix.1 rfl rfl) ?_; refine HB_callR (k := 10) rfl rfl rfl rfl rfl (enters_of Tryz.func61 (by kernel_rfl) rfl) hbi (fun q hq => Or.inr hq) ?_; refine HB_buildSlice (k := 11) (n := 1) (sz := 1) (vs := [_]) (zs := [_]) (r := [strV sv]) rfl rfl rfl rfl rfl rfl rfl rfl rfl rfl rfl (by show (madeCells #[_] _).toList = _; rw [made_one]; exact rfl) rfl fun rv => ?_; refine HB_end ?_; refine HL_appendRow (L0 := [_, _, _]) (xs := chC (RS.take i)) (row := row) (n := i) (sz := 1) (b := 16) (news := [strV sv]) (List.perm_append_comm (l₁ := [_, _, _])) rfl rfl rfl rfl (known_L (k := 0) rfl) rfl rfl rfl rfl rfl (by decide) rfl rfl rfl (by decide) hrow (by omega) (by omega) fun ra cap sp hra => ?_; refine HLm rfl (HL_nil ?_); refine HQ_blockN (hK8 _ _ _ _ ?_); refine HC_region (HLm rfl ?_)
    refine HLp rfl ?_; refine HL_as (show _ = Value.int .i64 ((i + 1 : Nat) : Int) from by rw [wrap_i64 (by omega) (by omega)]; congr 1 <;> omega) ?_; refine HLm rfl (HL_nil (HQ_then ?_)); refine HQ_sel [2, 3, 0] (L' := [_, _, _]) (by decide) rfl ?_; exact HQ_again (i + 1, some (ra, cap, sp)) ⟨by simp only; omega, by simp only; rw [htki, chC_snoc]; exact hra⟩ (by simp only; omega) (.cons rfl (.cons rfl (.cons rfl (.cons rfl .nil)))) (by simp only; rw [htki, chC_snoc]; exact List.Sublist.refl _) (fun _ _ h => h)
  · try exact Bool.noConfusion h7
    try simp only [ZZ] at h7
    refine HC_exit (HQ_thenE ?_); refine HQ_thenE (HQ_blockE (hK3 _ _ _ _ ?_)); refine HC_seq fun K9 hK9 => ?_
    have hin2 : i = items.length := by omega
    rw [hin2, ← hRL, List.take_length] at hrow; rw [hin2, ← hRL, List.take_length]; refine HC_region (HLm rfl (HLm rfl ?_)); refine HL_nil (hK9 _ _ _ _ ?_); refine HC_ret ?_; refine HQ_post rfl rfl (.cons (res_tmp rfl) .nil) (fun w1 hs1 => ?_); exact ⟨⟨row, hrow⟩, rfl, hs1.weakL (.cons _ (.cons _ (List.Sublist.refl _)))⟩
set_option maxHeartbeats 1000000 in
set_option maxRecDepth 10000 in
theorem S_rrow1 {R : List (Nat × Obj)} {k : Int} {n : Nat} {p : Pl} {x0 : Ty} {a b c d : Nat} {bits : List Bool} {pb : Pl} {items : List Vl} {pi : Pl} {pick : Int} (ht : Ty.In R (.mk k (n : Int) p [x0])) (hv : Vl.In R (.mk a b c d bits pb items pi pick)) (hk7 : k ≠ 7) (hk8 : k ≠ 8) (hc : chk x0 0 = 0) (hl : items.length ≤ n) (hn : n ≤ 512)
    (hfit : ∀ v ∈ items, fitT v x0 = 0) (hw : ∀ v ∈ items, wV v ≤ 20000) (hIn : ∀ v ∈ items, v.In R)
    (hb : ∀ (i : Nat) x, items[i]? = some x → PureR Tryz.prog 61 [x0.val, x.val].toArray (strV (rootV x x0)) R) :
    PureR Tryz.prog 114 [Ty.val (.mk k (n : Int) p [x0]), Vl.val (.mk a b c d bits pb items pi pick)].toArray (strV (rowM k (n : Int) [x0] items (rootL items k 0 [x0] 0))) R := by
  have hs : Seg R items.length (vlsC items) pi := by cases hv; assumption
  have hro := T_rroots ht hv hk8 (by omega) (fun i _ => by unfold inX; rw [if_neg hk7, if_neg hk8]; exact Nat.lt_succ_self 0) (fun i x hx => by rw [inTy_one hk7 hk8]; exact hb i x hx)
  have hrl := rootL_len items k 0 [x0] 0
  have hr32 : ∀ s ∈ rootL items k 0 [x0] 0, s.length = 32 := fun s hs => by
    obtain ⟨j, x, h1, rfl⟩ := rootL_mem hs
    rw [inTy_one hk7 hk8]; exact rootV_len x x0 0 hc (hfit x (List.mem_of_getElem? h1))
  have hM : rowM k (n : Int) [x0] items (rootL items k 0 [x0] 0) = if plainT x0 = true then rootC (cutC (catB items x0)) ((n * (sizT x0).toNat + 31) / 32) else rootC (rootL items k 0 [x0] 0) n := by
    unfold rowM
    rw [if_neg hk7]; rfl
  rw [hM, plain_k hc]
  have hx0 := ht.sub x0 List.mem_cons_self
  cases ht with
  | @mk k n p ins hk hn2 hlt hst hit =>
  refine pureR_of_HC Tryz.func114 rfl rfl fun w => ?_; refine HC_seq fun K1 hK1 => HC_region ?_; refine HL_box (cs := #[_, _, _]) rfl rfl rfl rfl fun r1 => ?_; refine HL_box (cs := #[_, _, _, _, _, _, _]) rfl rfl rfl rfl fun r2 => ?_; refine HLm rfl ?_; refine HL_nil (hK1 _ _ _ _ ?_); refine HC_seq fun K2 hK2 => ?_; refine HC_seq fun K3 hK3 => HC_region ?_
  refine HL_r rfl rfl rfl rfl (R_fieldAddr rfl rfl (by first | (simp only [Nat.zero_add, Nat.reduceAdd, Nat.reduceMul, Nat.zero_mul, Nat.mul_one, Nat.add_zero]; exact rfl) | exact rfl)) ?_; refine HL_r rfl rfl rfl rfl (R_load rfl (known_L (k := 1) rfl) rfl rfl) ?_; refine HLp rfl ?_; refine HL_nil (hK3 _ _ _ _ ?_); refine HC_cond rfl (fun h4 => ?_) (fun h4 => ?_)
  · exact absurd h4 (by simpa using hk7)
  · try exact Bool.noConfusion h4
    try simp only [ZZ] at h4
    refine HC_skip (hK2 _ _ _ _ ?_); refine HC_seq fun K5 hK5 => ?_; refine HC_seq fun K6 hK6 => HC_region ?_
    refine HL_r rfl rfl rfl rfl (R_fieldAddr rfl rfl (by first | (simp only [Nat.zero_add, Nat.reduceAdd, Nat.reduceMul, Nat.zero_mul, Nat.mul_one, Nat.add_zero]; exact rfl) | exact rfl)) ?_; refine HL_r rfl rfl rfl rfl (R_load rfl (known_L (k := 1) rfl) rfl rfl) ?_
    refine HL_r rfl rfl rfl rfl (R_indexPl (j := 0) rfl hst rfl rfl rfl (by first | rfl | omega) (Nat.lt_succ_self 0)) ?_; refine HL_r rfl rfl rfl rfl (R_fieldAddr (off' := plO p) rfl rfl rfl) ?_; refine HL_r rfl rfl rfl rfl (R_loadPl (j := 0) (v := .int .i64 x0.k) (fun q hq => Or.inr hq) rfl hst (Nat.lt_succ_self 0) rfl (by cases x0; rfl)) ?_; refine HLp rfl ?_; refine HL_nil (hK6 _ _ _ _ ?_); refine HC_cond rfl (fun h7 => ?_) (fun h7 => ?_)
    · try exact Bool.noConfusion h7
      try simp only [ZZ] at h7
      refine HC_seq fun K8 hK8 => ?_
      refine HC_drawB [] [(2, .grow (geCall (rowP0 (rootL items k 0 [x0] 0)) (fun x => rV x) (fun x => rL x))), (3, .pure), (6, .pure)] 7 [0, 1, 3, 4, 2, 5, 6] (by kernel_rfl) (by kernel_rfl) (by first | exact (fun _ h => nomatch h) | simp [SubS] | (intro p hp; simp [hp])) ?_; refine HB_r (k := 0) rfl rfl rfl rfl rfl (R_loadArr (xs := (Ty.mk k (n : Int) p [x0]).cells) (n := 3) rfl (known_L (k := 1) rfl) rfl rfl (Ty.mk k (n : Int) p [x0]).len) ?_; refine HB_r (k := 1) rfl rfl rfl rfl rfl (R_loadArr (xs := (Vl.mk a b c d bits pb items pi pick).cells) (n := 7) rfl (known_L (k := 0) rfl) rfl rfl (Vl.mk a b c d bits pb items pi pick).len) ?_
      refine HB_p (k := 3) rfl rfl rfl rfl rfl (fun _ hS => (R_fieldAddr rfl rfl (by first | (simp only [Nat.zero_add, Nat.reduceAdd, Nat.reduceMul, Nat.zero_mul, Nat.mul_one, Nat.add_zero]; exact rfl) | exact rfl))) ?_; refine HB_r (k := 4) rfl rfl rfl rfl rfl (R_load rfl (known_L (k := 1) rfl) rfl rfl) ?_
      refine HB_callRE (k := 2) rfl rfl rfl rfl rfl (enters_of Tryz.func185 (by kernel_rfl) rfl) hro (fun q hq => by first | exact .inr hq | cases hq) fun x => ?_; refine HB_callR (k := 5) rfl rfl rfl rfl rfl (enters_of Tryz.func55 (by kernel_rfl) rfl) (S_rtree (m := n) (by omega) (by omega) (rowP_seg x.2 (by decide)) hr32) (fun q hq => .inl (List.mem_append_left _ hq)) ?_; refine HB_p (k := 6) rfl rfl rfl rfl rfl (fun _ hS => (R_assign rfl)) ?_; refine HB_end ?_; refine HL_nil (hK8 _ _ _ _ ?_); refine HC_ret (HQ_thenR ?_); refine HQ_post rfl rfl (.cons (res_tmp rfl) .nil) (fun w1 hs1 => ?_); refine ⟨?_, hs1.keep⟩; rw [if_neg (by rw [decide_eq_true_eq]; omega)]; rfl
    · try exact Bool.noConfusion h7
      try simp only [ZZ] at h7
      refine HC_skip (hK5 _ _ _ _ ?_); refine HC_seq fun K9 hK9 => ?_
      have hk2 : ¬ x0.k > 2 := by omega
      have hp : plainT x0 = true := by rw [plain_k hc]; exact decide_eq_true hk2
      obtain ⟨f1, f2, f3, f4⟩ := plain_fix hc hp
      obtain ⟨z, hz⟩ : ∃ z, z = (sizT x0).toNat := ⟨_, rfl⟩
      have hSz := S_ref_Size hx0
      have hsz : sizeT x0 = (z : Int) := by unfold sizeT; rw [if_pos f1]; omega
      rw [hsz] at hSz
      have hnz : n * z ≤ 16384 := by
        have := Nat.mul_le_mul hn (show z ≤ 32 by omega)
        omega
      obtain ⟨C, hC⟩ : ∃ C, C = catB items x0 := ⟨_, rfl⟩
      have hCl : C.length = items.length * z := by rw [hC]; exact cat_len' fun v hv => by have := f4 v (hfit v hv); omega
      have hCn : C.length ≤ n * z := by rw [hCl]; exact Nat.mul_le_mul_right _ hl
      have hcn : (cutC C).length ≤ (n * z + 31) / 32 := by rw [cutC_len]; unfold cutN; omega
      refine HC_region (HLm rfl ?_); refine HL_nil (hK9 _ _ _ _ ?_); refine HC_seq fun K10 hK10 => ?_; refine HC_seq fun K11 hK11 => HC_region ?_; refine HLm rfl ?_; refine HL_nil (hK11 _ _ _ _ ?_); refine HC_block (HC_loop (σ := Nat) (fun i => i ≤ items.length) (fun i => [(2, pt0 r1), (3, pt0 r2), (5, strV (catB (items.take i) x0)), (6, .int .i64 (i : Int))]) (fun _ => [vBlk r2 (Vl.mk a b c d bits pb items pi pick), tBlk r1 (Ty.mk k (n : Int) p [x0])]) (fun _ _ _ => True) (fun i => items.length - i) 0 (Nat.zero_le _) (.cons rfl (.cons rfl (.cons rfl (.cons rfl .nil)))) (List.Sublist.refl _) (fun _ _ h => h) ?_); intro i hi1; change HC _ _ _ ((r2, _) :: (r1, _) :: []) _ _ _; refine HC_seq fun K12 hK12 => ?_; refine HC_seq fun K13 hK13 => HC_region ?_; refine HLm rfl ?_
      refine HL_r rfl rfl rfl rfl (R_fieldAddr rfl rfl (by first | (simp only [Nat.zero_add, Nat.reduceAdd, Nat.reduceMul, Nat.zero_mul, Nat.mul_one, Nat.add_zero]; exact rfl) | exact rfl)) ?_; refine HL_r rfl rfl rfl rfl (R_load rfl (known_L (k := 0) rfl) rfl rfl) ?_; refine HL_r rfl rfl rfl rfl (R_lenPl rfl hs rfl) ?_; refine HLp rfl ?_; refine HL_nil (hK13 _ _ _ _ ?_); refine HC_cond rfl (fun h14 => ?_) (fun h14 => ?_)
      · try exact Bool.noConfusion h14
        try simp only [ZZ] at h14
        refine HC_skip (hK12 _ _ _ _ ?_); refine HC_seq fun K15 hK15 => HC_block ?_
        have hil : i < items.length := by omega
        have hix := itm_get hil
        have hpr := putR_plain hc hp (hfit _ hix.2)
        have hby := S_rBytes (hIn _ hix.2) x0 0 hx0 hc (hfit _ hix.2) (hw _ hix.2)
        have hsn := catB_take (x := x0) hix.1
        have hcl := catB_le (x := x0) (l := items.take i) fun v hv => (putR_plain hc hp (hfit v (List.mem_of_mem_take hv))).2
        rw [List.length_take] at hcl
        have hp2 := hpr.2
        refine HC_draw 13 (by kernel_rfl) (by kernel_rfl) ?_; refine HD_r rfl rfl rfl (R_move rfl) ?_
        refine HD_r rfl rfl rfl (R_fieldAddr rfl rfl (by first | (simp only [Nat.zero_add, Nat.reduceAdd, Nat.reduceMul, Nat.zero_mul, Nat.mul_one, Nat.add_zero]; exact rfl) | exact rfl)) ?_; refine HD_r rfl rfl rfl (R_load rfl (known_L (k := 1) rfl) rfl rfl) ?_
        refine HD_r rfl rfl rfl (R_indexPl (j := 0) rfl hst rfl rfl rfl (by first | rfl | omega) (Nat.lt_succ_self 0)) ?_; refine HD_r rfl rfl rfl (R_loadTy (fun q hq => Or.inr hq) rfl hst (show [x0][0]? = some x0 from rfl) rfl rfl) ?_
        refine HD_r rfl rfl rfl (R_fieldAddr rfl rfl (by first | (simp only [Nat.zero_add, Nat.reduceAdd, Nat.reduceMul, Nat.zero_mul, Nat.mul_one, Nat.add_zero]; exact rfl) | exact rfl)) ?_; refine HD_r rfl rfl rfl (R_load rfl (known_L (k := 0) rfl) rfl rfl) ?_; refine HD_r rfl rfl rfl (R_move rfl) ?_
        refine HD_r rfl rfl rfl (R_indexPl (j := i) rfl hs rfl rfl rfl (by first | rfl | omega) (by omega)) ?_; refine HD_r rfl rfl rfl (R_loadVl (fun q hq => Or.inr hq) rfl hs hix.1 rfl rfl) ?_; refine HD_callR rfl rfl rfl (enters_of Tryz.func39 (by kernel_rfl) rfl) hby (fun q hq => Or.inr hq) ?_; refine HD_r rfl rfl rfl (R_concat (a := catB (items.take i) x0) (b := putV (itm items i) x0) rfl rfl (by omega)) ?_; refine HD_as (show _ = strV (catB (items.take (i + 1)) x0) from by rw [hsn]) ?_; refine HD_r rfl rfl rfl (R_assign rfl) ?_; refine HD_end ?_; refine HL_nil ?_; refine HQ_blockN (hK15 _ _ _ _ ?_); refine HC_region (HLm rfl ?_)
        refine HLp rfl ?_; refine HL_as (show _ = Value.int .i64 ((i + 1 : Nat) : Int) from by rw [wrap_i64 (by omega) (by omega)]; congr 1 <;> omega) ?_; refine HLm rfl (HL_nil (HQ_then ?_)); exact HQ_again (i + 1) (by omega) (by omega) (.cons rfl (.cons rfl (.cons rfl (.cons rfl .nil)))) (List.Sublist.refl _) (fun _ _ h => h)
      · try exact Bool.noConfusion h14
        try simp only [ZZ] at h14
        refine HC_exit (HQ_thenE ?_); refine HQ_thenE (HQ_blockE (hK10 _ _ _ _ ?_)); refine HC_seq fun K16 hK16 => ?_
        have hie : i = items.length := by omega
        rw [hie, List.take_length, ← hC]
        refine HC_drawB [] [(0, .pure), (1, .grow (geCall (rowP0 (cutC C)) (fun x => rV x) (fun x => rL x))), (2, .pure), (4, .pure), (6, .pure), (9, .pure), (10, .pure), (11, .pure), (13, .pure)] 14 [0, 2, 3, 4, 5, 6, 7, 1, 8, 9, 10, 11, 12, 13] (by kernel_rfl) (by kernel_rfl) (by first | exact (fun _ h => nomatch h) | simp [SubS] | (intro p hp; simp [hp])) ?_; refine HB_p (k := 0) rfl rfl rfl rfl rfl (fun _ hS => (R_move rfl)) ?_
        refine HB_p (k := 2) rfl rfl rfl rfl rfl (fun _ hS => (R_fieldAddr rfl rfl (by first | (simp only [Nat.zero_add, Nat.reduceAdd, Nat.reduceMul, Nat.zero_mul, Nat.mul_one, Nat.add_zero]; exact rfl) | exact rfl))) ?_; refine HB_r (k := 3) rfl rfl rfl rfl rfl (R_load rfl (known_L (k := 1) rfl) rfl rfl) ?_
        refine HB_p (k := 4) rfl rfl rfl rfl rfl (fun _ hS => (R_fieldAddr rfl rfl (by first | (simp only [Nat.zero_add, Nat.reduceAdd, Nat.reduceMul, Nat.zero_mul, Nat.mul_one, Nat.add_zero]; exact rfl) | exact rfl))) ?_; refine HB_r (k := 5) rfl rfl rfl rfl rfl (R_load rfl (known_L (k := 1) rfl) rfl rfl) ?_
        refine HB_p (k := 6) rfl rfl rfl rfl rfl (fun E' hS => R_indexPl (j := 0) rfl hst rfl rfl rfl (by first | rfl | omega) (Nat.lt_succ_self 0)) ?_; refine HB_r (k := 7) rfl rfl rfl rfl rfl (R_loadTy (fun q hq => Or.inr hq) rfl hst (show [x0][0]? = some x0 from rfl) rfl rfl) ?_
        refine HB_callRE (k := 1) rfl rfl rfl rfl rfl (enters_of Tryz.func115 (by kernel_rfl) rfl) (T_rchunksP (s := C) (by omega)) (fun q hq => by first | exact .inr hq | cases hq) fun x => ?_; refine HB_callR (k := 8) rfl rfl rfl rfl rfl (enters_of Tryz.func86 (by kernel_rfl) rfl) hSz (fun q hq => Or.inr hq) ?_; refine HB_p (k := 9) rfl rfl rfl rfl rfl (fun _ _ => (R_pure rfl rfl rfl)) ?_; refine HB_as (show _ = Value.int .i64 ((n * z : Nat) : Int) from congrArg (Value.int .i64) (by rw [← Int.natCast_mul]; exact wrap_i64 (by omega) (by omega))) ?_
        refine HB_p (k := 10) rfl rfl rfl rfl rfl (fun _ _ => (R_pure rfl rfl rfl)) ?_; refine HB_as (show _ = Value.int .i64 ((n * z + 31 : Nat) : Int) from congrArg (Value.int .i64) (by first | exact rem_nat _ _ | exact quo_i64 (by omega) (by decide) (by omega) | (rw [wrap_i64 (by omega) (by omega)]; omega))) ?_
        refine HB_p (k := 11) rfl rfl rfl rfl rfl (fun _ _ => (R_pure rfl rfl rfl)) ?_; refine HB_as (show _ = Value.int .i64 (((n * z + 31) / 32 : Nat) : Int) from congrArg (Value.int .i64) (by first | exact rem_nat _ _ | exact quo_i64 (by omega) (by decide) (by omega) | (rw [wrap_i64 (by omega) (by omega)]; omega))) ?_; refine HB_callR (k := 12) rfl rfl rfl rfl rfl (enters_of Tryz.func55 (by kernel_rfl) rfl) (S_rtree hcn (by omega) (rowP_seg x.2 (by decide)) (cutC_32 _)) (fun q hq => .inl (List.mem_append_left _ hq)) ?_; refine HB_p (k := 13) rfl rfl rfl rfl rfl (fun _ hS => (R_assign rfl)) ?_; refine HB_end ?_; refine HL_nil (hK16 _ _ _ _ ?_); refine HC_ret ?_; refine HQ_post rfl rfl (.cons (res_tmp rfl) .nil) (fun w1 hs1 => ?_); refine ⟨?_, hs1.keep⟩; rw [if_pos (decide_eq_true hk2), ← hz, ← hC]; rfl
set_option maxRecDepth 10000 in
theorem S_rrow7 {R : List (Nat × Obj)} {n : Int} {p : Pl} {ins : List Ty} {a b c d : Nat} {bits : List Bool} {pb : Pl} {items : List Vl} {pi : Pl} {pick : Int} {l : List BS} (hst : Seg R ins.length (tysC ins) p) (hl : l.length ≤ ins.length) (hn : ins.length ≤ 16) (h32 : ∀ s ∈ l, s.length = 32)
    (h : PureT (α := RowOf l) Tryz.prog 185 [Ty.val (.mk 7 n p ins), Vl.val (.mk a b c d bits pb items pi pick)].toArray (fun x => rV x) [] (fun x => rL x) R) :
    PureR Tryz.prog 114 [Ty.val (.mk 7 n p ins), Vl.val (.mk a b c d bits pb items pi pick)].toArray (strV (rootC l ins.length)) R := by
  refine pureR_of_HC Tryz.func114 rfl rfl fun w => ?_; refine HC_seq fun K1 hK1 => HC_region ?_; refine HL_box (cs := #[_, _, _]) rfl rfl rfl rfl fun r1 => ?_; refine HL_box (cs := #[_, _, _, _, _, _, _]) rfl rfl rfl rfl fun r2 => ?_; refine HLm rfl ?_; refine HL_nil (hK1 _ _ _ _ ?_); refine HC_seq fun K2 hK2 => ?_; refine HC_seq fun K3 hK3 => HC_region ?_
  refine HL_r rfl rfl rfl rfl (R_fieldAddr rfl rfl (by first | (simp only [Nat.zero_add, Nat.reduceAdd, Nat.reduceMul, Nat.zero_mul, Nat.mul_one, Nat.add_zero]; exact rfl) | exact rfl)) ?_; refine HL_r rfl rfl rfl rfl (R_load rfl (known_L (k := 1) rfl) rfl rfl) ?_; refine HLp rfl ?_; refine HL_nil (hK3 _ _ _ _ ?_); refine HC_cond rfl (fun h4 => ?_) (fun h4 => ?_)
  · try exact Bool.noConfusion h4
    try simp only [ZZ] at h4
    refine HC_seq fun K5 hK5 => ?_
    refine HC_drawB [] [(2, .grow (geCall (rowP0 l) (fun x => rV x) (fun x => rL x))), (3, .pure), (5, .pure), (7, .pure)] 8 [0, 1, 3, 4, 5, 2, 6, 7] (by kernel_rfl) (by kernel_rfl) (by first | exact (fun _ h => nomatch h) | simp [SubS] | (intro p hp; simp [hp])) ?_; refine HB_r (k := 0) rfl rfl rfl rfl rfl (R_loadArr (xs := (Ty.mk 7 n p ins).cells) (n := 3) rfl (known_L (k := 1) rfl) rfl rfl (Ty.mk 7 n p ins).len) ?_; refine HB_r (k := 1) rfl rfl rfl rfl rfl (R_loadArr (xs := (Vl.mk a b c d bits pb items pi pick).cells) (n := 7) rfl (known_L (k := 0) rfl) rfl rfl (Vl.mk a b c d bits pb items pi pick).len) ?_
    refine HB_p (k := 3) rfl rfl rfl rfl rfl (fun _ hS => (R_fieldAddr rfl rfl (by first | (simp only [Nat.zero_add, Nat.reduceAdd, Nat.reduceMul, Nat.zero_mul, Nat.mul_one, Nat.add_zero]; exact rfl) | exact rfl))) ?_; refine HB_r (k := 4) rfl rfl rfl rfl rfl (R_load rfl (known_L (k := 1) rfl) rfl rfl) ?_; refine HB_p (k := 5) rfl rfl rfl rfl rfl (fun _ hS => (R_lenPl rfl hst rfl)) ?_
    refine HB_callRE (k := 2) rfl rfl rfl rfl rfl (enters_of Tryz.func185 (by kernel_rfl) rfl) h (fun q hq => by first | exact .inr hq | cases hq) fun x => ?_; refine HB_callR (k := 6) rfl rfl rfl rfl rfl (enters_of Tryz.func55 (by kernel_rfl) rfl) (S_rtree hl (by omega) (rowP_seg x.2 (by decide)) h32) (fun q hq => .inl (List.mem_append_left _ hq)) ?_; refine HB_p (k := 7) rfl rfl rfl rfl rfl (fun _ hS => (R_assign rfl)) ?_; refine HB_end ?_; refine HL_nil (hK5 _ _ _ _ ?_); refine HC_ret (HQ_thenR ?_); refine HQ_post rfl rfl (.cons (res_tmp rfl) .nil) (fun w1 hs1 => ?_); exact ⟨rfl, hs1.keep⟩
  · exact absurd h4 (by decide)
end Go.Proofs.YtlcbfphioeppaaaGreatDoor
