import Derived.Test.YtlcbfphioeppaaaGreatDoorQgc
import Derived.RecoverIn
namespace Go.Proofs.YtlcbfphioeppaaaGreatDoor
set_option linter.all false
open Go.SL Go.RowKit Go.Shelf
/-! ### The bits of a value; the reference's bytes of bits -/
set_option maxRecDepth 10000 in
theorem S_b1 {R : List (Nat × Obj)} {a b c d : Nat} {bits : List Bool} {pb : Pl} {items : List Vl} {pi : Pl} {pick : Int} (hsb : Seg R bits.length (bitsC bits) pb) (hl : bits.length ≤ 9223372036854775807) (rv : Nat) {i : Nat} (hi : i < bits.length) :
    PureR Tryz.prog 70 [.int .i64 (i : Int), pt0 rv].toArray (.bool (bits.getD i false)) (vBlk rv (.mk a b c d bits pb items pi pick) :: R) := by
  have hsb := hsb.mono (R' := vBlk rv (.mk a b c d bits pb items pi pick) :: R) fun q hq => List.mem_cons_of_mem _ hq
  have hy : bits[i]? = some (bits.getD i false) := by rw [List.getD_eq_getElem?_getD, List.getElem?_eq_getElem hi]; rfl
  generalize bits.getD i false = y at hy ⊢
  refine pureR_of_HC Tryz.func70 rfl rfl fun w => ?_; refine HC_seq fun K1 hK1 => HC_region ?_; refine HLm rfl ?_; refine HL_nil (hK1 _ _ _ _ ?_); refine HC_seq fun K2 hK2 => HC_region ?_
  refine HL_r rfl rfl rfl rfl (R_fieldAddr rfl rfl (by first | (simp only [Nat.zero_add, Nat.reduceAdd, Nat.reduceMul, Nat.zero_mul, Nat.mul_one, Nat.add_zero]; exact rfl) | exact rfl)) ?_; refine HL_r rfl rfl rfl rfl (R_load rfl (known_R (k := 0) rfl) rfl rfl) ?_; refine HLm rfl ?_
  refine HL_r rfl rfl rfl rfl (R_indexPl (j := i) rfl hsb rfl rfl rfl (by first | rfl | omega) (by omega)) ?_; refine HL_r rfl rfl rfl rfl (R_loadBit (fun q hq => Or.inr hq) rfl hsb hy rfl) ?_; refine HLm rfl ?_; refine HL_nil (hK2 _ _ _ _ ?_); refine HC_ret ?_; refine HQ_post rfl rfl (.cons (res_tmp rfl) .nil) (fun w1 hs1 => ?_); exact ⟨rfl, hs1.keep⟩
set_option maxRecDepth 10000 in
theorem S_b2 {R : List (Nat × Obj)} {a b c d : Nat} {bits : List Bool} {pb : Pl} {items : List Vl} {pi : Pl} {pick : Int} (hsb : Seg R bits.length (bitsC bits) pb) (hl : bits.length ≤ 9223372036854775807) (rn rv : Nat) {i : Nat} (hi : i < (bits ++ [true]).length) :
    PureR Tryz.prog 71 [.int .i64 (i : Int), pt0 rn, pt0 rv].toArray (.bool ((bits ++ [true]).getD i false)) (iBlk rn bits.length :: vBlk rv (.mk a b c d bits pb items pi pick) :: R) := by
  have hsb := hsb.mono (R' := iBlk rn bits.length :: vBlk rv (.mk a b c d bits pb items pi pick) :: R) fun q hq => List.mem_cons_of_mem _ (List.mem_cons_of_mem _ hq)
  rw [List.length_append] at hi; simp only [List.length_cons, List.length_nil] at hi
  by_cases he : i = bits.length
  · have hv : (bits ++ [true]).getD i false = true := by rw [List.getD_eq_getElem?_getD, List.getElem?_append_right (by omega), he, Nat.sub_self]; rfl
    rw [hv]; refine pureR_of_HC Tryz.func71 rfl rfl fun w => ?_; refine HC_seq fun K1 hK1 => HC_region ?_; refine HLm rfl ?_; refine HL_nil (hK1 _ _ _ _ ?_); refine HC_seq fun K2 hK2 => HC_region ?_; refine HLm rfl (HL_r rfl rfl rfl rfl (R_load (v := .int .i64 (bits.length : Int)) rfl (known_R (k := 0) rfl) rfl rfl) ?_); refine HLp rfl (HL_as (show _ = Value.bool true from bool_eq' (ieqT (by rw [he]))) ?_); refine HLm rfl (HL_skip rfl rfl rfl (HL_skip rfl rfl rfl ?_)); refine HL_skip rfl rfl rfl ?_; refine HL_skip rfl rfl rfl ?_; refine HL_skip rfl rfl rfl ?_; refine HL_r rfl rfl rfl rfl (R_pickT rfl rfl) ?_; refine HLm rfl ?_; refine HL_nil (hK2 _ _ _ _ ?_); refine HC_ret ?_; refine HQ_post rfl rfl (.cons (res_tmp rfl) .nil) (fun w1 hs1 => ?_); exact ⟨rfl, hs1.keep⟩
  · have hy : bits[i]? = some (bits.getD i false) := by rw [List.getD_eq_getElem?_getD, List.getElem?_eq_getElem (by omega)]; rfl
    have hv : (bits ++ [true]).getD i false = bits.getD i false := by rw [List.getD_eq_getElem?_getD, List.getElem?_append_left (by omega), List.getD_eq_getElem?_getD]
    rw [hv]
    generalize bits.getD i false = y at hy ⊢
    have hne : ((i : Int) == (bits.length : Int)) = false := by simp; omega
    refine pureR_of_HC Tryz.func71 rfl rfl fun w => ?_; refine HC_seq fun K1 hK1 => HC_region ?_; refine HLm rfl ?_; refine HL_nil (hK1 _ _ _ _ ?_); refine HC_seq fun K2 hK2 => HC_region ?_; refine HLm rfl (HL_r rfl rfl rfl rfl (R_load (v := .int .i64 (bits.length : Int)) rfl (known_R (k := 0) rfl) rfl rfl) ?_); refine HLp rfl (HL_as (show _ = Value.bool false from bool_eq' (hne)) (HLm rfl ?_))
    refine HL_r rfl rfl rfl rfl (R_fieldAddr rfl rfl (by first | (simp only [Nat.zero_add, Nat.reduceAdd, Nat.reduceMul, Nat.zero_mul, Nat.mul_one, Nat.add_zero]; exact rfl) | exact rfl)) ?_; refine HL_r rfl rfl rfl rfl (R_load rfl (known_R (k := 1) rfl) rfl rfl) ?_; refine HLm rfl ?_
    refine HL_r rfl rfl rfl rfl (R_indexPl (j := i) rfl hsb rfl rfl rfl (by first | rfl | omega) (by omega)) ?_; refine HL_r rfl rfl rfl rfl (R_loadBit (fun q hq => Or.inr hq) rfl hsb hy rfl) ?_; refine HL_r rfl rfl rfl rfl (R_pickF rfl rfl) ?_; refine HLm rfl ?_; refine HL_nil (hK2 _ _ _ _ ?_); refine HC_ret ?_; refine HQ_post rfl rfl (.cons (res_tmp rfl) .nil) (fun w1 hs1 => ?_); exact ⟨rfl, hs1.keep⟩
end Go.Proofs.YtlcbfphioeppaaaGreatDoor
namespace Go.Proofs.YtlcbfphioeppaaaGreatDoor
set_option linter.all false
open Go.SL Go.RowKit Go.Shelf
/-! ### Rows of bytes -/
theorem inTy_n8 {k : Int} (h8 : k ≠ 8) (pick : Int) (ins : List Ty) (i : Nat) : inTy k pick ins i = inTy k 0 ins i := by
  unfold inTy inX; split
  · rfl
  · simp [h8]
theorem putL_n8 {k : Int} (h8 : k ≠ 8) (pick : Int) (ins : List Ty) : ∀ (l : List Vl) (i : Nat), putL l k pick ins i = putL l k 0 ins i
  | [], i => by rw [putL, putL]
  | x :: xs, i => by rw [putL, putL, putL_n8 h8 pick ins xs (i + 1), inTy_n8 h8]
theorem putL_tys {k : Int} (ins : List Ty) : ∀ (l : List Vl) (i : Nat), (putL l k 0 ins i).map Prod.fst = (List.range' i l.length).map fun j => inTy k 0 ins j
  | [], i => by rw [putL]; rfl
  | x :: xs, i => by
    rw [putL, List.map_cons, putL_tys ins xs (i + 1), List.length_cons, List.range'_succ, List.map_cons]
theorem tysN_put (k : Int) (ins : List Ty) (l : List Vl) : (putL l k 0 ins 0).map Prod.fst = tysN k ins l.length := by
  rw [putL_tys]; unfold tysN; rw [List.range_eq_range']
theorem perm_x3 {α : Type} (A : List α) (x : α) (B : List α) : (A ++ x :: B).Perm (B ++ (A ++ [x])) := by
  rw [show A ++ x :: B = (A ++ [x]) ++ B by simp]; exact List.perm_append_comm
def restB (l : List (Ty × BS)) : Nat := (l.map fun p => p.2.length + 4).sum
theorem restB_cons (p : Ty × BS) (l : List (Ty × BS)) : restB (p :: l) = p.2.length + 4 + restB l := by unfold restB; rw [List.map_cons, List.sum_cons]
theorem bOk_nil : bOk [] none := ⟨⟨rfl, rfl⟩, fun _ => rfl⟩
set_option maxHeartbeats 1000000 in
set_option maxRecDepth 10000 in
theorem S_srow {R : List (Nat × Obj)} {k n : Int} {p : Pl} {ins : List Ty} {items : List Vl} {pi : Pl} {B : Nat} (ht : Ty.In R (.mk k n p ins)) (hs : Seg R items.length (vlsC items) pi) (hl : items.length ≤ 600) (hx : ∀ i, i < items.length → inX k 0 i < ins.length)
    (hb : ∀ (i : Nat) x, items[i]? = some x → PureR Tryz.prog 37 [(inTy k 0 ins i).val, x.val].toArray (strV (putV x (inTy k 0 ins i))) R) (hB : restB (putL items k 0 ins 0) ≤ B) (hB2 : B ≤ 900000) :
    PureR Tryz.prog 72 [Ty.val (.mk k n p ins), plV items.length pi].toArray (strV (rowF (begL (tysN k ins items.length)).toNat (putL items k 0 ins 0) [] [])) R := by
  have hti := fun i h => ht.sub _ (inTy_get (hx i h)).2
  have hbg := S_sbegin ht hl hx
  have hbl := begL_le (tysN k ins items.length)
  rw [tysN_len] at hbl
  obtain ⟨H, hH⟩ : ∃ H, H = (begL (tysN k ins items.length)).toNat := ⟨_, rfl⟩
  have hHi : begL (tysN k ins items.length) = (H : Int) := by omega
  have hHb : H ≤ 1351079888211148800 := by omega
  rw [hHi] at hbg; rw [← hH]
  obtain ⟨TOT, hTOT⟩ : ∃ T, T = rowF H (putL items k 0 ins 0) [] [] := ⟨_, rfl⟩
  rw [← hTOT]; refine pureR_of_HC Tryz.func72 rfl rfl fun w => ?_; refine HC_seq fun K1 hK1 => HC_region ?_; refine HL_box (cs := #[_, _, _]) rfl rfl rfl rfl fun r1 => ?_; refine HL_box (cs := #[_]) rfl rfl rfl rfl fun r2 => ?_; refine HLm rfl ?_; refine HL_nil (hK1 _ _ _ _ ?_); refine HC_seq fun K2 hK2 => HC_region ?_; refine HL_alloc (cs := #[_, _]) rfl rfl rfl rfl fun r3 => ?_; refine HL_alloc (cs := #[_, _]) rfl rfl rfl rfl fun r4 => ?_; refine HL_nil (hK2 _ _ _ _ ?_); refine HC_seq fun K3 hK3 => HC_region ?_; refine HL_r rfl rfl rfl rfl (R_loadA (vs := [_, _, _]) rfl (known_L (k := 3) rfl) rfl rfl rfl rfl) ?_; refine HL_r rfl rfl rfl rfl (R_load rfl (known_L (k := 2) rfl) rfl rfl) ?_; refine HL_r rfl rfl rfl rfl (R_lenPl rfl hs rfl) ?_; refine HL_callR rfl rfl rfl (enters_of Tryz.func120 (by kernel_rfl) rfl) hbg (fun q hq => Or.inr hq) ?_; refine HL_alloc (cs := #[_]) rfl rfl rfl rfl fun r5 => ?_
  refine HL_store (k := 0) rfl rfl rfl rfl rfl rfl rfl rfl (by first | (simp only [List.setIfInBounds_toArray, List.set_cons_zero, List.set_cons_succ]; exact rfl) | exact rfl) (by first | (simp only [List.set_cons_zero, List.set_cons_succ]; exact rfl) | exact rfl) ?_; refine HL_nil (hK3 _ _ _ _ ?_); refine HC_seq fun K4 hK4 => ?_; refine HC_seq fun K5 hK5 => HC_region ?_; refine HL_r rfl rfl rfl rfl (R_loadA (vs := [_, _, _]) rfl (known_L (k := 4) rfl) rfl rfl rfl rfl) ?_; refine HL_r rfl rfl rfl rfl (R_load rfl (known_L (k := 3) rfl) rfl rfl) ?_; refine HL_r rfl rfl rfl rfl (R_lenPl rfl hs rfl) ?_; refine HL_callPE rfl rfl rfl (enters_of Tryz.func121 (by kernel_rfl) rfl) (E_items (.mk k n p ins) (items.length : Int)) fun pp => ?_
  obtain ⟨ra, rb⟩ := pp
  change HL _ _ _ (iBlk rb items.length :: tBlk ra (.mk k n p ins) :: _) _ _ _ _; refine HL_nil (hK5 _ _ _ _ ?_); refine HC_block (HC_sel [4, 3, 0, 1, 2, 5, 6] (L' := [bldB r3 [] none false, bldB r4 [] none false, iBlk rb items.length, tBlk ra (.mk k n p ins), _, _, _]) (by decide) rfl ?_)
  refine HC_rangeR (τ := Unit) (fun i (s : BS × BS × Row × Row × Bool × Bool) => i ≤ items.length ∧ rowF H (putL (items.drop i) k 0 ins i) s.1 s.2.1 = TOT ∧ bOk s.1 s.2.2.1 ∧ bOk s.2.1 s.2.2.2.1 ∧ s.1.length + s.2.1.length + restB (putL (items.drop i) k 0 ins i) ≤ B) (fun s => bldL r3 s.1 s.2.2.1 s.2.2.2.2.1 ++ bldL r4 s.2.1 s.2.2.2.1 s.2.2.2.2.2) (fun _ _ => False) (fun _ => []) [iBlk rb items.length, tBlk ra (.mk k n p ins), _, _, _] ([], [], none, none, false, false) rfl rfl (enters_of Tryz.func189 (by kernel_rfl) rfl) (I_items ht (by omega) hx ra rb) (by rintro _ _ _ ⟨_, rfl, _⟩; rfl) rfl (fun q hq => by rcases List.mem_cons.1 hq with rfl | hq; exact .inl (by simp); rcases List.mem_cons.1 hq with rfl | hq; exact .inl (by simp); exact .inr hq) rfl ⟨Nat.zero_le _, hTOT.symm, bOk_nil, bOk_nil, by simpa using hB⟩ ?_ ?_ ?_
  · rintro q Xr Xb w3 i _ _ ⟨f, th, row1, row2, own1, own2⟩ ⟨hii, rfl, rfl⟩ ⟨him, hinv, hb1, hb2, hlen⟩ Kr hKr
    simp only at hinv hb1 hb2 hlen
    have hti1 := hti i hii
    have hix := itm_get hii
    have hbi := hb i _ hix.1
    rw [dropI hix.1, putL, rowF] at hinv; rw [dropI hix.1, putL, restB_cons] at hlen
    obtain ⟨S, hS⟩ : ∃ S, S = putV (itm items i) (inTy k 0 ins i) := ⟨_, rfl⟩
    simp only [← hS] at hinv hlen; rw [← hS] at hbi
    have hle4 := leR4_len (H + th.length)
    unfold itV
    refine HC_seq fun K6 hK6 => HC_region ?_; refine HLm rfl ?_; refine HL_nil (hK6 _ _ _ _ ?_); refine HC_region (HL_alloc (cs := #[.int .i64 0, .int .i64 0, .slice none 0 0]) rfl rfl rfl rfl fun r9 => (HL_storeArr (k := 0) (n := 3) (ys := (inTy k 0 ins i).cells) rfl rfl rfl rfl rfl (inTy k 0 ins i).len rfl (inTy k 0 ins i).one rfl ?_)); refine HL_nil ?_; refine hKr _ _ ?_; clear hKr; refine HC_block (HC_seq fun K7 hK7 => (HC_draw 7 (by kernel_rfl) (by kernel_rfl) ?_)); refine HD_r rfl rfl rfl (R_loadArr (xs := (inTy k 0 ins i).cells) (n := 3) rfl (known_L (k := 0) rfl) rfl rfl (inTy k 0 ins i).len) ?_; refine HD_r rfl rfl rfl (R_load (v := plV items.length pi) rfl (known_R (k := 3) rfl) rfl rfl) ?_; refine HD_r rfl rfl rfl (R_move rfl) ?_
    refine HD_r rfl rfl rfl (R_indexPl (j := i) rfl hs rfl rfl rfl (by first | rfl | omega) (by omega)) ?_; refine HD_r rfl rfl rfl (R_loadVl (fun q hq => Or.inr (List.mem_append_right _ hq)) rfl hs hix.1 rfl rfl) ?_; refine HD_callR rfl rfl rfl (enters_of Tryz.func37 (by kernel_rfl) rfl) hbi (fun q hq => Or.inr (List.mem_append_right _ hq)) ?_; refine HD_r rfl rfl rfl (R_assign rfl) ?_; refine HD_end ?_; refine HL_nil (hK7 _ _ _ _ ?_); refine HC_seq fun K8 hK8 => ?_; refine HC_seq fun K9 hK9 => HC_region ?_; refine HL_r rfl rfl rfl rfl (R_loadArr (xs := (inTy k 0 ins i).cells) (n := 3) rfl (known_L (k := 0) rfl) rfl rfl (inTy k 0 ins i).len) ?_; refine HL_callR rfl rfl rfl (enters_of Tryz.func122 (by kernel_rfl) rfl) (S_ssize hti1) (fun q hq => Or.inr (List.mem_append_right _ hq)) ?_; refine HLm rfl (HL_r rfl rfl rfl rfl (R_extract rfl rfl) (HL_r rfl rfl rfl rfl (R_extract rfl rfl) ?_)); refine HLm rfl (HLm rfl ?_); refine HL_nil (hK9 _ _ _ _ ?_); refine HC_seq fun K10 hK10 => HC_region ?_; refine HLm rfl ?_; refine HL_nil (hK10 _ _ _ _ ?_); refine HC_cond rfl (fun h11 => ?_) (fun h11 => ?_)
    · try exact Bool.noConfusion h11
      try simp only [ZZ] at h11
      refine HC_seq fun K12 hK12 => HC_region ?_; refine HLm rfl (HL_callT (T := bldL r3 f row1 own1) (L0 := (r9, .cells (inTy k 0 ins i).cells.toArray 24 (0, 0)) :: bldL r4 th row2 own2) (Rl := []) List.perm_middle.symm rfl rfl rfl (enters_of Tryz.func123 (by kernel_rfl) rfl) (T_Write hb1 (s2 := S) (by omega)) (fun q hq => nomatch hq) fun x => ?_)
      obtain ⟨row1x, hb1x⟩ := x
      refine HL_nil (hK12 _ _ _ _ ?_); refine HC_exit (HQ_thenE ?_); refine HQ_blockE ?_
      (rw [if_pos (by assumption)] at hinv
       refine HQ_subL (L' := bldL r3 (f ++ S) row1x true ++ bldL r4 th row2 own2) ((List.Sublist.refl _).append (.cons _ (List.Sublist.refl _))) ?_
       exact HQ_round (f ++ S, th, row1x, row2, true, own2) ⟨by omega, hinv, hb1x, hb2, by simp only [List.length_append]; omega⟩ rfl)
    · try exact Bool.noConfusion h11
      try simp only [ZZ] at h11
      refine HC_skip (hK8 _ _ _ _ ?_); refine HC_seq fun K13 hK13 => ?_; refine HC_draw 10 (by kernel_rfl) (by kernel_rfl) ?_; refine HD_r rfl rfl rfl (R_load (v := .int .i64 (H : Int)) rfl (known_R (k := 2) rfl) rfl rfl) ?_; refine HD_callR rfl rfl rfl (enters_of Tryz.func124 (by kernel_rfl) rfl) (P_bLen r4 own2 hb2) (fun q hq => Or.inl (by rw [List.mem_singleton.1 hq]; exact List.mem_cons_of_mem _ (List.mem_append_right _ List.mem_cons_self))) ?_
      refine HD_r rfl rfl rfl (R_pure rfl rfl rfl) ?_; refine HD_as (show _ = Value.int .i64 ((H + th.length : Nat) : Int) from by rw [wrap_i64 (by omega) (by omega)]; congr 1 <;> omega) ?_; refine HD_r rfl rfl rfl (R_pure rfl rfl rfl) ?_; refine HD_as (show _ = uV (H + th.length) from congrArg (Value.int .u64) (wrap_u64 (by omega) (by omega))) ?_; refine HD_callP rfl rfl rfl (enters_of Tryz.func56 (by kernel_rfl) rfl) (P_num_Le (n := H + th.length) (by omega) 4) ?_; refine HD_r rfl rfl rfl (R_move rfl) ?_; refine HD_r rfl rfl rfl (R_extract rfl rfl) ?_; refine HD_r rfl rfl rfl (R_extract rfl rfl) ?_; refine HD_r rfl rfl rfl (R_assign rfl) ?_; refine HD_r rfl rfl rfl (R_assign rfl) ?_; refine HD_end ?_; refine HL_nil (hK13 _ _ _ _ ?_); refine HC_seq fun K14 hK14 => HC_region ?_; refine HLm rfl (HL_callT (T := bldL r3 f row1 own1) (L0 := (r9, .cells (inTy k 0 ins i).cells.toArray 24 (0, 0)) :: bldL r4 th row2 own2) (Rl := []) List.perm_middle.symm rfl rfl rfl (enters_of Tryz.func123 (by kernel_rfl) rfl) (T_Write hb1 (s2 := (leR (H + th.length) 4).1) (by omega)) (fun q hq => nomatch hq) fun x => ?_)
      obtain ⟨row1x, hb1x⟩ := x
      refine HL_nil (hK14 _ _ _ _ ?_); refine HC_region (HLm rfl (HL_callT (T := bldL r4 th row2 own2) (L0 := bldL r3 (f ++ (leR (H + th.length) 4).1) row1x true ++ [(r9, .cells (inTy k 0 ins i).cells.toArray 24 (0, 0))]) (Rl := []) (perm_x3 _ _ _) rfl rfl rfl (enters_of Tryz.func123 (by kernel_rfl) rfl) (T_Write hb2 (s2 := S) (by omega)) (fun q hq => nomatch hq) fun x => ?_))
      obtain ⟨row2x, hb2x⟩ := x
      refine HL_nil ?_; refine HQ_blockN ?_
      (rw [if_neg (by rw [Bool.not_eq_true]; assumption)] at hinv
       refine HQ_perm List.perm_append_comm ?_; refine HQ_subL (L' := bldL r3 (f ++ (leR (H + th.length) 4).1) row1x true ++ bldL r4 (th ++ S) row2x true) ((List.sublist_append_left _ _).append (List.Sublist.refl _)) ?_
       exact HQ_round (f ++ (leR (H + th.length) 4).1, th ++ S, row1x, row2x, true, true) ⟨by omega, hinv, hb1x, hb2x, by simp only [List.length_append]; omega⟩ rfl)
  · rintro D i ⟨f, th, row1, row2, own1, own2⟩ hfi ⟨him, hinv, hb1, hb2, hlen⟩
    simp only at hinv hb1 hb2 hlen
    have hin : i = items.length := hfi
    rw [hin, List.drop_length, putL, rowF] at hinv; refine HQ_blockN (hK4 _ _ _ _ ?_); refine HC_seq fun K15 hK15 => HC_region ?_; refine HL_callT (T := bldL r3 f row1 own1) (L0 := _ :: (bldL r4 th row2 own2 ++ [iBlk rb items.length, tBlk ra (.mk k n p ins), _, _, _])) (Rl := []) (by rw [List.append_assoc]; exact List.perm_middle.symm) rfl rfl rfl (enters_of Tryz.func125 (by kernel_rfl) rfl) (T_bStr hb1 (by omega)) (fun q hq => nomatch hq) fun u1 => ?_; refine HL_callT (T := bldL r4 th row2 own2) (L0 := _ :: [iBlk rb items.length, tBlk ra (.mk k n p ins), _, _, _]) (Rl := []) List.perm_middle.symm rfl rfl rfl (enters_of Tryz.func125 (by kernel_rfl) rfl) (T_bStr hb2 (by omega)) (fun q hq => nomatch hq) fun u2 => ?_; refine HL_r rfl rfl rfl rfl (R_concat (a := f) (b := th) rfl rfl (by omega)) ?_; refine HLm rfl ?_; refine HL_nil (hK15 _ _ _ _ ?_); refine HC_ret (HQ_mark (k := 0) rfl rfl ?_); refine HQ_post rfl rfl (.cons (res_tmp rfl) .nil) (fun w1 hs1 => ?_); exact ⟨by rw [← hinv]; rfl, hs1.keep⟩
  · exact fun _ _ _ h => h.elim
end Go.Proofs.YtlcbfphioeppaaaGreatDoor
namespace Go.Proofs.YtlcbfphioeppaaaGreatDoor
set_option linter.all false
open Go.SL Go.RowKit Go.Shelf
/-! ### The bytes of a value -/
theorem fit_split {a b c d : Nat} {bits : List Bool} {pb : Pl} {items : List Vl} {pi : Pl} {pick k n : Int} {p : Pl} {ins : List Ty} (h : fitT (.mk a b c d bits pb items pi pick) (.mk k n p ins) = 0) :
    ¬ ((k = 4 ∧ n < items.length) ∨ (k = 6 ∧ n < bits.length)) ∧ ofT k n ins.length (.mk a b c d bits pb items pi pick) = true ∧ fitL items k pick ins 0 = 0 := by
  rw [fitT] at h
  split at h
  · cases h
  · rename_i h1
    split at h
    · cases h
    · rename_i h2
      exact ⟨h1, by simpa using h2, h⟩
theorem fitL_get : ∀ {l : List Vl} {k pick : Int} {ins : List Ty} {i j : Nat} {x : Vl}, fitL l k pick ins i = 0 → l[j]? = some x → fitT x (inTy k pick ins (i + j)) = 0
  | [], _, _, _, _, _, _, _, h => by simp at h
  | y :: ys, k, pick, ins, i, j, x, h0, h => by
    rw [fitL] at h0
    split at h0
    · rename_i h1
      cases j with
      | zero => simp at h; subst h; exact h1
      | succ j =>
        rw [List.getElem?_cons_succ] at h
        have := fitL_get h0 h
        rwa [show i + 1 + j = i + (j + 1) by omega] at this
    · rename_i h1; exact absurd h0 h1
theorem wL_mem : ∀ {l : List Vl} {x : Vl}, x ∈ l → wV x ≤ wL l
  | y :: ys, x, h => by
    rw [wL]
    rcases List.mem_cons.1 h with rfl | h
    · omega
    · have := wL_mem h; omega
theorem wV_sub {a b c d : Nat} {bits : List Bool} {pb : Pl} {items : List Vl} {pi : Pl} {pick : Int} {x : Vl} (h : x ∈ items) : wV x ≤ wV (.mk a b c d bits pb items pi pick) := by
  have := wL_mem h
  rw [wV]; omega
theorem restB_le (items : List Vl) (k pick : Int) (ins : List Ty) : ∀ (l : List Vl) (i : Nat), restB (putL l k pick ins i) ≤ 40 * wL l
  | [], i => by rw [putL, wL]; exact Nat.zero_le _
  | x :: xs, i => by
    rw [putL, wL, restB_cons]
    have h1 := putV_len x (inTy k pick ins i)
    have h2 := restB_le items k pick ins xs (i + 1)
    simp only
    omega
theorem pick_byte {z : Int} (h1 : 0 ≤ z) (h2 : z < 256) : Value.int .u8 (IntKind.u8.wrap z) = bV (UInt8.ofNat z.toNat) := by
  rw [wrap_u8 h1 (by omega), ← bV_of (by omega), Int.toNat_of_nonneg h1]
theorem put_one {l : List Vl} {k pick : Int} {ins : List Ty} (h : l.length = 1) : ((putL l k pick ins 0).headD (default, [])).2 = putV (itm l 0) (inTy k pick ins 0) := by
  match l, h with
  | [x], _ => rw [putL]; rfl
/-- How many items, bits there are. -/
theorem fit_many {a b c d : Nat} {bits : List Bool} {pb : Pl} {items : List Vl} {pi : Pl} {pick k n dp : Int} {p : Pl} {ins : List Ty} (hc : chk (.mk k n p ins) dp = 0) (h : fitT (.mk a b c d bits pb items pi pick) (.mk k n p ins) = 0) :
    items.length ≤ 512 ∧ bits.length ≤ 512 ∧ (k = 1 → 1 ≤ n ∧ n ≤ 32) ∧ (k = 8 → items.length = 1 ∧ 0 ≤ pick ∧ pick < ins.length ∧ ins.length ≤ 8) := by
  obtain ⟨h1, h2, _⟩ := fit_split h
  obtain ⟨hk, hf, _, _⟩ := chk_mk hc
  rw [ofT_mk k n ins.length a b c d bits pb items pi pick _ rfl] at h2; simp only [onlyB_mk] at h2
  unfold okForm at hf
  have h9 : k = 1 ∨ k = 2 ∨ k = 3 ∨ k = 4 ∨ k = 5 ∨ k = 6 ∨ k = 7 ∨ k = 8 := by omega
  rcases h9 with rfl | rfl | rfl | rfl | rfl | rfl | rfl | rfl
  all_goals generalize items.length = I at *
  all_goals generalize bits.length = J at *
  all_goals generalize ins.length = K at *
  all_goals simp at h1 h2 hf ⊢
  all_goals omega
section
variable {c : Cx} {l : List (Nat × Value)} {L E : List (Nat × Obj)} {X : XP} {Q : Exit → Act → World → Prop} {d : List Deferred}
variable {ops : Array Oper} {rest : List Nat} {i k : Nat} {v : Value} {o : Oper} {tb : Kbs} {S : List (Nat × Obj)} {T : List (Nat × Obj) → Act → Prop}
theorem HB_buildSlice {t ty : TypeId} {ps : String} {af : Array Edge} {gd : Option (Nat × Bool)} {n e sz : Nat} {pa : List (Nat × Operand)} {vs : List (Nat × Value)} {r zs : List Value} {z : Value} (hk : nth ops.toList k = some ⟨some i, .buildSlice t n pa.toArray, ty, ps, af, gd⟩) (hg : goes l ops ⟨some i, .buildSlice t n pa.toArray, ty, ps, af, gd⟩ = some true) (hi : Nat.ble (i + 1) c.n = true)
    (hA : tb k = .grow (geNew (slV n) (.cells r.toArray e (0, 0))))
    (hp : partsOf l pa = some vs) (ht : sliceOf c.P t = some e) (hz : zeroOf c.P e = some z) (hs : szOf c.P e = some sz) (hzs : z.cells.size = sz) (hb : Nat.ble (n * sz) 16777216 = true) (h0 : Nat.ble 1 (n * sz) = true)
    (hmk : (madeCells z.cells (n * sz)).toList = zs) (hf : fillL (fun i => some (i * sz, sz)) zs (cellsOfParts vs) = some r)
    (h : ∀ q, HB c d ((i, .slice (some ⟨q, 0, none⟩) n n) :: l) ((q, .cells r.toArray e (0, 0)) :: E) X S ops tb rest T) : HB c d l E X S ops tb (k :: rest) T :=
  HB_new (V := slV n) hk hg rfl hi hA (fun a w hfr => by
    have h1 := partsOf_eval hfr hp
    have h2 : (pa.toArray.map fun (p : Nat × Operand) => (p.1, a.eval p.2)) = vs.toArray := by
      apply Array.toList_inj.1; rw [Array.toList_map]; simpa using h1
    rw [cellsOfParts_eq] at hf; subst hmk
    have h3 := run_fill_slice ht hz hs hzs (Nat.le_of_ble_eq_true hb) (Nat.le_of_ble_eq_true h0) hf w
    rw [← h2] at h3; simp only [execOp, Sem.run_bind]
    have h4 : (Instr.buildSlice t n (pa.toArray.map fun (i, x) => (i, a.eval x))).run c.P w = .ok (.slice (some ⟨w.heap.size, 0, none⟩) n n) (w.alloc (.cells r.toArray e)) := h3
    rw [h4]; rfl) h
end
section
variable {a b c d : Nat} {bits : List Bool} {pb : Pl} {items : List Vl} {pi : Pl} {pick k n : Int} {p : Pl} {ins : List Ty}
theorem putV_mk : putV (.mk a b c d bits pb items pi pick) (.mk k n p ins) = if k = 1 then leW [a, b, c, d] n.toNat else if k = 2 then leW [a, b, c, d] 1 else if k = 5 then packB bits else if k = 6 then packB (bits ++ [true])
    else if k = 8 then UInt8.ofNat pick.toNat :: ((putL items k pick ins 0).headD (default, [])).2 else rowF (begL ((putL items k pick ins 0).map Prod.fst)).toNat (putL items k pick ins 0) [] [] := by rw [putV]; rfl
end
set_option maxHeartbeats 1000000 in
set_option maxRecDepth 10000 in
theorem S_bytes {R : List (Nat × Obj)} {v : Vl} (hv : v.In R) : ∀ (t : Ty) (dp : Int), t.In R → chk t dp = 0 → fitT v t = 0 → wV v ≤ 20000 → PureR Tryz.prog 37 [t.val, v.val].toArray (strV (putV v t)) R := by
  induction hv with
  | @mk a b c d bits pb items pi pick ha hb hc hd hlb hsb hl hs hp hi ih =>
  intro t dp ht hck hfit hw
  have ht0 := ht
  cases ht with
  | @mk k n p ins hk hn hlt hst hit =>
  obtain ⟨hk8, ho, h6, hci⟩ := chk_mk hck
  obtain ⟨hf1, hf2, hf3⟩ := fit_split hfit
  obtain ⟨m1, m2, m3, m4⟩ := fit_many hck hfit
  have hxl : ∀ i, i < items.length → inX k pick i < ins.length := fun i hi => inX_lt (v := .mk a b c d bits pb items pi pick) hck hf2 hi
  have hwd : WOk [a, b, c, d] := ⟨rfl, fun x hx => by simp at hx; rcases hx with rfl | rfl | rfl | rfl <;> assumption⟩
  have hfx := P_word_Fixed hwd
  have hlen32 : (beD [a, b, c, d] 32).reverse.length = 32 := by rw [List.length_reverse, beD_len]
  have hpt := P_turned (s := beD [a, b, c, d] 32) (by rw [beD_len]; decide)
  have hle : ∀ m, leW [a, b, c, d] m = ((beD [a, b, c, d] 32).reverse.take m).drop 0 := fun m => by rw [List.drop_zero]; rfl
  have hrow : ¬ k = 1 → ¬ k = 2 → ¬ k = 5 → ¬ k = 6 → ¬ k = 8 → PureR Tryz.prog 72 [Ty.val (.mk k n p ins), plV items.length pi].toArray (strV (putV (.mk a b c d bits pb items pi pick) (.mk k n p ins))) R := fun h1 h2 h5 h6 h8 => by
    have hx0 : ∀ i, i < items.length → inX k 0 i < ins.length := fun i hi => by have := hxl i hi; unfold inX at this ⊢; rw [if_neg h8] at this ⊢; exact this
    have hwl : wL items ≤ wV (.mk a b c d bits pb items pi pick) := by rw [wV]; omega
    have := S_srow (B := 800000) ht0 hs (by omega) hx0 (fun i x hxi => by
      have hm := List.mem_of_getElem? hxi
      have hlt3 := (List.getElem?_eq_some_iff.1 hxi).1
      have hty := (inTy_get (hx0 i hlt3)).2
      have hg := fitL_get hf3 hxi
      rw [Nat.zero_add, inTy_n8 h8] at hg
      exact ih x hm _ (dp + 1) (hit _ hty) (hci _ hty) hg (Nat.le_trans (wV_sub hm) hw)) (by have := restB_le items k 0 ins items 0; omega) (by decide)
    rw [putV_mk, if_neg h1, if_neg h2, if_neg h5, if_neg h6, if_neg h8, putL_n8 h8, tysN_put]; exact this
  refine pureR_of_HC Tryz.func37 rfl rfl fun w => ?_; refine HC_seq fun K1 hK1 => HC_region ?_; refine HL_box (cs := #[_, _, _]) rfl rfl rfl rfl fun r1 => ?_; refine HL_box (cs := #[_, _, _, _, _, _, _]) rfl rfl rfl rfl fun r2 => ?_; refine HLm rfl ?_; refine HL_nil (hK1 _ _ _ _ ?_); refine HC_seq fun K2 hK2 => HC_region ?_
  refine HL_r rfl rfl rfl rfl (R_fieldAddr rfl rfl (by first | (simp only [Nat.zero_add, Nat.reduceAdd, Nat.reduceMul, Nat.zero_mul, Nat.mul_one, Nat.add_zero]; exact rfl) | exact rfl)) ?_; refine HL_r rfl rfl rfl rfl (R_load rfl (known_L (k := 0) rfl) rfl rfl) ?_; refine HL_r rfl rfl rfl rfl (R_lenPl rfl hsb rfl) ?_; refine HL_alloc (cs := #[_]) rfl rfl rfl rfl fun r3 => ?_
  refine HL_store (k := 0) rfl rfl rfl rfl rfl rfl rfl rfl (by first | (simp only [List.setIfInBounds_toArray, List.set_cons_zero, List.set_cons_succ]; exact rfl) | exact rfl) (by first | (simp only [List.set_cons_zero, List.set_cons_succ]; exact rfl) | exact rfl) ?_; refine HL_nil (hK2 _ _ _ _ ?_); refine HC_seq fun K3 hK3 => ?_; refine HC_seq fun K4 hK4 => HC_region ?_
  refine HL_r rfl rfl rfl rfl (R_fieldAddr rfl rfl (by first | (simp only [Nat.zero_add, Nat.reduceAdd, Nat.reduceMul, Nat.zero_mul, Nat.mul_one, Nat.add_zero]; exact rfl) | exact rfl)) ?_; refine HL_r rfl rfl rfl rfl (R_load rfl (known_L (k := 2) rfl) rfl rfl) ?_; refine HL_nil (hK4 _ _ _ _ ?_); refine HC_block (HC_seq fun K5 hK5 => HC_region ?_); refine HLp rfl (HLm rfl ?_); refine HL_nil (hK5 _ _ _ _ ?_); refine HC_cond rfl (fun h6 => ?_) (fun h6 => ?_)
  · try exact Bool.noConfusion h6
    try simp only [ZZ] at h6
    refine HC_seq fun K7 hK7 => ?_
    have hn1 := m3 (by assumption)
    refine HC_draw 8 (by kernel_rfl) (by kernel_rfl) ?_
    refine HD_r rfl rfl rfl (R_fieldAddr rfl rfl (by first | (simp only [Nat.zero_add, Nat.reduceAdd, Nat.reduceMul, Nat.zero_mul, Nat.mul_one, Nat.add_zero]; exact rfl) | exact rfl)) ?_; refine HD_r rfl rfl rfl (R_loadA (vs := [_, _, _, _]) rfl (known_L (k := 1) rfl) rfl rfl rfl rfl) ?_; refine HD_callP rfl rfl rfl (enters_of Tryz.func68 (by kernel_rfl) rfl) hfx ?_; refine HD_callP rfl rfl rfl (enters_of Tryz.func67 (by kernel_rfl) rfl) hpt ?_
    refine HD_r rfl rfl rfl (R_fieldAddr rfl rfl (by first | (simp only [Nat.zero_add, Nat.reduceAdd, Nat.reduceMul, Nat.zero_mul, Nat.mul_one, Nat.add_zero]; exact rfl) | exact rfl)) ?_; refine HD_r rfl rfl rfl (R_load rfl (known_L (k := 2) rfl) rfl rfl) ?_; refine HD_r rfl rfl rfl (R_sliceBs (kl := none) (kh := some (.i64, n)) (m := 0) (n := n.toNat) rfl rfl rfl rfl rfl (by show n = ((n.toNat : Nat) : Int); omega) (Nat.zero_le _) (by rw [hlen32]; omega) rfl) ?_; rw [← hle]; refine HD_r rfl rfl rfl (R_assign rfl) ?_; refine HD_end ?_; refine HL_nil (hK7 _ _ _ _ ?_); refine HC_ret (HQ_blockR (HQ_thenR ?_)); refine HQ_post rfl rfl (.cons (res_tmp rfl) .nil) (fun w1 hs1 => ?_); refine ⟨?_, hs1.keep⟩; rw [putV_mk, if_pos (by assumption)]; rfl
  · try exact Bool.noConfusion h6
    try simp only [ZZ] at h6
    refine HC_seq fun K8 hK8 => HC_region ?_; refine HLp rfl (HLm rfl ?_); refine HL_nil (hK8 _ _ _ _ ?_); refine HC_cond rfl (fun h9 => ?_) (fun h9 => ?_)
    · try exact Bool.noConfusion h9
      try simp only [ZZ] at h9
      refine HC_seq fun K10 hK10 => HC_region ?_
      refine HL_r rfl rfl rfl rfl (R_fieldAddr rfl rfl (by first | (simp only [Nat.zero_add, Nat.reduceAdd, Nat.reduceMul, Nat.zero_mul, Nat.mul_one, Nat.add_zero]; exact rfl) | exact rfl)) ?_; refine HL_r rfl rfl rfl rfl (R_loadA (vs := [_, _, _, _]) rfl (known_L (k := 1) rfl) rfl rfl rfl rfl) ?_; refine HL_callP rfl rfl rfl (enters_of Tryz.func68 (by kernel_rfl) rfl) hfx ?_; refine HL_callP rfl rfl rfl (enters_of Tryz.func67 (by kernel_rfl) rfl) hpt ?_; refine HL_r rfl rfl rfl rfl (R_sliceBs (kl := none) (kh := some (.i64, 1)) (m := 0) (n := 1) rfl rfl rfl rfl rfl (by show (1 : Int) = ((1 : Nat) : Int); omega) (Nat.zero_le _) (by rw [hlen32]; omega) rfl) ?_; rw [← hle]; refine HLm rfl ?_; refine HL_nil (hK10 _ _ _ _ ?_); refine HC_ret (HQ_blockR (HQ_thenR ?_)); refine HQ_post rfl rfl (.cons (res_tmp rfl) .nil) (fun w1 hs1 => ?_); refine ⟨?_, hs1.keep⟩; rw [putV_mk, if_neg (by assumption), if_pos (by assumption)]; rfl
    · try exact Bool.noConfusion h9
      try simp only [ZZ] at h9
      refine HC_seq fun K11 hK11 => HC_region ?_; refine HLp rfl (HLm rfl ?_); refine HL_nil (hK11 _ _ _ _ ?_); refine HC_cond rfl (fun h12 => ?_) (fun h12 => ?_)
      · try exact Bool.noConfusion h12
        try simp only [ZZ] at h12
        refine HC_seq fun K13 hK13 => HC_region ?_; refine HL_r rfl rfl rfl rfl (R_load rfl (known_L (k := 0) rfl) rfl rfl) ?_; refine HL_r rfl rfl rfl rfl (R_makeFunc rfl rfl) ?_; refine HL_callR (Rl := vBlk r2 (.mk a b c d bits pb items pi pick) :: R) rfl rfl rfl (enters_of Tryz.func69 (by kernel_rfl) rfl) (S_pack (caps := [pt0 r2]) (by omega) (enters_of Tryz.func70 (by kernel_rfl) rfl) (fun i hi => S_b1 hsb (by omega) r2 hi)) (fun q hq => (List.mem_cons.1 hq).elim (fun h => .inl (by rw [h]; exact List.mem_cons_of_mem _ List.mem_cons_self)) .inr) ?_; refine HLm rfl ?_; refine HL_nil (hK13 _ _ _ _ ?_); refine HC_ret (HQ_blockR (HQ_thenR ?_)); refine HQ_post rfl rfl (.cons (res_tmp rfl) .nil) (fun w1 hs1 => ?_); refine ⟨?_, hs1.keep⟩; rw [putV_mk, if_neg (by assumption), if_neg (by assumption), if_pos (by assumption)]; rfl
      · try exact Bool.noConfusion h12
        try simp only [ZZ] at h12
        refine HC_seq fun K14 hK14 => HC_region ?_; refine HLp rfl (HLm rfl ?_); refine HL_nil (hK14 _ _ _ _ ?_); refine HC_cond rfl (fun h15 => ?_) (fun h15 => ?_)
        · try exact Bool.noConfusion h15
          try simp only [ZZ] at h15
          refine HC_seq fun K16 hK16 => HC_region ?_; refine HL_r rfl rfl rfl rfl (R_load rfl (known_L (k := 0) rfl) rfl rfl) ?_; refine HLp rfl ?_; refine HL_as (show _ = Value.int .i64 (((bits ++ [true]).length : Nat) : Int) from by rw [wrap_i64 (by omega) (by omega)]; congr 1; rw [List.length_append]; rfl) ?_; refine HL_r rfl rfl rfl rfl (R_makeFunc rfl rfl) ?_
          refine HL_callR (Rl := iBlk r3 bits.length :: vBlk r2 (.mk a b c d bits pb items pi pick) :: R) rfl rfl rfl (enters_of Tryz.func69 (by kernel_rfl) rfl) (S_pack (caps := [pt0 r3, pt0 r2]) (by rw [List.length_append]; simp; omega) (enters_of Tryz.func71 (by kernel_rfl) rfl) (fun i hi => S_b2 hsb (by omega) r3 r2 hi)) (fun q hq => by rcases List.mem_cons.1 hq with rfl | hq; exact .inl List.mem_cons_self; rcases List.mem_cons.1 hq with rfl | hq; exact .inl (List.mem_cons_of_mem _ List.mem_cons_self); exact .inr hq) ?_; refine HLm rfl ?_; refine HL_nil (hK16 _ _ _ _ ?_); refine HC_ret (HQ_blockR (HQ_thenR ?_)); refine HQ_post rfl rfl (.cons (res_tmp rfl) .nil) (fun w1 hs1 => ?_); refine ⟨?_, hs1.keep⟩; rw [putV_mk, if_neg (by assumption), if_neg (by assumption), if_neg (by assumption), if_pos (by assumption)]; rfl
        · try exact Bool.noConfusion h15
          try simp only [ZZ] at h15
          refine HC_seq fun K17 hK17 => HC_region ?_; refine HLp rfl (HLm rfl ?_); refine HL_nil (hK17 _ _ _ _ ?_); refine HC_cond rfl (fun h18 => ?_) (fun h18 => ?_)
          · try exact Bool.noConfusion h18
            try simp only [ZZ] at h18
            refine HC_seq fun K19 hK19 => ?_
            have hk0 : k = 8 := by assumption
            have h81 := (m4 hk0).1
            have hx8 := itm_get (l := items) (i := 0) (by omega)
            have hty8 := inTy_get (hxl 0 (by omega))
            have hix8 : inX k pick 0 = pick.toNat := by unfold inX; rw [if_neg (by omega), if_pos hk0]
            rw [hix8] at hty8
            have hg8 := fitL_get hf3 hx8.1
            have hw8 := Nat.le_trans (wV_sub (a := a) (b := b) (c := c) (d := d) (bits := bits) (pb := pb) (pi := pi) (pick := pick) hx8.2) hw
            have hrec := ih _ hx8.2 (inTy k pick ins 0) (dp + 1) (hit _ hty8.2) (hci _ hty8.2) hg8 hw8
            have hpl8 := putV_len (itm items 0) (inTy k pick ins 0)
            refine HC_drawB [] [(0, .pure), (2, .pure), (3, .grow (geNew (slV 1) (.cells #[bV (UInt8.ofNat pick.toNat)] 5 (0, 0)))), (5, .pure), (7, .pure), (9, .pure), (11, .pure), (13, .pure), (16, .pure), (17, .pure)] 18 [0, 1, 2, 5, 6, 7, 8, 9, 10, 11, 12, 13, 14, 15, 3, 4, 16, 17] (by kernel_rfl) (by kernel_rfl) (by first | exact (fun _ h => nomatch h) | simp [SubS] | (intro p hp; simp [hp])) ?_
            refine HB_p (k := 0) rfl rfl rfl rfl rfl (fun _ hS => (R_fieldAddr rfl rfl (by first | (simp only [Nat.zero_add, Nat.reduceAdd, Nat.reduceMul, Nat.zero_mul, Nat.mul_one, Nat.add_zero]; exact rfl) | exact rfl))) ?_; refine HB_r (k := 1) rfl rfl rfl rfl rfl (R_load rfl (known_L (k := 1) rfl) rfl rfl) ?_; refine HB_p (k := 2) rfl rfl rfl rfl rfl (fun _ hS => (R_pure rfl rfl rfl)) ?_; refine HB_as (show _ = bV (UInt8.ofNat pick.toNat) from pick_byte (m4 (by assumption)).2.1 (by have := m4 (by assumption); omega)) ?_
            refine HB_p (k := 5) rfl rfl rfl rfl rfl (fun _ hS => (R_fieldAddr rfl rfl (by first | (simp only [Nat.zero_add, Nat.reduceAdd, Nat.reduceMul, Nat.zero_mul, Nat.mul_one, Nat.add_zero]; exact rfl) | exact rfl))) ?_; refine HB_r (k := 6) rfl rfl rfl rfl rfl (R_load rfl (known_L (k := 2) rfl) rfl rfl) ?_
            refine HB_p (k := 7) rfl rfl rfl rfl rfl (fun _ hS => (R_fieldAddr rfl rfl (by first | (simp only [Nat.zero_add, Nat.reduceAdd, Nat.reduceMul, Nat.zero_mul, Nat.mul_one, Nat.add_zero]; exact rfl) | exact rfl))) ?_; refine HB_r (k := 8) rfl rfl rfl rfl rfl (R_load rfl (known_L (k := 1) rfl) rfl rfl) ?_; refine HB_p (k := 9) rfl rfl rfl rfl rfl (fun _ hS => (R_indexPl (j := pick.toNat) rfl hst rfl rfl rfl (by have := m4 (by assumption); omega) (by have := m4 (by assumption); omega))) ?_; refine HB_r (k := 10) rfl rfl rfl rfl rfl (R_loadTy (fun q hq => Or.inr hq) rfl hst hty8.1 rfl rfl) ?_
            refine HB_p (k := 11) rfl rfl rfl rfl rfl (fun _ hS => (R_fieldAddr rfl rfl (by first | (simp only [Nat.zero_add, Nat.reduceAdd, Nat.reduceMul, Nat.zero_mul, Nat.mul_one, Nat.add_zero]; exact rfl) | exact rfl))) ?_; refine HB_r (k := 12) rfl rfl rfl rfl rfl (R_load rfl (known_L (k := 1) rfl) rfl rfl) ?_
            refine HB_p (k := 13) rfl rfl rfl rfl rfl (fun _ hS => (R_indexPl (j := 0) rfl hs rfl rfl rfl (by first | rfl | omega) (by omega))) ?_; refine HB_r (k := 14) rfl rfl rfl rfl rfl (R_loadVl (fun q hq => Or.inr hq) rfl hs hx8.1 rfl rfl) ?_; refine HB_callR (k := 15) rfl rfl rfl rfl rfl (enters_of Tryz.func37 (by kernel_rfl) rfl) hrec (fun q hq => Or.inr hq) ?_; refine HB_buildSlice (k := 3) (n := 1) (sz := 1) (vs := [_]) (zs := [_]) (r := [bV (UInt8.ofNat pick.toNat)]) rfl rfl rfl rfl rfl rfl rfl rfl rfl rfl rfl (by show (madeCells #[_] _).toList = _; rw [made_one]; exact rfl) rfl fun rv => ?_; refine HB_r (k := 4) rfl rfl rfl rfl rfl (R_bytesStr (b := [UInt8.ofNat pick.toNat]) (row := some (rv, 1, [])) (e := 5) rfl ⟨rfl, rfl⟩ (fun p hp => .inl (by rw [List.mem_singleton.1 hp]; exact List.mem_cons_self)) rfl rfl rfl) ?_; refine HB_p (k := 16) rfl rfl rfl rfl rfl (fun _ hS => (R_concat (a := [UInt8.ofNat pick.toNat]) (b := putV (itm items 0) (inTy k pick ins 0)) rfl rfl (by simp only [List.length_cons, List.length_nil]; omega))) ?_; refine HB_p (k := 17) rfl rfl rfl rfl rfl (fun _ hS => (R_assign rfl)) ?_; refine HB_end ?_; refine HL_nil (hK19 _ _ _ _ ?_); refine HC_ret (HQ_blockR (HQ_thenR ?_)); refine HQ_post rfl rfl (.cons (res_tmp rfl) .nil) (fun w1 hs1 => ?_); refine ⟨?_, hs1.keep⟩; rw [putV_mk, if_neg (by assumption), if_neg (by assumption), if_neg (by assumption), if_neg (by assumption), if_pos (by assumption), put_one h81]; rfl
          · try exact Bool.noConfusion h18
            try simp only [ZZ] at h18
            refine HC_skip (HQ_blockN (hK3 _ _ _ _ ?_)); refine HC_seq fun K20 hK20 => HC_region ?_; refine HL_r rfl rfl rfl rfl (R_loadA (vs := [_, _, _]) rfl (known_L (k := 2) rfl) rfl rfl rfl rfl) ?_
            refine HL_r rfl rfl rfl rfl (R_fieldAddr rfl rfl (by first | (simp only [Nat.zero_add, Nat.reduceAdd, Nat.reduceMul, Nat.zero_mul, Nat.mul_one, Nat.add_zero]; exact rfl) | exact rfl)) ?_; refine HL_r rfl rfl rfl rfl (R_load rfl (known_L (k := 1) rfl) rfl rfl) ?_; refine HL_callR rfl rfl rfl (enters_of Tryz.func72 (by kernel_rfl) rfl) (hrow (by assumption) (by assumption) (by assumption) (by assumption) (by assumption)) (fun q hq => Or.inr hq) ?_; refine HLm rfl ?_; refine HL_nil (hK20 _ _ _ _ ?_); refine HC_ret ?_; refine HQ_post rfl rfl (.cons (res_tmp rfl) .nil) (fun w1 hs1 => ?_); refine ⟨?_, hs1.keep⟩
            rfl
end Go.Proofs.YtlcbfphioeppaaaGreatDoor
namespace Go.Proofs.YtlcbfphioeppaaaGreatDoor
set_option linter.all false
open Go.SL Go.RowKit Go.Shelf
section
variable {c : Cx} {l : List (Nat × Value)} {L : List (Nat × Obj)} {X : XP} {Q : Exit → Act → World → Prop} {d : List Deferred}
variable {ops : Array Oper} {rest : List Oper} {i : Nat} {v : Value} {t : TypeId} {ps : String} {af : Array Edge} {gd : Option (Nat × Bool)} {ty : TypeId}
end
/-! ### Put; the reference's bytes -/
theorem fits_split {t : Ty} {v : Vl} (h : fitsT t v = 0) : chk t 0 = 0 ∧ fitT v t = 0 := by
  unfold fitsT at h
  split at h
  · rename_i h1; exact ⟨h1, h⟩
  · rename_i h1; exact absurd h h1
theorem putV_le {v : Vl} (t : Ty) (h : wV v ≤ 20000) : (putV v t).length ≤ 800000 := by have := putV_len v t; omega
set_option maxRecDepth 10000 in
theorem S_sPut {R : List (Nat × Obj)} {t : Ty} {v : Vl} (ht : t.In R) (hv : v.In R) (hw : wV v ≤ 20000) : PureR Tryz.prog 17 [t.val, v.val].toArray (resS (putR t v)) R := by
  have h1 := S_Fits ht hv
  have h2 := fun h => S_bytes hv t 0 ht (fits_split (t := t) (v := v) h).1 (fits_split h).2 hw
  have hlb := putV_le t hw
  unfold putR
  generalize fitsT t v = e at h1 h2 ⊢
  generalize putV v t = s at h2 hlb ⊢
  obtain ⟨k, n, p, ins⟩ := t
  obtain ⟨a, b, c, d, bits, pb, items, pi, pick⟩ := v
  refine pureR_of_HC Tryz.func17 rfl rfl fun w => ?_; refine HC_seq fun K1 hK1 => HC_region ?_; refine HL_box (cs := #[_, _, _]) rfl rfl rfl rfl fun r1 => ?_; refine HL_box (cs := #[_, _, _, _, _, _, _]) rfl rfl rfl rfl fun r2 => ?_; refine HLm rfl (HLm rfl ?_); refine HL_nil (hK1 _ _ _ _ ?_); refine HC_seq fun K2 hK2 => ?_; refine HC_seq fun K3 hK3 => HC_region ?_; refine HL_r rfl rfl rfl rfl (R_loadA (vs := [_, _, _]) rfl (known_L (k := 1) rfl) rfl rfl rfl rfl) ?_; refine HL_r rfl rfl rfl rfl (R_loadA (vs := [_, _, _, _, _, _, _]) rfl (known_L (k := 0) rfl) rfl rfl rfl rfl) ?_; refine HL_callR rfl rfl rfl (enters_of Tryz.func22 (by kernel_rfl) rfl) h1 (fun q hq => Or.inr hq) ?_; refine HLm rfl ?_; refine HL_nil (hK3 _ _ _ _ ?_); refine HC_seq fun K4 hK4 => HC_region ?_; refine HLm rfl (HLp rfl ?_); refine HL_nil (hK4 _ _ _ _ ?_); refine HC_cond rfl (fun h5 => ?_) (fun h5 => ?_)
  · try exact Bool.noConfusion h5
    try simp only [ZZ] at h5
    refine HC_seq fun K6 hK6 => HC_region ?_; refine HLm rfl (HLm rfl (HLm rfl ?_)); refine HL_nil (hK6 _ _ _ _ ?_); refine HC_ret (HQ_thenR ?_); refine HQ_post rfl rfl (.cons (res_tmp rfl) (.cons (res_tmp rfl) .nil)) (fun w1 hs1 => ?_); refine ⟨?_, hs1.keep⟩; rw [if_pos (by omega)]; rfl
  · try exact Bool.noConfusion h5
    try simp only [ZZ] at h5
    refine HC_skip (hK2 _ _ _ _ ?_); refine HC_seq fun K7 hK7 => HC_region ?_; refine HL_r rfl rfl rfl rfl (R_loadA (vs := [_, _, _]) rfl (known_L (k := 1) rfl) rfl rfl rfl rfl) ?_; refine HL_r rfl rfl rfl rfl (R_loadA (vs := [_, _, _, _, _, _, _]) rfl (known_L (k := 0) rfl) rfl rfl rfl rfl) ?_; refine HL_callR rfl rfl rfl (enters_of Tryz.func37 (by kernel_rfl) rfl) (h2 (by omega)) (fun q hq => Or.inr hq) ?_; refine HLm rfl ?_; refine HL_nil (hK7 _ _ _ _ ?_); refine HC_seq fun K8 hK8 => ?_; refine HC_seq fun K9 hK9 => HC_region ?_; refine HLm rfl (HL_r rfl rfl rfl rfl (R_lenBs rfl rfl) (HLp rfl ?_)); refine HL_nil (hK9 _ _ _ _ ?_); refine HC_cond rfl (fun h10 => ?_) (fun h10 => ?_)
    · try exact Bool.noConfusion h10
      try simp only [ZZ] at h10
      refine HC_seq fun K11 hK11 => HC_region ?_; refine HLm rfl (HLm rfl ?_); refine HL_nil (hK11 _ _ _ _ ?_); refine HC_ret (HQ_thenR ?_); refine HQ_post rfl rfl (.cons (res_tmp rfl) (.cons (res_tmp rfl) .nil)) (fun w1 hs1 => ?_); refine ⟨?_, hs1.keep⟩; rw [if_neg (by omega), if_pos (by omega)]; rfl
    · try exact Bool.noConfusion h10
      try simp only [ZZ] at h10
      refine HC_skip (hK8 _ _ _ _ ?_); refine HC_seq fun K12 hK12 => HC_region ?_; refine HLm rfl (HLm rfl (HLm rfl ?_)); refine HL_nil (hK12 _ _ _ _ ?_); refine HC_ret ?_; refine HQ_post rfl rfl (.cons (res_tmp rfl) (.cons (res_tmp rfl) .nil)) (fun w1 hs1 => ?_); refine ⟨?_, hs1.keep⟩; rw [if_neg (by omega), if_neg (by omega)]; rfl
set_option maxRecDepth 10000 in
theorem S_rbegin {R : List (Nat × Obj)} {k n : Int} {p : Pl} {ins : List Ty} {v : Vl} {m : Nat} (ht : Ty.In R (.mk k n p ins)) (hv : v.In R) (h8 : k ≠ 8) (hm : m ≤ 600) (hx : ∀ i, i < m → inX k 0 i < ins.length) : PureR Tryz.prog 76 [Ty.val (.mk k n p ins), v.val, .int .i64 (m : Int)].toArray (.int .i64 (begL (tysN k ins m))) R := by
  have hti := fun i h => ht.sub _ (inTy_get (hx i h)).2
  have hin := fun i (h : i < m) => S_ref_In (v := v) (i := i) (y := inTy k 0 ins i) ht hv (fun e => absurd e h8) (by have := (inTy_get (hx i h)).1; unfold inX at this ⊢; rw [if_neg h8] at this ⊢; exact this)
  obtain ⟨a, b, c, d, bits, pb, items, pi, pick⟩ := v
  refine pureR_of_HC Tryz.func76 rfl rfl fun w => ?_; refine HC_seq fun K1 hK1 => HC_region ?_; refine HL_box (cs := #[_, _, _]) rfl rfl rfl rfl fun r1 => ?_; refine HL_box (cs := #[_, _, _, _, _, _, _]) rfl rfl rfl rfl fun r2 => ?_; refine HLm rfl ?_; refine HL_nil (hK1 _ _ _ _ ?_); refine HC_seq fun K2 hK2 => HC_region ?_; refine HLm rfl ?_; refine HL_nil (hK2 _ _ _ _ ?_); refine HC_seq fun K3 hK3 => ?_; refine HC_seq fun K4 hK4 => HC_region ?_; refine HLm rfl ?_; refine HL_nil (hK4 _ _ _ _ ?_); refine HC_block (HC_loop (σ := Nat) (fun i => i ≤ m) (fun i => [(2, .int .i64 (m : Int)), (3, pt0 r1), (4, pt0 r2), (7, .int .i64 (begL (tysN k ins i))), (8, .int .i64 (i : Int))]) (fun _ => [vBlk r2 (.mk a b c d bits pb items pi pick), tBlk r1 (.mk k n p ins)]) (fun _ _ _ => True) (fun i => m - i) 0 (Nat.zero_le _) (.cons rfl (.cons rfl (.cons rfl (.cons rfl (.cons rfl .nil))))) (List.Sublist.refl _) (fun _ _ h => h) ?_); intro i hi1; change HC _ _ _ ((r2, _) :: (r1, _) :: []) _ _ _; refine HC_seq fun K5 hK5 => ?_; refine HC_seq fun K6 hK6 => HC_region ?_; refine HLm rfl (HLm rfl (HLp rfl ?_)); refine HL_nil (hK6 _ _ _ _ ?_); refine HC_cond rfl (fun h7 => ?_) (fun h7 => ?_)
  · try exact Bool.noConfusion h7
    try simp only [ZZ] at h7
    refine HC_skip (hK5 _ _ _ _ ?_); refine HC_seq fun K8 hK8 => HC_block ?_; refine HC_seq fun K9 hK9 => ?_
    have hil : i < m := by omega
    have hb1 := begT_le (inTy k 0 ins i)
    have hb2 := begL_le (tysN k ins i)
    rw [tysN_len] at hb2; refine HC_region (HL_r rfl rfl rfl rfl (R_loadA (vs := [_, _, _]) rfl (known_L (k := 1) rfl) rfl rfl rfl rfl) (HL_r rfl rfl rfl rfl (R_loadA (vs := [_, _, _, _, _, _, _]) rfl (known_L (k := 0) rfl) rfl rfl rfl rfl) ?_)); refine HLm rfl (HL_callR rfl rfl rfl (enters_of Tryz.func77 (by kernel_rfl) rfl) (hin i hil) (fun q hq => Or.inr hq) (HL_alloc (cs := #[.int .i64 0, .int .i64 0, .slice none 0 0]) rfl rfl rfl rfl fun r9 => ?_)); refine HL_storeArr (k := 0) (n := 3) (ys := (inTy k 0 ins i).cells) rfl rfl rfl rfl rfl (inTy k 0 ins i).len rfl (inTy k 0 ins i).one rfl ?_; refine HL_nil (hK9 _ _ _ _ ?_); refine HC_seq fun K10 hK10 => HC_region ?_; refine HL_r rfl rfl rfl rfl (R_loadArr (xs := (inTy k 0 ins i).cells) (n := 3) rfl (known_L (k := 0) rfl) rfl rfl (inTy k 0 ins i).len) ?_; refine HL_callR rfl rfl rfl (enters_of Tryz.func78 (by kernel_rfl) rfl) (S_ref_Fixed (hti i hil)) (fun q hq => Or.inr hq) ?_; refine HL_nil (hK10 _ _ _ _ ?_); refine HC_cond rfl (fun h11 => ?_) (fun h11 => ?_)
    · try exact Bool.noConfusion h11
      try simp only [ZZ] at h11
      refine HC_region (HLm rfl (HL_r rfl rfl rfl rfl (R_loadArr (xs := (inTy k 0 ins i).cells) (n := 3) rfl (known_L (k := 0) rfl) rfl rfl (inTy k 0 ins i).len) ?_)); refine HL_callR rfl rfl rfl (enters_of Tryz.func86 (by kernel_rfl) rfl) (S_ref_Size (hti i hil)) (fun q hq => Or.inr hq) ?_; refine HLp rfl ?_; refine HL_as (show _ = Value.int .i64 (begL (tysN k ins (i + 1))) from by rw [begL_snoc, begT_eq, if_pos (by assumption)]; unfold sizeT; rw [if_pos (by assumption)]; exact congrArg (Value.int .i64) (wrap_i64 (by rw [begT_eq, if_pos (by assumption)] at hb1; omega) (by rw [begT_eq, if_pos (by assumption)] at hb1; omega))) ?_; refine HLm rfl (HL_nil ?_); refine HQ_blockN (hK8 _ _ _ _ ?_); refine HC_region (HLm rfl ?_)
      refine HLp rfl ?_; refine HL_as (show _ = Value.int .i64 ((i + 1 : Nat) : Int) from by rw [wrap_i64 (by omega) (by omega)]; congr 1 <;> omega) ?_; refine HLm rfl (HL_nil (HQ_then ?_)); exact HQ_again (i + 1) (by omega) (by omega) (.cons rfl (.cons rfl (.cons rfl (.cons rfl (.cons rfl .nil))))) (.cons _ (List.Sublist.refl _)) (fun _ _ h => h)
    · try exact Bool.noConfusion h11
      try simp only [ZZ] at h11
      refine HC_region (HLm rfl (HLp rfl ?_)); refine HL_as (show _ = Value.int .i64 (begL (tysN k ins (i + 1))) from by rw [begL_snoc, begT_eq, if_neg (by rw [Bool.not_eq_true]; assumption)]; exact congrArg (Value.int .i64) (wrap_i64 (by omega) (by omega))) ?_; refine HLm rfl (HL_nil ?_); refine HQ_blockN (hK8 _ _ _ _ ?_); refine HC_region (HLm rfl ?_)
      refine HLp rfl ?_; refine HL_as (show _ = Value.int .i64 ((i + 1 : Nat) : Int) from by rw [wrap_i64 (by omega) (by omega)]; congr 1 <;> omega) ?_; refine HLm rfl (HL_nil (HQ_then ?_)); exact HQ_again (i + 1) (by omega) (by omega) (.cons rfl (.cons rfl (.cons rfl (.cons rfl (.cons rfl .nil))))) (.cons _ (List.Sublist.refl _)) (fun _ _ h => h)
  · try exact Bool.noConfusion h7
    try simp only [ZZ] at h7
    refine HC_exit (HQ_thenE ?_); refine HQ_thenE (HQ_blockE (hK3 _ _ _ _ ?_)); refine HC_seq fun K12 hK12 => ?_
    obtain rfl : m = i := by omega
    refine HC_region (HLm rfl (HLm rfl ?_)); refine HL_nil (hK12 _ _ _ _ ?_); refine HC_ret ?_; refine HQ_post rfl rfl (.cons (res_tmp rfl) .nil) (fun w1 hs1 => ?_); exact ⟨rfl, hs1.keep⟩
end Go.Proofs.YtlcbfphioeppaaaGreatDoor
namespace Go.Proofs.YtlcbfphioeppaaaGreatDoor
set_option linter.all false
open Go.SL Go.RowKit Go.Shelf
end Go.Proofs.YtlcbfphioeppaaaGreatDoor
namespace Go.Proofs.YtlcbfphioeppaaaGreatDoor
set_option linter.all false
open Go.SL Go.RowKit Go.Shelf
/-! ### Bytes in chunks -/
section
variable {c : Cx} {l : List (Nat × Value)} {L : List (Nat × Obj)} {X : XP} {d : List Deferred} {i : Nat} {ps : String} {af : Array Edge} {gd : Option (Nat × Bool)} {ty : TypeId}
end
end Go.Proofs.YtlcbfphioeppaaaGreatDoor
namespace Go.Proofs.YtlcbfphioeppaaaGreatDoor
set_option linter.all false
open Go.SL Go.RowKit Go.Shelf
section
variable {a b c d : Nat} {bits : List Bool} {pb : Pl} {items : List Vl} {pi : Pl} {pick k n : Int} {p : Pl} {ins : List Ty}
end
theorem chk_in' {k n : Int} {p : Pl} {ins : List Ty} {d : Int} (hk : 1 ≤ k ∧ k ≤ 8) (ho : okForm k n ins.length = true) : chk (.mk k n p ins) d = if 6 ≤ d then 7 else chkL ins (d + 1) := by
  rw [chk, if_neg (by omega), if_neg (by rw [ho]; simp)]
theorem chkL_zero : ∀ {ins : List Ty} {d : Int}, (∀ x ∈ ins, chk x d = 0) → chkL ins d = 0
  | [], _, _ => by rw [chkL]
  | x :: xs, d, h => by
    rw [chkL, if_pos (h x List.mem_cons_self)]; exact chkL_zero fun y hy => h y (List.mem_cons_of_mem _ hy)
theorem chk_down' (t : Ty) : ∀ d : Int, chk t (d + 1) = 0 → chk t d = 0 := by
  induction t using Ty.ind with
  | h k n p ins ih =>
    intro d h
    obtain ⟨hk, ho, h6, hi⟩ := chk_mk h
    rw [chk_in' hk ho, if_neg (by omega)]; exact chkL_zero fun x hx => ih x hx (d + 1) (hi x hx)
theorem chk_dn {t : Ty} : ∀ {d : Nat}, chk t (d : Int) = 0 → chk t 0 = 0
  | 0, h => h
  | d + 1, h => chk_dn (d := d) (chk_down' t d (by rw [Int.natCast_add] at h; exact h))
theorem chk_sub {k n : Int} {p : Pl} {ins : List Ty} (h : chk (.mk k n p ins) 0 = 0) : ∀ x ∈ ins, chk x 0 = 0 := fun x hx => chk_dn (d := 1) ((chk_mk h).2.2.2 x hx)
end Go.Proofs.YtlcbfphioeppaaaGreatDoor
namespace Go.Proofs.YtlcbfphioeppaaaGreatDoor
set_option linter.all false
open Go.SL Go.RowKit Go.Shelf
/-! where parts stand -/
def offL (s : List UInt8) (head : Nat) : List Ty → Nat → Nat → Bool → Option (List Nat)
  | [], _, _, op => if op = false ∧ head ≠ s.length then none else some [s.length]
  | x :: xs, at_, last, op => if isFix x then offL s head xs (at_ + (sizT x).toNat) last op else
      if (op = false ∧ leV ((s.drop at_).take 4) ≠ head) ∨ leV ((s.drop at_).take 4) < last ∨ s.length < leV ((s.drop at_).take 4) then none
      else (offL s head xs (at_ + 4) (leV ((s.drop at_).take 4)) true).map fun r => leV ((s.drop at_).take 4) :: r
def partL (s : List UInt8) : List Ty → Nat → List Nat → List (List UInt8)
  | [], _, _ => []
  | x :: xs, at_, os => if isFix x then (s.drop at_).take (sizT x).toNat :: partL s xs (at_ + (sizT x).toNat) os else
      (s.take (os.getD 1 0)).drop (os.getD 0 0) :: partL s xs (at_ + 4) os.tail
theorem offL_ge {s : List UInt8} {head : Nat} : ∀ {ts : List Ty} {at_ last : Nat} {op : Bool} {os : List Nat}, offL s head ts at_ last op = some os → last ≤ s.length → (op = false → last = head) → ∃ o r, os = o :: r ∧ last ≤ o ∧ o ≤ s.length ∧ (op = false → o = head)
  | [], at_, last, op, os, h, hl, ho => by
    rw [offL] at h
    split at h
    · cases h
    · rename_i h1
      cases h
      refine ⟨s.length, [], rfl, hl, Nat.le_refl _, fun hop => ?_⟩; exact Decidable.byContradiction fun h2 => h1 ⟨hop, fun e => h2 e.symm⟩
  | x :: xs, at_, last, op, os, h, hl, ho => by
    rw [offL] at h
    split at h
    · exact offL_ge h hl ho
    · split at h
      · cases h
      · rename_i h1
        obtain ⟨r, _, rfl⟩ := Option.map_eq_some_iff.1 h
        refine ⟨_, r, rfl, by omega, by omega, fun hop => ?_⟩; exact Decidable.byContradiction fun h2 => h1 (.inl ⟨hop, h2⟩)
end Go.Proofs.YtlcbfphioeppaaaGreatDoor
namespace Go.Proofs.YtlcbfphioeppaaaGreatDoor
set_option linter.all false
open Go.SL Go.RowKit Go.Shelf
/-! ### Values of bytes, in plain Lean; what is put is got again -/
theorem fix_of {t : Ty} (hc : chk t 0 = 0) : isFix t = fixT t := by unfold isFix; rw [hc]; simp
theorem fix_siz {t : Ty} (h : isFix t = true) : 1 ≤ sizT t := by
  obtain ⟨h1, h2⟩ := isFix_iff.1 h
  exact (siz_le t 0 (Int.le_refl _) h1 h2).1
mutual
def erV : Vl → Vl
  | .mk a b c d bits _ items _ pick => .mk a b c d bits none (erL items) none pick
def erL : List Vl → List Vl
  | [] => []
  | x :: xs => erV x :: erL xs
end
theorem erL_map : ∀ l : List Vl, erL l = l.map erV
  | [] => by rw [erL]; rfl
  | x :: xs => by rw [erL, erL_map xs]; rfl
def v0L : Vl := .mk 0 0 0 0 [] none [] none 0
def mkNum (w : List Nat) : Vl := .mk (w.getD 0 0) (w.getD 1 0) (w.getD 2 0) (w.getD 3 0) [] none [] none 0
def mkBits (l : List Bool) : Vl := .mk 0 0 0 0 l none [] none 0
def mkItems (l : List Vl) (pick : Int) : Vl := .mk 0 0 0 0 [] none l none pick
def manyT (k n : Int) (ins : List Ty) (s : List UInt8) : Nat × Int :=
  if k = 7 then (ins.length, 0) else if k = 3 then (n.toNat, 0) else if s = [] then (0, 0)
  else if isFix (inTy k 0 ins 0) then (if s.length % (sizT (inTy k 0 ins 0)).toNat ≠ 0 then (0, 2) else if n < ((s.length / (sizT (inTy k 0 ins 0)).toNat : Nat) : Int) then (0, 5) else (s.length / (sizT (inTy k 0 ins 0)).toNat, 0))
  else if s.length < 4 ∨ leV (s.take 4) % 4 ≠ 0 ∨ leV (s.take 4) = 0 then (0, 2) else if n < ((leV (s.take 4) / 4 : Nat) : Int) then (0, 5) else (leV (s.take 4) / 4, 0)
abbrev Gf : Type := List UInt8 → Vl × Int
def runG : List (Gf × List UInt8) → List Vl × Int
  | [] => ([], 0)
  | (f, s) :: r => if (f s).2 ≠ 0 then ([], (f s).2) else if (runG r).2 ≠ 0 then ([], (runG r).2) else ((f s).1 :: (runG r).1, 0)
def topB (s : List UInt8) : Nat → Nat
  | 0 => 0
  | i + 1 => if bitAt s i = true then i else topB s i
def g0 : Gf := fun _ => (v0L, 0)
def rowT (k n : Int) (ins : List Ty) (fs : List Gf) (s : List UInt8) : Vl × Int :=
  if (manyT k n ins s).2 ≠ 0 then (v0L, (manyT k n ins s).2)
  else if (s.length : Int) < begL (tysN k ins (manyT k n ins s).1) then (v0L, 2)
  else match offL s (begL (tysN k ins (manyT k n ins s).1)).toNat (tysN k ins (manyT k n ins s).1) 0 (begL (tysN k ins (manyT k n ins s).1)).toNat false with
    | none => (v0L, 2)
    | some os =>
      let r := runG (((List.range (manyT k n ins s).1).map fun i => fs.getD (inX k 0 i) g0).zip (partL s (tysN k ins (manyT k n ins s).1) 0 os))
      if r.2 ≠ 0 then (v0L, r.2) else (mkItems r.1 0, 0)
def decT (k n : Int) (p : Pl) (ins : List Ty) (fs : List Gf) (s : List UInt8) : Vl × Int :=
  if isFix (.mk k n p ins) = true ∧ (s.length : Int) ≠ sizT (.mk k n p ins) then (v0L, 2)
  else if k = 1 then (mkNum (numD s), 0)
  else if k = 2 then (if 1 < (s.getD 0 0).toNat then (v0L, 2) else (mkNum (numD s), 0))
  else if k = 5 then (if ((unpackB s (8 * s.length)).drop n.toNat).any id then (v0L, 8) else (mkBits (unpackB s n.toNat), 0))
  else if k = 6 then (if s.getLast? = none ∨ s.getLast? = some 0 then (v0L, 2) else if n < (topB s (8 * s.length) : Int) then (v0L, 5) else (mkBits (unpackB s (topB s (8 * s.length))), 0))
  else if k = 8 then (match s with
    | [] => (v0L, 2)
    | b :: r => if ins.length ≤ b.toNat then (v0L, 9) else if (fs.getD b.toNat g0 r).2 ≠ 0 then (v0L, (fs.getD b.toNat g0 r).2) else (mkItems [(fs.getD b.toNat g0 r).1] b.toNat, 0))
  else rowT k n ins fs s
mutual
def getT : Ty → List UInt8 → Vl × Int
  | .mk k n p ins, s => decT k n p ins (getF ins) s
def getF : List Ty → List Gf
  | [] => []
  | x :: xs => getT x :: getF xs
end
theorem getF_map : ∀ l : List Ty, getF l = l.map getT
  | [] => by rw [getF]; rfl
  | x :: xs => by rw [getF, getF_map xs]; rfl
theorem getF_at {ins : List Ty} {i : Nat} {x : Ty} (h : ins[i]? = some x) : (getF ins).getD i g0 = getT x := by
  rw [getF_map, List.getD_eq_getElem?_getD, List.getElem?_map, h]; rfl
section
variable {a b c d : Nat} {bits : List Bool} {pb : Pl} {items : List Vl} {pi : Pl} {pick k n : Int} {p : Pl} {ins : List Ty}
end
theorem erV_mk (a b c d : Nat) (bits : List Bool) (pb : Pl) (items : List Vl) (pi : Pl) (pick : Int) : erV (.mk a b c d bits pb items pi pick) = .mk a b c d bits none (erL items) none pick := by rw [erV]
end Go.Proofs.YtlcbfphioeppaaaGreatDoor
namespace Go.Proofs.YtlcbfphioeppaaaGreatDoor
set_option linter.all false
open Go.SL Go.RowKit Go.Shelf
theorem topB_spec {s : List UInt8} : ∀ {N i : Nat}, i < N → bitAt s i = true → topB s N < N ∧ i ≤ topB s N ∧ bitAt s (topB s N) = true ∧ ∀ j, topB s N < j → j < N → bitAt s j = false
  | 0, _, h, _ => by omega
  | N + 1, i, h, hb => by
    rw [topB]
    by_cases e : bitAt s N = true
    · rw [if_pos e]
      exact ⟨Nat.lt_succ_self _, by omega, e, fun j h1 h2 => by omega⟩
    · rw [if_neg e]
      have hi : i ≠ N := fun h => e (h ▸ hb)
      obtain ⟨h1, h2, h3, h4⟩ := topB_spec (N := N) (i := i) (by omega) hb
      refine ⟨by omega, h2, h3, fun j h5 h6 => ?_⟩
      by_cases hj : j = N
      · subst hj; simpa using e
      · exact h4 j h5 (by omega)
theorem topB_ok {s : List UInt8} (hx : ¬ (s.getLast? = none ∨ s.getLast? = some 0)) : s.length = (topB s (8 * s.length) + 8) / 8 ∧ bitAt s (topB s (8 * s.length)) = true ∧ ∀ i, topB s (8 * s.length) < i → i < 8 * s.length → bitAt s i = false := by
  have hne : s ≠ [] := fun e => hx (.inl (by rw [e]; rfl))
  have hpos : 0 < s.length := List.length_pos_iff.2 hne
  obtain ⟨x, hl⟩ : ∃ x, s.getLast? = some x := by
    cases h : s.getLast? with
    | none => exact absurd (.inl h) hx
    | some x => exact ⟨x, rfl⟩
  have h0 : x ≠ 0 := fun e => hx (.inr (by rw [hl, e]))
  have hg : s.getD (s.length - 1) 0 = x := by
    rw [List.getLast?_eq_getElem?] at hl; rw [List.getD_eq_getElem?_getD, hl]; rfl
  have hj : ∃ j, j < 8 ∧ x.toNat.testBit j = true := by
    refine Decidable.byContradiction fun hn => h0 (u8_bits fun j hj => ?_)
    have : ¬ x.toNat.testBit j = true := fun h => hn ⟨j, hj, h⟩
    rw [Bool.not_eq_true] at this; rw [this]; simp
  obtain ⟨j, hj, hb⟩ := hj
  have hbit : bitAt s (8 * (s.length - 1) + j) = true := by
    unfold bitAt
    rw [show (8 * (s.length - 1) + j) / 8 = s.length - 1 by omega, show (8 * (s.length - 1) + j) % 8 = j by omega, hg]; exact hb
  obtain ⟨h1, h2, h3, h4⟩ := topB_spec (N := 8 * s.length) (by omega) hbit
  exact ⟨by omega, h3, h4⟩
theorem chkL_mem : ∀ {ins : List Ty} {d : Int}, chkL ins d = 0 → ∀ x ∈ ins, chk x d = 0
  | [], _, _, x, hx => by cases hx
  | y :: ys, d, h, x, hx => by
    rw [chkL] at h
    by_cases h1 : chk y d = 0
    · rw [if_pos h1] at h
      rcases List.mem_cons.1 hx with rfl | hx
      · exact h1
      · exact chkL_mem h x hx
    · rw [if_neg h1] at h; exact absurd h h1
theorem many_ok {k n : Int} {ins : List Ty} {s : List UInt8} (hk : 1 ≤ k ∧ k ≤ 8) (ho : okForm k n ins.length = true) (h3 : k = 3 ∨ k = 4 ∨ k = 7) (h : (manyT k n ins s).2 = 0) :
    (manyT k n ins s).1 ≤ 512 ∧ (k = 3 → ((manyT k n ins s).1 : Int) = n) ∧ (k = 7 → (manyT k n ins s).1 = ins.length) ∧ (k = 4 → ((manyT k n ins s).1 : Int) ≤ n) := by
  unfold okForm at ho
  unfold manyT at h ⊢
  rcases h3 with rfl | rfl | rfl
  · simp at ho ⊢; omega
  · simp only [show ¬ ((4 : Int) = 7) by decide, show ¬ ((4 : Int) = 3) by decide, if_false] at h ⊢
    simp at ho
    split at h
    · rename_i h1; rw [if_pos h1]; simp; omega
    · rename_i h1
      rw [if_neg h1]
      split at h
      · rename_i h2
        rw [if_pos h2]
        split at h
        · simp at h
        · rename_i h4
          rw [if_neg h4]
          split at h
          · simp at h
          · rename_i h5
            rw [if_neg h5]
            simp only
            refine ⟨?_, fun e => absurd e (by decide), fun e => absurd e (by decide), fun _ => ?_⟩
            · revert h5; generalize s.length / (sizT (inTy 4 0 ins 0)).toNat = q; intro h5; omega
            · revert h5; generalize s.length / (sizT (inTy 4 0 ins 0)).toNat = q; intro h5; omega
      · rename_i h2
        rw [if_neg h2]
        split at h
        · simp at h
        · rename_i h4
          rw [if_neg h4]
          split at h
          · simp at h
          · rename_i h5
            rw [if_neg h5]
            simp only
            refine ⟨?_, fun e => absurd e (by decide), fun e => absurd e (by decide), fun _ => ?_⟩
            · revert h5; generalize leV (s.take 4) / 4 = q; intro h5; omega
            · revert h5; generalize leV (s.take 4) / 4 = q; intro h5; omega
  · simp at ho ⊢; omega
theorem inX_many {k n : Int} {ins : List Ty} {s : List UInt8} (hk : 1 ≤ k ∧ k ≤ 8) (ho : okForm k n ins.length = true) (h3 : k = 3 ∨ k = 4 ∨ k = 7) (h : (manyT k n ins s).2 = 0) : ∀ i, i < (manyT k n ins s).1 → inX k 0 i < ins.length := by
  intro i hi
  obtain ⟨_, _, h7, _⟩ := many_ok hk ho h3 h
  unfold okForm at ho
  unfold inX
  rcases h3 with rfl | rfl | rfl
  · simp at ho ⊢; omega
  · simp at ho ⊢; omega
  · have := h7 rfl
    simp; omega
end Go.Proofs.YtlcbfphioeppaaaGreatDoor
/-! ### Panics: calls that may panic, rounds that may, and what is recovered -/
namespace Go.SL
set_option linter.all false
open Go Go.RowKit Go.Shelf
open Go.Proofs (Enters enters_of)
def panE (v : Value) : List PanicEntry := [{ v, recovered := false }]
/-- A call that hands back V x with new blocks, or panics. -/
structure PureX {α : Type} (P : Program) (f : FuncId) (args : Array Value) (ok : Prop) (bad : Value → Prop) (V : α → Value) (LL : α → List (Nat × Obj)) (Rl : List (Nat × Obj)) : Prop where
  run : ∀ w, Has Rl w → Calls P f args w fun e w' => (ok ∧ ∃ x, e = .returned (V x) ∧ Keep [] w w' ∧ (∀ p ∈ LL x, w.heap.size ≤ p.1 ∧ w'.heap[p.1]? = some p.2) ∧ (LL x).Pairwise fun p q => p.1 ≠ q.1) ∨ (∃ v, bad v ∧ e = .panicked (panE v) ∧ Keep [] w w')
def cxX (P : Program) (w : World) (Rl : List (Nat × Obj)) (n : Nat) : Cx := ⟨P, none, w, [], [], Rl, n⟩
theorem St.startX {P : Program} {w : World} {n : Nat} {Rl : List (Nat × Obj)} (hR : Has Rl w) : St (cxX P w Rl n) [] (fun _ _ => True) w :=
  ⟨Keep.refl _ _, by simp, by simp, fun p hp => ⟨by simp [cxX], by simp [cxX], hR p hp⟩, by simp [cxX], ⟨[], by simp, fun _ _ => trivial⟩⟩
def postX {α : Type} (c : Cx) (ok : Prop) (bad : Value → Prop) (V : α → Value) (LL : α → List (Nat × Obj)) : Ending → World → Prop := fun e w' =>
  (ok ∧ ∃ x, e = .returned (V x) ∧ St c (LL x) (fun _ _ => True) w') ∨ (∃ v, bad v ∧ e = .panicked (panE v) ∧ Keep [] c.w1 w')
theorem pureX_of_HC {α : Type} {P : Program} {f : FuncId} {fn : Func} {code : Code} {vs : List Value} {ok : Prop} {bad : Value → Prop} {V : α → Value} {Rl : List (Nat × Obj)} {LL : α → List (Nat × Obj)} (hf : P.funcs[f]? = some fn) (hb : fn.body = some code) (hlen : Nat.ble vs.length fn.ntmps = true)
    (h : ∀ w, HC (cxX P w Rl fn.ntmps) [] (frame0 0 vs) [] (fun _ _ => True) code (bodyPostM (FW none) 0 P fn (postX (cxX P w Rl fn.ntmps) ok bad V LL))) : PureX P f vs.toArray ok bad V LL Rl := ⟨fun w hR =>
  (calls_of_HC (cxX P w Rl fn.ntmps) hf hb rfl rfl rfl hlen (St.startX hR) (h w)).mono fun _ _ h => h.imp
    (fun ⟨ho, x, he, hs⟩ => ⟨ho, x, he, by have := hs.keep; simpa [cxX] using this, fun p hp => by have := (hs.own p hp); simp only [cxX, List.not_mem_nil, false_or] at this; exact ⟨this.1, this.2.2⟩, hs.distinct⟩)
    (fun ⟨v, hv, he, hk⟩ => ⟨v, hv, he, hk⟩)⟩
theorem PureX.mono {α : Type} {P : Program} {f : FuncId} {args : Array Value} {ok ok' : Prop} {bad bad' : Value → Prop} {V : α → Value} {LL : α → List (Nat × Obj)} {Rl : List (Nat × Obj)} (h : PureX P f args ok bad V LL Rl) (h1 : ok → ok') (h2 : ∀ v, bad v → bad' v) : PureX P f args ok' bad' V LL Rl :=
  ⟨fun w hR => (h.run w hR).mono fun _ _ h => h.imp (fun ⟨a, b⟩ => ⟨h1 a, b⟩) (fun ⟨v, a, b⟩ => ⟨v, h2 v a, b⟩)⟩
theorem PureX.map {α β : Type} {P : Program} {f : FuncId} {args : Array Value} {ok : Prop} {bad : Value → Prop} {V : α → Value} {LL : α → List (Nat × Obj)} {V' : β → Value} {LL' : β → List (Nat × Obj)} {Rl : List (Nat × Obj)} (h : PureX P f args ok bad V LL Rl) (g : α → β) (hv : ∀ x, V x = V' (g x)) (hl : ∀ x, (LL' (g x)).Sublist (LL x)) : PureX P f args ok bad V' LL' Rl :=
  ⟨fun w hR => (h.run w hR).mono fun _ _ h => h.imp (fun ⟨a, x, he, hk, h1, h2⟩ => ⟨a, g x, he.trans (by rw [hv]), hk, fun p hp => h1 p ((hl x).subset hp), h2.sublist (hl x)⟩) id⟩
/-- What does not panic. -/
theorem PureX.toT {α : Type} {P : Program} {f : FuncId} {args : Array Value} {ok : Prop} {bad : Value → Prop} {V : α → Value} {LL : α → List (Nat × Obj)} {Rl : List (Nat × Obj)} (h : PureX P f args ok bad V LL Rl) (hb : ∀ v, ¬ bad v) : PureT P f args V [] LL Rl :=
  ⟨fun w _ hR _ _ => (h.run w hR).mono fun _ _ h => h.elim (fun ⟨_, x, he, hk, h1, h2⟩ => ⟨x, he, hk, fun p hp => ⟨.inr (h1 p hp).1, (h1 p hp).2⟩, h2⟩) (fun ⟨v, hv, _⟩ => absurd hv (hb v))⟩
section
variable {c : Cx} {l : List (Nat × Value)} {L : List (Nat × Obj)} {X : XP} {Q : Exit → Act → World → Prop} {K : Act → World → Prop} {d : List Deferred}
variable {ops : Array Oper} {rest : List Oper} {i : Nat} {v : Value} {t : TypeId} {ps : String} {af : Array Edge} {gd : Option (Nat × Bool)} {ty : TypeId}
theorem HL_callX {α : Type} {ok : Prop} {bad : Value → Prop} {Rl : List (Nat × Obj)} {f : Operand} {args : Array Operand} {at_ : Array TypeId} {g : FuncId} {vs : List Value} {V : α → Value} {LL : α → List (Nat × Obj)}
    (hg : goes l ops ⟨some i, .call ⟨.value f, args, at_⟩, ty, ps, af, gd⟩ = some true) (hi : Nat.ble (i + 1) c.n = true) (hca : callArgs l f args = some (g, vs)) (eg : Enters c.P g)
    (hpt : PureX c.P g vs.toArray ok bad V LL Rl) (hR : ∀ p ∈ Rl, known c L p.1 p.2) (h : ok → ∀ x, HL c d ((i, V x) :: l) (LL x ++ L) X ops rest Q) (hp : ∀ v, bad v → HQ c d l L X (Q (.panic (panE v)))) :
    HL c d l L X ops (⟨some i, .call ⟨.value f, args, at_⟩, ty, ps, af, gd⟩ :: rest) Q := fun a w hf hs => by
  refine wpListIn_do (goes_wanted hf hg) rfl ?_
  rw [callArgs_run hf hca c.P w _ rfl eg, Oper.uponIn_enter]
  refine ⟨fun hdep => (by cases hdep), ?_⟩
  have hc := callsIn_wide (n := 0) |>.2 (hpt.run w fun p hp => hs.known (hR p hp))
  refine CallsIn.mono (show CallsIn (FW c.ro) 0 c.P g vs.toArray w _ from hc) ?_
  rintro e w' (⟨ho, x, rfl, hk, h1, h2⟩ | ⟨v, hv, rfl, hk⟩)
  · exact h ho x _ w' (hf.put (Nat.le_of_ble_eq_true hi)) (hs.freshs hk h1 h2)
  · exact hp v hv a w' hf (hs.more hk)
theorem HL_panic {x : Operand} {dst : Option Nat} {tt : TypeId} (hg : goes l ops ⟨dst, .panic x, ty, ps, af, gd⟩ = some true) (hx : evl l x = some (.iface tt v)) (h : HQ c d l L X (Q (.panic (panE (.iface tt v))))) : HL c d l L X ops (⟨dst, .panic x, ty, ps, af, gd⟩ :: rest) Q := fun a w hf hs => by
  refine wpListIn_do (goes_wanted hf hg) rfl ?_
  have hrun : (execOp a.eval ⟨dst, .panic x, ty, ps, af, gd⟩).run c.P w = .halt (.panic (.iface tt v)) w := by
    have e : (Instr.panic (.iface tt v)).run c.P w = .halt (.panic (.iface tt v)) w := rfl
    simp only [execOp, hf.eval hx]
    simp [Sem.run_bind, e, Result.andThen]
  rw [hrun, Oper.uponIn_panic]
  exact h a w hf hs
theorem HQ_thenP {ch : List PanicEntry} (h : HQ c d l L X (Q (.panic ch))) : HQ c d l L X (Exit.then K Q (.panic ch)) := h
theorem HQ_blockP {id : Nat} {ch : List PanicEntry} (h : HQ c d l L X (Q (.panic ch))) : HQ c d l L X (Exit.inBlock id Q (.panic ch)) := h
theorem HQ_panR {fn : Func} {R : Ending → World → Prop} {P : Program} {ch : List PanicEntry} (h : ∀ w, St c L X w → R (.panicked ch) w) : HQ c [] l L X (bodyPostM (FW none) 0 P fn R (.panic ch)) := fun a w hf hs => by
  show LeavesInM _ _ _ _ _ _ _ _ _
  rw [hf.defers]
  exact h w hs
theorem HQ_panX {α : Type} {fn : Func} {P : Program} {ok : Prop} {bad : Value → Prop} {V : α → Value} {LL : α → List (Nat × Obj)} (hc1 : c.ids = []) (hc2 : c.xids = []) (h : bad v) : HQ c [] l L X (bodyPostM (FW none) 0 P fn (postX c ok bad V LL) (.panic (panE v))) :=
  HQ_panR fun w hs => .inr ⟨v, h, rfl, by have := hs.keep; rw [hc1, hc2] at this; exact this⟩
theorem HQ_panMk {fn : Func} {R : Ending → World → Prop} {P : Program} {ch : List PanicEntry} {D k : Nat} {L' : List (Nat × Obj)} (hk : L[k]? = some (D, .deferred (some []))) (hL : L.set k (D, .deferred none) = L')
    (h : HQ c d l L' X (bodyPostM (FW none) 0 P fn R (.panic ch))) : HQ c (markOf D :: d) l L X (bodyPostM (FW none) 0 P fn R (.panic ch)) := fun a w hf hs => by
  subst hL
  have hget := hs.get hk
  have hs' := hs.set hk (Keep.putObj D (.deferred none)) (World.putObj_heap_same (lt_of_some hget))
  have h1 := h { tmps := a.tmps, defers := d } _ ⟨hf.size, rfl, hf.slots⟩ hs'
  show LeavesInM _ _ _ _ _ _ _ _ _
  rw [hf.defers]
  exact ⟨by simp, .inl ⟨D, _, rfl, run_takeDeferred hget, h1⟩⟩
end
/-! Rounds that may panic -/
def roundPostX (P : Program) (l : Nat) (R : Ending → World → Prop) : Exit → Act → World → Prop
  | .panic ch, a, w => a.defers = [] ∧ R (.panicked ch) w
  | e, a, w => roundPost P l R e a w
theorem roundInX_of_wpIn {F : Fence} {n : Nat} {P : Program} {l : Nat} {f : FuncId} {fn : Func} {tmps : Array Value} {assign body : Code} {w : World} {R : Ending → World → Prop} (hF : F.fn f) (hfn : P.funcs[f]? = some fn)
    (h : assign.wpIn (F.inRound l) n P (Exit.then (fun a₁ w₁ => ∃ w₂, (Instr.beginRound l).run P w₁ = .ok () w₂ ∧ body.wpIn (F.inRound l) n P (roundPostX P l R) a₁ w₂) (fun _ _ _ => False))
      { tmps := tmps, defers := [] } w) :
    RoundIn F n P l f tmps assign body w R := by
  refine ⟨hF, fun c cs hr => ?_⟩
  let b : Frame := { (default : Frame) with fn := f, kind := .normal, roundOf := some l }
  have hb0 : Frame.round l f tmps assign body .normal = b.atR { tmps := tmps, defers := [] } [.code assign, .beginRound, .code body] := by
    simp [Frame.round, Frame.atR, b]
  have hr' : (F.inRound l).room ((c :: cs).length + 1 + n) := hr
  have hF' : (F.inRound l).fn b.fn := hF
  obtain ⟨e, a₁, w₁, hq, harr⟩ := h b [.beginRound, .code body] (c :: cs) rfl hF' hr'
  rw [← hb0] at harr
  cases e with
  | normal =>
    obtain ⟨w₂, hbr, hbody⟩ := hq
    have s1 : StepsIn (Machine.fenced P (F.inRound l)) P (lone (b.atR a₁ [.beginRound, .code body]) (c :: cs) w₁) (lone (b.atR a₁ [.code body]) (c :: cs) w₂) :=
      .one (fenced_calm (fr := b.atR a₁ [.beginRound, .code body]) hF' hr' rfl) (stepR_beginRound rfl hbr)
    obtain ⟨e₂, a₂, w₃, hq₂, harr₂⟩ := hbody b [] (c :: cs) rfl hF' hr'
    cases e₂ with
    | normal =>
      obtain ⟨v, w₄, hend, hR⟩ := hq₂
      exact ⟨.returned v, w₄, hR, (StepsIn.trans harr s1).trans (StepsIn.trans harr₂ (.one (fenced_calm (fr := b.atR a₂ []) hF' hr' rfl) (stepR_round_end rfl rfl hend)))⟩
    | ret =>
      obtain ⟨v, w₄, hend, hR⟩ := hq₂
      obtain ⟨k₁, hs⟩ := harr₂.2 rfl
      exact ⟨.returned v, w₄, hR, (StepsIn.trans harr s1).trans (StepsIn.trans hs (.one (fenced_calm (fr := b.atR a₂ (.code .ret :: k₁)) hF' hr' rfl) (stepR_round_ret rfl rfl hend)))⟩
    | exit id =>
      obtain ⟨v, w₄, hend, hR⟩ := hq₂
      obtain ⟨k₁, hk, hs⟩ := harr₂.2 rfl rfl
      exact ⟨.returned v, w₄, hR, (StepsIn.trans harr s1).trans (StepsIn.trans hs (.one (fenced_calm (fr := b.atR a₂ (.code (.exit id) :: k₁)) hF' hr' rfl) (stepR_round_exit rfl rfl hk hend)))⟩
    | goto t =>
      obtain ⟨v, w₄, hend, hR⟩ := hq₂
      obtain ⟨k₁, hk, hs⟩ := harr₂.2 rfl rfl
      exact ⟨.returned v, w₄, hR, (StepsIn.trans harr s1).trans (StepsIn.trans hs (.one (fenced_calm (fr := b.atR a₂ (.code (.goto t) :: k₁)) hF' hr' rfl) (stepR_round_goto rfl rfl hk hend)))⟩
    | panic chain =>
      obtain ⟨hd, hR⟩ := hq₂
      obtain ⟨todo, hs⟩ := harr₂
      have hl : ({ b.atR a₂ todo with mode := .panicking chain } : Frame).leaving P w₃ (.panicked chain) := ⟨rfl, hd, fn, hfn⟩
      have hfe : (lone ({ b.atR a₂ todo with mode := .panicking chain } : Frame) (c :: cs) w₃).fenced P (F.inRound l) := fenced_leaving (F := F.inRound l) hF' hr' hl
      exact ⟨.panicked chain, w₃, hR, (StepsIn.trans harr s1).trans (StepsIn.trans hs (.one hfe (step_leave_panicked hl)))⟩
    | outgrown => exact hq₂.elim
  | exit id => exact hq.elim
  | goto t => exact hq.elim
  | ret => exact hq.elim
  | panic chain => exact hq.elim
  | outgrown => exact hq.elim
def YSX (P : Program) (q : Nat) (vals : Array Value) (xs : List Nat) (w : World) (XT XF : XP) (pc : List PanicEntry → Prop) : Prop :=
  YieldAt (FW none) 0 P q vals w fun e w' => (∃ b xs', e = .returned (.bool b) ∧ (∀ k ∈ xs', k < w'.heap.size ∧ (k ∈ xs ∨ w.heap.size ≤ k)) ∧ Keep xs w w' ∧ Foot xs' (if b = true then XT else XF) w') ∨ (∃ ch, e = .panicked ch ∧ pc ch ∧ Keep xs w w')
/-- An iterator whose yield may panic. -/
def IterX {ι : Type} (P : Program) (gf : FuncId) (caps : List Value) (Rl : List (Nat × Obj)) (p0 : ι) (nx : ι → List Value → ι → Prop) (fin : ι → Prop) : Prop :=
  ∀ (q : Nat) (xids : List Nat) (w2 : World) (XI : ι → XP) (XF : XP) (pc : List PanicEntry → Prop),
    (∀ p ∈ Rl, p.1 ∉ xids ∧ w2.heap[p.1]? = some p.2) → (∀ k ∈ xids, k < w2.heap.size) → Foot xids (XI p0) w2 →
    (∀ i v i', nx i v i' → ∀ xs w, (∀ k ∈ xs, k < w.heap.size ∧ (k ∈ xids ∨ w2.heap.size ≤ k)) → Keep xids w2 w → Foot xs (XI i) w → YSX P q v.toArray xs w (XI i') XF pc) →
    Calls P gf (.func (.yield q) #[] #[] :: caps).toArray w2 fun e w' => ((∃ v, e = .returned v) ∧ Keep xids w2 w' ∧ ((∃ i xs, fin i ∧ XI i xs w') ∨ ∃ xs, XF xs w')) ∨ (∃ ch, e = .panicked ch ∧ pc ch ∧ Keep xids w2 w')
theorem iterX_of_HC {ι : Type} {P : Program} {f : FuncId} {fn : Func} {code : Code} {caps : List Value} {Rl : List (Nat × Obj)} {p0 : ι} {nx : ι → List Value → ι → Prop} {fin : ι → Prop} (hf : P.funcs[f]? = some fn) (hb : fn.body = some code) (hlen : Nat.ble (caps.length + 1) fn.ntmps = true)
    (h : ∀ (q : Nat) (xids : List Nat) (w2 : World) (XI : ι → XP) (XF : XP) (pc : List PanicEntry → Prop),
      (∀ i v i', nx i v i' → ∀ xs w, (∀ k ∈ xs, k < w.heap.size ∧ (k ∈ xids ∨ w2.heap.size ≤ k)) → Keep ([] ++ xids) w2 w → Foot xs (XI i) w → YSX P q v.toArray xs w (XI i') XF pc) →
      HC ⟨P, none, w2, [], xids, Rl, fn.ntmps⟩ [] (frame0 0 (.func (.yield q) #[] #[] :: caps)) [] (XI p0) code
        (bodyPostM (FW none) 0 P fn (fun e w' => ((∃ v, e = .returned v) ∧ Keep ([] ++ xids) w2 w' ∧ ((∃ i xs, fin i ∧ XI i xs w') ∨ ∃ xs, XF xs w')) ∨ (∃ ch, e = .panicked ch ∧ pc ch ∧ Keep ([] ++ xids) w2 w')))) : IterX P f caps Rl p0 nx fin :=
  fun q xids w2 XI XF pc hR hlt h0 hY =>
    calls_of_HC ⟨P, none, w2, [], xids, Rl, fn.ntmps⟩ hf hb rfl rfl rfl hlen
      ⟨Keep.refl _ _, by simp, by simp, fun p hp => ⟨by simp, (hR p hp).1, (hR p hp).2⟩, hlt, xids, fun k hk => ⟨.inl hk, hlt k hk, by simp⟩, h0⟩ (h q xids w2 XI XF pc hY)
section
variable {c : Cx} {l : List (Nat × Value)} {L : List (Nat × Obj)} {X : XP} {Q : Exit → Act → World → Prop} {d : List Deferred}
variable {ops : Array Oper} {rest : List Oper} {i : Nat} {v : Value} {t : TypeId} {ps : String} {af : Array Edge} {gd : Option (Nat × Bool)} {ty : TypeId}
theorem HL_yieldX {f : Operand} {args : Array Operand} {at_ : Array TypeId} {q : Nat} {vs : List Value} {XT XF : XP} {pc : List PanicEntry → Prop}
    (hg : goes l ops ⟨some i, .call ⟨.value f, args, at_⟩, ty, ps, af, gd⟩ = some true) (hi : Nat.ble (i + 1) c.n = true)
    (hf : evl l f = some (.func (.yield q) #[] #[])) (ha : evs l args.toList = some vs)
    (hY : ∀ xs w, (∀ k ∈ xs, k < w.heap.size ∧ (k ∈ c.xids ∨ c.w1.heap.size ≤ k)) → Keep (c.ids ++ c.xids) c.w1 w → Foot xs X w → YSX c.P q vs.toArray xs w XT XF pc)
    (h1 : HL c d ((i, .bool true) :: l) L XT ops rest Q) (h0 : HL c d ((i, .bool false) :: l) L XF ops rest Q) (hp : ∀ ch, pc ch → HQ c d l L (fun _ _ => True) (Q (.panic ch))) : HL c d l L X ops (⟨some i, .call ⟨.value f, args, at_⟩, ty, ps, af, gd⟩ :: rest) Q := fun a w hfr hs => by
  refine wpListIn_do (goes_wanted hfr hg) rfl ?_
  obtain ⟨xs, hx1, hx2⟩ := hs.x
  obtain ⟨fn, tmps, assign, body, hy, hR⟩ := hY xs w (fun k hk => ⟨(hx1 k hk).2.1, (hx1 k hk).1⟩) hs.keep hx2
  have h2 := hfr.evals ha
  have h3 : args.map a.eval = vs.toArray := by apply Array.toList_inj.1; rw [Array.toList_map]; simpa using h2
  have h4 : a.eval f = .func (.yield q) #[] #[] := hfr.eval hf
  have hrun : (execOp a.eval ⟨some i, .call ⟨.value f, args, at_⟩, ty, ps, af, gd⟩).run c.P w = .ok (.round q fn tmps assign body) w := by
    simp only [execOp, Sem.run_bind]
    simp [resolve, h3, h4, Deferred.ofValue, Result.andThen, invoke, hy]
  rw [hrun, Oper.uponIn_round]
  refine ⟨fun hdep => (by cases hdep), ?_⟩
  refine RoundIn.mono (show RoundIn (FW c.ro) (0 - 1) c.P q fn tmps assign body w _ from hR) ?_
  have base : ∀ xs' w' X', Keep xs w w' → (∀ k ∈ xs', k < w'.heap.size ∧ (k ∈ xs ∨ w.heap.size ≤ k)) → Foot xs' X' w' → St c L X' w' := fun xs' w' X' hk hxs hx => by
    refine ⟨hs.keep.glue hk fun k hm => ?_, fun p hp => ?_, hs.distinct, hs.ext, hs.xlt, xs', fun k hm => ?_, hx⟩
    · rcases (hx1 k hm).1 with g | g
      · exact .inl (List.mem_append_right _ g)
      · exact .inr g
    · obtain ⟨g1, g2, g3⟩ := hs.own p hp
      exact ⟨g1, g2, (hk.block p.1 (lt_of_some g3) fun hm => (hx1 _ hm).2.2 p hp rfl).trans g3⟩
    · obtain ⟨g1, g2⟩ := hxs k hm
      refine ⟨g2.elim (fun g => (hx1 k g).1) fun g => .inr (Nat.le_trans hs.keep.size g), g1, fun p hp => ?_⟩
      rcases g2 with g | g
      · exact (hx1 k g).2.2 p hp
      · have := lt_of_some (hs.own p hp).2.2; omega
  rintro e w' (⟨b, xs', rfl, hxs, hk, hb⟩ | ⟨ch, rfl, hpc, hk⟩)
  · cases b with
    | true => exact h1 _ w' (hfr.put (Nat.le_of_ble_eq_true hi)) (base xs' w' XT hk hxs (by simpa using hb))
    | false => exact h0 _ w' (hfr.put (Nat.le_of_ble_eq_true hi)) (base xs' w' XF hk hxs (by simpa using hb))
  · exact hp ch hpc a w' hfr (base [] w' _ hk (by simp) fun _ _ => trivial)
end
/-! Frames of functions that are there -/
def wpE (F : Fence) (n : Nat) (P : Program) (c : Code) (Q : Exit → Act → World → Prop) (a : Act) (w : World) : Prop :=
  ∀ (b : Frame) (k : List Item) (cs : List Frame), b.roundOf = F.round → F.fn b.fn → (∃ fn, P.funcs[b.fn]? = some fn) → F.room (cs.length + 1 + n) →
    ∃ e a' w', Q e a' w' ∧ ArrivesIn (Machine.fenced P F) P (lone (b.atR a (.code c :: k)) cs w) b k cs e a' w'
theorem wpE_of {F : Fence} {n : Nat} {P : Program} {c : Code} {Q : Exit → Act → World → Prop} {a : Act} {w : World} (h : c.wpIn F n P Q a w) : wpE F n P c Q a w := fun b k cs h1 h2 _ h4 => h b k cs h1 h2 h4
theorem wpE_seq {F : Fence} {n : Nat} {P : Program} {x y : Code} {Q : Exit → Act → World → Prop} {a : Act} {w : World} (h : wpE F n P x (Exit.then (wpE F n P y Q) Q) a w) : wpE F n P (.seq x y) Q a w := by
  intro b k cs hro hb hfn hr
  have h0 : (lone (b.atR a (.code (.seq x y) :: k)) cs w).fenced P F := fenced_calm hb hr rfl
  obtain ⟨e, a₁, w₁, hq, harr⟩ := h b (.code y :: k) cs hro hb hfn hr
  cases e with
  | normal =>
    obtain ⟨e₂, a₂, w₂, hq₂, harr₂⟩ := hq b k cs hro hb hfn hr
    exact ⟨e₂, a₂, w₂, hq₂, .of_steps (.head h0 stepR_seq harr) harr₂⟩
  | exit id => exact ⟨_, a₁, w₁, hq, .of_steps (.one h0 stepR_seq) (.pass (x := .code y) rfl (fun _ _ => .inl (by simp)) harr)⟩
  | goto l => exact ⟨_, a₁, w₁, hq, .of_steps (.one h0 stepR_seq) (.pass (x := .code y) rfl (fun _ _ => .inl (by simp)) harr)⟩
  | ret => exact ⟨_, a₁, w₁, hq, .of_steps (.one h0 stepR_seq) (.pass (x := .code y) rfl (fun _ _ => .inl (by simp)) harr)⟩
  | panic ch => exact ⟨_, a₁, w₁, hq, .of_steps (.one h0 stepR_seq) (.pass (x := .code y) rfl (fun _ _ => .inl (by simp)) harr)⟩
  | outgrown => exact ⟨_, a₁, w₁, hq, .of_steps (.one h0 stepR_seq) (.pass (x := .code y) rfl (fun _ _ => .inl (by simp)) harr)⟩
theorem wpE_block {F : Fence} {n : Nat} {P : Program} {id : Nat} {c : Code} {Q : Exit → Act → World → Prop} {a : Act} {w : World} (h : wpE F n P c (Exit.inBlock id Q) a w) : wpE F n P (.block id c) Q a w := by
  intro b k cs hro hb hfn hr
  have h0 : (lone (b.atR a (.code (.block id c) :: k)) cs w).fenced P F := fenced_calm hb hr rfl
  obtain ⟨e, a₁, w₁, hq, harr⟩ := h b (.inBlock id :: k) cs hro hb hfn hr
  cases e with
  | normal => exact ⟨.normal, a₁, w₁, hq, .head h0 stepR_block (StepsIn.trans harr (.one (fenced_calm hb hr rfl) stepR_inBlock))⟩
  | exit id' =>
    by_cases hid : id' = id
    · simp only [Exit.inBlock, hid, if_true] at hq
      exact ⟨.normal, a₁, w₁, hq, .head h0 stepR_block (harr.1 k (by simp [exitTo, hid]))⟩
    · simp only [Exit.inBlock, hid, if_false] at hq
      have this : (id == id') = false := by simp; exact fun h => hid h.symm
      have hx : exitTo id' (.inBlock id :: k) = exitTo id' k := by simp [exitTo, this]
      exact ⟨.exit id', a₁, w₁, hq, fun k' hk => .head h0 stepR_block (harr.1 k' (by rw [hx]; exact hk)),
        fun hr' hk => let ⟨k₁, h1, h2⟩ := harr.2 hr' (by rw [hx]; exact hk); ⟨k₁, h1, .head h0 stepR_block h2⟩⟩
  | goto l =>
    have hx : gotoIn l (.inBlock id :: k) = gotoIn l k := by simp [gotoIn]
    exact ⟨_, a₁, w₁, hq, fun k' hk => .head h0 stepR_block (harr.1 k' (by rw [hx]; exact hk)),
      fun hr' hk => let ⟨k₁, h1, h2⟩ := harr.2 hr' (by rw [hx]; exact hk); ⟨k₁, h1, .head h0 stepR_block h2⟩⟩
  | ret => exact ⟨_, a₁, w₁, hq, .of_steps (.one h0 stepR_block) harr⟩
  | panic ch => exact ⟨_, a₁, w₁, hq, .of_steps (.one h0 stepR_block) harr⟩
  | outgrown => exact ⟨_, a₁, w₁, hq, .of_steps (.one h0 stepR_block) harr⟩
theorem callsE {F : Fence} {n : Nat} {P : Program} {f : FuncId} {fn : Func} {c : Code} {args : Array Value} {w : World} {R : Ending → World → Prop}
    (hf : P.funcs[f]? = some fn) (hb : fn.body = some c) (hF : F.fn f)
    (h : wpE F n P c (bodyPostM F n P fn R) { tmps := args ++ Array.replicate (fn.ntmps - args.size) undef, defers := [] } w) (hro : F.round = none := by rfl) : CallsIn F n P f args w R := by
  refine ⟨hF, fun cs hr => ?_⟩
  let b : Frame := { (default : Frame) with fn := f, kind := .normal, roundOf := none }
  have henter : Frame.enter P f args .normal =
      b.atR { tmps := args ++ Array.replicate (fn.ntmps - args.size) undef, defers := [] } [.code c] := by
    simp [Frame.enter, Frame.atR, hf, hb, b]
  obtain ⟨e, a', w', hq, harr⟩ := h b [] cs hro.symm hF ⟨fn, hf⟩ hr
  rw [← henter] at harr
  cases e with
  | normal =>
    obtain ⟨e', w'', fr', hR, hs, hfn, hl⟩ := leaves_stepsInM a'.defers .returning w' { b.atR a' [] with mode := .returning } cs rfl rfl rfl hf rfl hF hr hq
    exact ⟨e', w'', fr', hR, ComesIn.of_steps (StepsIn.trans harr (.one (fenced_calm (fr := b.atR a' []) hF hr rfl) (stepR_end rfl))) hs, hfn, hl⟩
  | ret =>
    obtain ⟨todo, hs₀⟩ := harr.1 rfl
    obtain ⟨e', w'', fr', hR, hs, hfn, hl⟩ := leaves_stepsInM a'.defers .returning w' { b.atR a' todo with mode := .returning } cs rfl rfl rfl hf rfl hF hr hq
    exact ⟨e', w'', fr', hR, ComesIn.of_steps hs₀ hs, hfn, hl⟩
  | panic chain =>
    obtain ⟨todo, hs₀⟩ := harr
    obtain ⟨e', w'', fr', hR, hs, hfn, hl⟩ := leaves_stepsInM a'.defers (.panicking chain) w' { b.atR a' todo with mode := .panicking chain } cs rfl rfl rfl hf rfl hF hr hq
    exact ⟨e', w'', fr', hR, ComesIn.of_steps hs₀ hs, hfn, hl⟩
  | exit id => exact hq.elim
  | goto l => exact hq.elim
  | outgrown => exact ⟨.outgrown, w', b, hq, harr.resolve_left (by simp [b]), rfl, trivial⟩
theorem wpE_rangeFunc {F : Fence} {n : Nat} {P : Program} {g : Operand} {ps : Array Tmp} {assign body : Code} {Q : Exit → Act → World → Prop} {a : Act} {w : World}
    (h : ∀ fn, F.fn fn → (∃ fd, P.funcs[fn]? = some fd) → ∃ (l : Nat) (mark : List Deferred) (w₁ : World) (d : Deferred) (w₁' : World) (f : FuncId) (args : Array Value) (w₂ : World),
      (Instr.enterLoop fn a.tmps ps assign body F.round).run P w = .ok (l, mark) w₁ ∧
      (resolve a.eval (rangeCall g l) 0).run P w₁ = .ok d w₁' ∧
      (∀ f', Target.leads P w₁' d.target d.args = some f' → F.fn f') ∧
      (invoke d.target d.args).run P w₁' = .ok (.enter f args) w₂ ∧
      (F.depth.isSome = true → 1 ≤ n) ∧
      CallsIn F (n - 1) P f args w₂ (rangePost F n P l Q { a with defers := mark ++ a.defers })) :
    wpE F n P (.rangeFunc g ps assign body) Q a w := by
  intro b k cs hro hb hfn hr
  have h2 := h b.fn hb hfn
  have h3 : (Code.rangeFunc g ps assign body).wpIn { F with fn := fun f => F.fn f } n P Q a w → True := fun _ => trivial
  obtain ⟨l, mark, w₁, d, w₁', f, args, w₂, he, hres, hlead, hinv, hn, hF, hcall⟩ := h2
  rw [← hro] at he
  have h0 : (lone (b.atR a (.code (.rangeFunc g ps assign body) :: k)) cs w).fenced P F := by
    refine fenced_lone (.inl hb) (fun f' hf' => hlead f' ?_) (Fence.room_le hr (by omega))
    have hev := Frame.eval_atR b a (.code (.rangeFunc g ps assign body) :: k)
    simp only [Frame.atR] at hev
    simp only [Frame.about, Frame.atR, he, hev, hres] at hf'
    exact hf'
  have henter := stepR_rangeFunc (P := P) (b := b) (a := a) (k := k) (cs := cs) (w := w) he hres hinv
  have hroom : F.room ((b.atR { a with defers := mark ++ a.defers } (.inRangeFunc l :: k) :: cs).length + 1 + (n - 1)) := Fence.room_enter hr hn
  obtain ⟨e, w₃, fr, hR, hsteps, hfn', hleave⟩ := hcall (b.atR { a with defers := mark ++ a.defers } (.inRangeFunc l :: k) :: cs) hroom
  cases e with
  | outgrown =>
    obtain ⟨a₀, w₀, hq⟩ := hR
    exact ⟨.outgrown, a₀, w₀, hq, .inr (Outgrown.of_steps (.one henter) hsteps)⟩
  | returned v =>
    have hl : (lone fr (b.atR { a with defers := mark ++ a.defers } (.inRangeFunc l :: k) :: cs) w₃).fenced P F := fenced_leaving (hfn' ▸ hF) hroom hleave
    obtain ⟨jump, w₄, hend, hj⟩ := hR
    have sback : StepsIn (Machine.fenced P F) P (lone (b.atR a (.code (.rangeFunc g ps assign body) :: k)) cs w) (lone (b.atR { a with defers := mark ++ a.defers } ((jump.map Item.code).toList ++ k)) cs w₄) := by
      refine .head h0 henter (StepsIn.trans hsteps (.head hl ?_ (.one (fenced_calm (fr := b.atR { a with defers := mark ++ a.defers } (.endRangeFunc l :: k)) hb hr rfl) (stepR_endRangeFunc hend))))
      rw [← finish_atR_inRangeFunc l v]; exact step_leave_returned hleave
    cases jump with
    | none => exact ⟨.normal, _, w₄, hj, sback⟩
    | some c =>
      obtain ⟨e', a'', w₅, hq, harr⟩ := hj b k cs hro hb hr
      exact ⟨e', a'', w₅, hq, .of_steps sback harr⟩
  | panicked chain =>
    have hl : (lone fr (b.atR { a with defers := mark ++ a.defers } (.inRangeFunc l :: k) :: cs) w₃).fenced P F := fenced_leaving (hfn' ▸ hF) hroom hleave
    refine ⟨.panic chain, _, w₃, hR, .inRangeFunc l :: k, .head h0 henter (StepsIn.trans hsteps (.one hl ?_))⟩
    rw [← Frame.raise_atR]; exact step_leave_panicked hleave
/-- What a round owes at its end, when it may panic. -/
def roundQX {σ τ : Type} (c3 : Cx) (Xb : XP) (I : σ → Prop) (LI : σ → List (Nat × Obj)) (E : Code → τ → Prop) (LE : τ → List (Nat × Obj)) (pc : List PanicEntry → Prop) : Exit → Act → World → Prop
  | .normal, _, w => ∃ s, I s ∧ St c3 (LI s) Xb w
  | .ret, _, w => ∃ s, E .ret s ∧ St c3 (LE s) Xb w
  | .exit id, _, w => ∃ s, E (.exit id) s ∧ St c3 (LE s) Xb w
  | .panic ch, a, w => a.defers = [] ∧ pc ch ∧ ∃ LL, St c3 LL Xb w
  | _, _, _ => False
theorem roundQX_post {σ τ : Type} {c3 : Cx} {q : Nat} {r : Loop} {I : σ → Prop} {LI : σ → List (Nat × Obj)} {E : Code → τ → Prop} {LE : τ → List (Nat × Obj)} {pc : List PanicEntry → Prop} {R : Ending → World → Prop}
    (h1 : ∀ s w, I s → St c3 (LI s) (recX q { r with state := .busy }) w → R (.returned (.bool true)) (w.putObj q (.loop { r with state := .ready, pending := none })))
    (h2 : ∀ j s w, E j s → St c3 (LE s) (recX q { r with state := .busy }) w → R (.returned (.bool false)) (w.putObj q (.loop { r with state := .done, pending := some j })))
    (h3 : ∀ ch LL w, pc ch → St c3 LL (recX q { r with state := .busy }) w → R (.panicked ch) w)
    (e : Exit) (a : Act) (w : World) (h : roundQX c3 (recX q { r with state := .busy }) I LI E LE pc e a w) : roundPostX c3.P q R e a w := by
  have hend : ∀ (w : World) (jump : Option Code), w.heap[q]? = some (.loop { r with state := .busy }) → (Instr.endRound q jump).run c3.P w = .ok (.bool jump.isNone) (w.putObj q (.loop { r with state := if jump.isNone then .ready else .done, pending := jump })) := fun w jump hw => run_endRound (r := { r with state := .busy }) jump hw
  cases e with
  | normal => obtain ⟨s, hs, hst⟩ := h; exact ⟨_, _, hend w none hst.recd, h1 s w hs hst⟩
  | ret => obtain ⟨s, hs, hst⟩ := h; exact ⟨_, _, hend w (some .ret) hst.recd, h2 _ s w hs hst⟩
  | exit id => obtain ⟨s, hs, hst⟩ := h; exact ⟨_, _, hend w (some (.exit id)) hst.recd, h2 _ s w hs hst⟩
  | goto t => exact h.elim
  | panic ch => obtain ⟨hd, hpc, LL, hst⟩ := h; exact ⟨hd, h3 ch LL w hpc hst⟩
  | outgrown => exact h.elim
theorem HQ_roundX {σ τ : Type} {c3 : Cx} {l : List (Nat × Value)} {L : List (Nat × Obj)} {Xb : XP} {I : σ → Prop} {LI : σ → List (Nat × Obj)} {E : Code → τ → Prop} {LE : τ → List (Nat × Obj)} {pc : List PanicEntry → Prop} {ch : List PanicEntry} (h : pc ch) : HQ c3 [] l L Xb (roundQX c3 Xb I LI E LE pc (.panic ch)) := fun a w hf hs => ⟨hf.defers, h, L, hs⟩
def HCE (c : Cx) (d : List Deferred) (l : List (Nat × Value)) (L : List (Nat × Obj)) (X : XP) (code : Code) (Q : Exit → Act → World → Prop) : Prop :=
  ∀ a w, Fr c.n d l a → St c L X w → wpE (FW c.ro) 0 c.P code Q a w
section
variable {c : Cx} {l : List (Nat × Value)} {L : List (Nat × Obj)} {X : XP} {Q : Exit → Act → World → Prop} {d : List Deferred}
theorem HCE_of {code : Code} (h : HC c d l L X code Q) : HCE c d l L X code Q := fun a w hf hs => wpE_of (h a w hf hs)
theorem HCE_seq {x y : Code} (h : ∀ K, (∀ d l L X, HCE c d l L X y Q → HQ c d l L X K) → HCE c d l L X x (Exit.then K Q)) : HCE c d l L X (x.seq y) Q :=
  fun a w hf hs => wpE_seq (h (fun a w => wpE (FW c.ro) 0 c.P y Q a w) (fun _ _ _ _ hy a w hf hs => hy a w hf hs) a w hf hs)
theorem HCE_block {id : Nat} {b : Code} (h : HCE c d l L X b (Exit.inBlock id Q)) : HCE c d l L X (.block id b) Q := fun a w hf hs => wpE_block (h a w hf hs)
/-- The first part walks as ever. -/
theorem HCE_seqC {x y : Code} (h : ∀ K, (∀ d l L X, HCE c d l L X y Q → HQ c d l L X K) → HC c d l L X x (Exit.then K Q)) : HCE c d l L X (x.seq y) Q := HCE_seq fun K hK => HCE_of (h K hK)
theorem HC_rangeX {ι σ τ : Type} {f : Operand} {pp : List Nat} {assign body : Code} {gf : FuncId} {caps : List Value} {Rl : List (Nat × Obj)} {p0 : ι} {nx : ι → List Value → ι → Prop} {fi : ι → Prop}
    (pc : List PanicEntry → Prop) (I : ι → σ → Prop) (LI : σ → List (Nat × Obj)) (E : Code → τ → Prop) (LE : τ → List (Nat × Obj)) (Lk : List (Nat × Obj)) (s0 : σ)
    (hro : c.ro = none) (hf : evl l f = some (.func (.func gf) #[] caps.toArray)) (eg : Enters c.P gf) (hit : IterX c.P gf caps Rl p0 nx fi) (hlen : ∀ i v i', nx i v i' → v.length = pp.length) (hpp : pp.all (Nat.blt · c.n) = true)
    (hRl : ∀ p ∈ Rl, p ∈ Lk ∨ p ∈ c.R) (hL : L = LI s0 ++ Lk) (h0 : I p0 s0)
    (hround : ∀ (q : Nat) (Xr Xb : XP) (w3 : World) (i : ι) (v : List Value) (i' : ι) (s : σ), nx i v i' → I i s → ∀ K, BodyK (cxR c q w3 (idsOf (LI s)) Lk) Xr Xb body (roundQX (cxR c q w3 (idsOf (LI s)) Lk) Xb (I i') LI E LE pc) K →
      HC (cxR c q w3 (idsOf (LI s)) Lk) [] (zipL pp v l) (LI s) Xr assign (Exit.then K fun _ _ _ => False))
    (hdone : ∀ D i s, fi i → I i s → HQ c (markOf D :: d) l ((D, .deferred (some [])) :: (LI s ++ Lk)) X (Q .normal))
    (hstop : ∀ D j s, E j s → HC c (markOf D :: d) l ((D, .deferred (some [])) :: (LE s ++ Lk)) X j Q)
    (hpan : ∀ D ch, pc ch → HQ c (markOf D :: d) l ((D, .deferred (some [])) :: Lk) X (Q (.panic ch))) :
    HCE c d l L X (.rangeFunc f pp.toArray assign body) Q := fun a w hfr hs => by
  subst hL
  refine wpE_rangeFunc ?_
  intro fn _ hfdE
  obtain ⟨fd, hfd⟩ := hfdE
  have e0 : (FW c.ro).round = none := by rw [hro]; rfl
  rw [e0]
  obtain ⟨r, hr⟩ : ∃ r : Loop, r = { state := .ready, pending := none, fn, tmps := a.tmps, params := pp.toArray, assign, body, defers := w.heap.size } := ⟨_, rfl⟩
  obtain ⟨w2, hw2⟩ : ∃ w2, (w.alloc (.deferred (some []))).alloc (.loop r) = w2 := ⟨_, rfl⟩
  have hq : (w.alloc (.deferred (some []))).heap.size = w.heap.size + 1 := World.size_alloc _ _
  have hs2 : St c ((w.heap.size + 1, .loop r) :: (w.heap.size, .deferred (some [])) :: (LI s0 ++ Lk)) X w2 := by
    have := (hs.alloc (.deferred (some []))).alloc (.loop r)
    rw [hq, hw2] at this
    exact this
  have hq2 : w2.heap[w.heap.size + 1]? = some (.loop r) := (hs2.own _ List.mem_cons_self).2.2
  have hrr : ({ r with state := .ready, pending := none } : Loop) = r := by rw [hr]
  obtain ⟨M, hM⟩ : ∃ M, idsOf (LI s0) = M := ⟨_, rfl⟩
  refine ⟨w.heap.size + 1, [markOf w.heap.size], w2, { target := .fn (.func gf) caps.toArray, args := #[.func (.yield (w.heap.size + 1)) #[] #[]] }, w2, gf, (.func (.yield (w.heap.size + 1)) #[] #[] :: caps).toArray, w2, ?_, ?_, fun _ _ => trivial, ?_, fun hdep => (by cases hdep), ?_⟩
  · rw [← hw2, hr]; exact run_enterLoop_outer _ _ _ _ _
  · have := hfr.eval hf
    simp only [resolve, this]
    simp [Deferred.ofValue]
    rfl
  · have := eg (#[.func (.yield (w.heap.size + 1)) #[] #[]] ++ caps.toArray) w2
    have e1 : (#[Value.func (.yield (w.heap.size + 1)) #[] #[]] ++ caps.toArray) = (Value.func (.yield (w.heap.size + 1)) #[] #[] :: caps).toArray := by apply Array.toList_inj.1; simp
    rw [e1] at this
    simpa [invoke] using this
  · -- the iterator's contract at our invariant
    have hown := hs2.distinct
    have hMown : ∀ k ∈ M, ∃ o, (k, o) ∈ LI s0 := fun k hk => by
      rw [← hM] at hk
      obtain ⟨p, hp, rfl⟩ := List.mem_map.1 hk
      exact ⟨p.2, hp⟩
    have hpw := List.pairwise_cons.1 hown
    have hpw2 := List.pairwise_cons.1 hpw.2
    have hpw3 := List.pairwise_append.1 hpw2.2
    have hsz2 : w2.heap.size = w.heap.size + 2 := by rw [← hw2, World.size_alloc, World.size_alloc]
    have hLk2 : ∀ p ∈ Lk, p.1 < w2.heap.size := fun p hp => lt_of_some (hs2.own p (List.mem_cons_of_mem _ (List.mem_cons_of_mem _ (List.mem_append_right _ hp)))).2.2
    have hMk : ∀ p ∈ Lk, p.1 ∉ M ∧ p.1 ≠ w.heap.size + 1 := fun p hp => ⟨fun hm => by
      obtain ⟨o, ho⟩ := hMown _ hm
      exact hpw3.2.2 _ ho _ hp rfl, fun e => hpw.1 p (List.mem_cons_of_mem _ (List.mem_append_right _ hp)) e.symm⟩
    have hMq : w.heap.size + 1 ∉ M := fun hm => by
      obtain ⟨o, ho⟩ := hMown _ hm
      exact hpw.1 _ (List.mem_cons_of_mem _ (List.mem_append_left _ ho)) rfl
    have hMD : w.heap.size ∉ M := fun hm => by
      obtain ⟨o, ho⟩ := hMown _ hm
      exact hpw2.1 _ (List.mem_append_left _ ho) rfl
    have hMlt : ∀ k ∈ M, k < w2.heap.size := fun k hk => by
      obtain ⟨o, ho⟩ := hMown _ hk
      exact lt_of_some (hs2.own _ (List.mem_cons_of_mem _ (List.mem_cons_of_mem _ (List.mem_append_left _ ho)))).2.2
    -- what a place of one's own is apart from
    have apart : ∀ {k : Nat}, (k ∈ M ∨ w2.heap.size ≤ k) → k ≠ w.heap.size + 1 ∧ k ≠ w.heap.size ∧ (∀ p ∈ Lk, p.1 ≠ k) := fun {k} hk => by
      rcases hk with hk | hk
      · exact ⟨fun e => hMq (e ▸ hk), fun e => hMD (e ▸ hk), fun p hp e => (hMk p hp).1 (e ▸ hk)⟩
      · exact ⟨by omega, by omega, fun p hp e => by have := hLk2 p hp; omega⟩
    have apartR : ∀ {k : Nat}, (k ∈ M ∨ w2.heap.size ≤ k) → ∀ p ∈ c.R, p.1 ≠ k := fun {k} hk p hp e => by
      obtain ⟨e1, _, e3⟩ := hs2.ext p hp
      have h1 := lt_of_some e3
      have h2 := hs.keep.size
      rcases hk with hk | hk
      · obtain ⟨o, ho⟩ := hMown _ hk
        rcases (hs2.own _ (List.mem_cons_of_mem _ (List.mem_cons_of_mem _ (List.mem_append_left _ ho)))).1 with g | g
        · exact e1 (e ▸ g)
        · simp only at g; omega
      · omega
    have hcalls := hit (w.heap.size + 1) ((w.heap.size + 1) :: M) w2 (fun i => loopX (w.heap.size + 1) w2.heap.size M r (I i) LI)
      (fun xs w' => ∃ j, loopX (w.heap.size + 1) w2.heap.size M { r with state := .done, pending := some j } (E j) LE xs w') pc
      (fun p hp => by
        rcases hRl p hp with hL | hR
        · refine ⟨fun hm => ?_, (hs2.own p (List.mem_cons_of_mem _ (List.mem_cons_of_mem _ (List.mem_append_right _ hL)))).2.2⟩
          obtain ⟨h1, h2⟩ := hMk p hL
          rcases List.mem_cons.1 hm with hm | hm
          · exact h2 hm
          · exact h1 hm
        · refine ⟨fun hm => ?_, hs2.readR hR⟩
          rcases List.mem_cons.1 hm with hm | hm
          · have h1 := lt_of_some (hs2.ext p hR).2.2
            have h2 := hs.keep.size
            omega
          · exact apartR (.inl hm) p hR rfl)
      (fun k hk => by
        rcases List.mem_cons.1 hk with rfl | hk
        · exact lt_of_some hq2
        · exact hMlt k hk)
      (by
        have := foot_loopX (q := w.heap.size + 1) (B := w2.heap.size) (M := M) (rec := r) (I := I p0) (LI := LI) s0 h0 hpw3.1 (fun p hp => .inl (by rw [← hM]; exact List.mem_map_of_mem (f := (·.1)) hp)) (fun p hp => (hs2.own _ (List.mem_cons_of_mem _ (List.mem_cons_of_mem _ (List.mem_append_left _ hp)))).2.2) hq2
        rw [hM] at this
        exact this)
      ?_
    · refine CallsIn.mono (show CallsIn (FW c.ro) (0 - 1) c.P gf _ w2 _ from callsIn_wide (n := 0) |>.2 hcalls) ?_
      rintro e w' (⟨⟨v, rfl⟩, hk, hfin⟩ | ⟨ch, rfl, hpc, hk⟩)
      rotate_left
      · refine hpan w.heap.size ch hpc _ w' ⟨hfr.size, by simp [hfr.defers], hfr.slots⟩ ?_
        refine hs2.jump hk (fun k hm => ?_) (List.pairwise_cons.2 ⟨fun p hp => hpw2.1 p (List.mem_append_right _ hp), hpw3.2.1⟩) (fun p hp => ?_)
        · rcases List.mem_cons.1 hm with rfl | hm
          · exact ⟨_, List.mem_cons_self⟩
          · obtain ⟨o, ho⟩ := hMown k hm
            exact ⟨o, List.mem_cons_of_mem _ (List.mem_cons_of_mem _ (List.mem_append_left _ ho))⟩
        · rcases List.mem_cons.1 hp with rfl | hp
          · refine ⟨.inl ⟨_, List.mem_cons_of_mem _ List.mem_cons_self⟩, ?_⟩
            refine (hk.block w.heap.size (lt_of_some (hs2.own _ (List.mem_cons_of_mem _ List.mem_cons_self)).2.2) ?_).trans (hs2.own _ (List.mem_cons_of_mem _ List.mem_cons_self)).2.2
            simp only [List.mem_cons, not_or]; exact ⟨by omega, hMD⟩
          · have hmem := List.mem_cons_of_mem (w.heap.size + 1, Obj.loop r) (List.mem_cons_of_mem (w.heap.size, Obj.deferred (some [])) (List.mem_append_right (LI s0) hp))
            refine ⟨.inl ⟨p.2, hmem⟩, ?_⟩
            obtain ⟨g1, g2⟩ := hMk p hp
            refine (hk.block p.1 (lt_of_some (hs2.own _ hmem).2.2) ?_).trans (hs2.own _ hmem).2.2
            simp only [List.mem_cons, not_or]; exact ⟨g2, g1⟩
      have fin : ∀ (st : LoopState) (pe : Option Code) (LL : List (Nat × Obj)), st ≠ .busy → LL.Pairwise (fun p q => p.1 ≠ q.1) → (∀ p ∈ LL, p.1 ∈ M ∨ w2.heap.size ≤ p.1) → Has LL w' → w'.heap[w.heap.size + 1]? = some (.loop { r with state := st, pending := pe }) →
          (Instr.endLoop (w.heap.size + 1)).run c.P w' = .ok pe (w'.putObj (w.heap.size + 1) (.loop { r with state := .exhausted, pending := pe })) ∧
          St c ((w.heap.size, .deferred (some [])) :: (LL ++ Lk)) X (w'.putObj (w.heap.size + 1) (.loop { r with state := .exhausted, pending := pe })) := by
        intro st pe LL hst hpwL hLM hLL hl
        refine ⟨run_endLoop hl hst, ?_⟩
        have hk2 : Keep ((w.heap.size + 1) :: M) w2 (w'.putObj (w.heap.size + 1) (.loop { r with state := .exhausted, pending := pe })) :=
          hk.trans ((Keep.putObj _ _).weak fun k hm => by simp at hm; subst hm; exact List.mem_cons_self)
        have hput : ∀ k, k ≠ w.heap.size + 1 → (w'.putObj (w.heap.size + 1) (.loop { r with state := .exhausted, pending := pe })).heap[k]? = w'.heap[k]? := fun k hne => World.putObj_heap_other hne
        refine hs2.jump hk2 (fun k hm => ?_) ?_ (fun p hp => ?_)
        · rcases List.mem_cons.1 hm with rfl | hm
          · exact ⟨_, List.mem_cons_self⟩
          · obtain ⟨o, ho⟩ := hMown k hm
            exact ⟨o, List.mem_cons_of_mem _ (List.mem_cons_of_mem _ (List.mem_append_left _ ho))⟩
        · refine List.pairwise_cons.2 ⟨fun p hp => ?_, List.pairwise_append.2 ⟨hpwL, hpw3.2.1, fun p hp p' hp' => ?_⟩⟩
          · rcases List.mem_append.1 hp with hp | hp
            · exact fun e => (apart (hLM p hp)).2.1 e.symm
            · exact hpw2.1 p (List.mem_append_right _ hp)
          · exact fun e => (apart (hLM p hp)).2.2 p' hp' e.symm
        · rcases List.mem_cons.1 hp with rfl | hp
          · refine ⟨.inl ⟨_, List.mem_cons_of_mem _ List.mem_cons_self⟩, ?_⟩
            rw [hput _ (by simp)]
            refine (hk.block w.heap.size (lt_of_some (hs2.own _ (List.mem_cons_of_mem _ List.mem_cons_self)).2.2) ?_).trans (hs2.own _ (List.mem_cons_of_mem _ List.mem_cons_self)).2.2
            simp only [List.mem_cons, not_or]; exact ⟨by omega, hMD⟩
          · rcases List.mem_append.1 hp with hp | hp
            · refine ⟨?_, ?_⟩
              · rcases hLM p hp with g | g
                · obtain ⟨o, ho⟩ := hMown _ g
                  exact .inl ⟨o, List.mem_cons_of_mem _ (List.mem_cons_of_mem _ (List.mem_append_left _ ho))⟩
                · exact .inr g
              · rw [hput _ (apart (hLM p hp)).1]
                exact hLL p hp
            · have hmem := List.mem_cons_of_mem (w.heap.size + 1, Obj.loop r) (List.mem_cons_of_mem (w.heap.size, Obj.deferred (some [])) (List.mem_append_right (LI s0) hp))
              refine ⟨.inl ⟨p.2, hmem⟩, ?_⟩
              obtain ⟨g1, g2⟩ := hMk p hp
              rw [hput _ g2]
              refine (hk.block p.1 (lt_of_some (hs2.own _ hmem).2.2) ?_).trans (hs2.own _ hmem).2.2
              simp only [List.mem_cons, not_or]; exact ⟨g2, g1⟩
      have hfr2 : Fr c.n (markOf w.heap.size :: d) l { tmps := a.tmps, defers := [markOf w.heap.size] ++ a.defers } := ⟨hfr.size, by simp [hfr.defers], hfr.slots⟩
      rcases hfin with ⟨i, xs, hi, ⟨s, h1, h2, h3, h4, _⟩, h5⟩ | ⟨xs, j, ⟨s, h1, h2, h3, h4, _⟩, h5⟩
      · obtain ⟨g1, g2⟩ := fin .ready none (LI s) (by simp) h2 h3 h4 (by rw [hrr]; exact h5)
        exact ⟨none, _, g1, hdone _ i s hi h1 _ _ hfr2 g2⟩
      · obtain ⟨g1, g2⟩ := fin .done (some j) (LE s) (by simp) h2 h3 h4 h5
        exact ⟨some j, _, g1, hstop _ j s h1 _ _ hfr2 g2⟩
    · -- a round
      rintro i v i' hi xs w3 hxs hk3 hfoot
      obtain ⟨⟨s, h1, hpwS, hMS, h2, rfl⟩, h3⟩ := hfoot w3 fun _ _ => rfl
      have hargs : v.toArray.size = r.params.size := by rw [hr]; simpa using hlen i v i' hi
      have hy := run_yield (P := c.P) (args := v.toArray) h3 hargs
      refine ⟨_, _, _, _, hy, ?_⟩
      obtain ⟨c3, hc3⟩ : ∃ c3, cxR c (w.heap.size + 1) w3 (idsOf (LI s)) Lk = c3 := ⟨_, rfl⟩
      have hc3x : c3.xids = [w.heap.size + 1] := by rw [← hc3]; rfl
      have hc3i : c3.ids = idsOf (LI s) := by rw [← hc3]; rfl
      have hc3w : c3.w1 = w3 := by rw [← hc3]; rfl
      have hmemS : ∀ p ∈ LI s, p.1 ∈ idsOf (LI s) := fun p hp => List.mem_map_of_mem (f := (·.1)) hp
      have hidS : ∀ {k : Nat}, k ∈ idsOf (LI s) → k ∈ M ∨ w2.heap.size ≤ k := fun {k} hk => by
        obtain ⟨p, hp, rfl⟩ := List.mem_map.1 hk
        exact hMS p hp
      have hst3 : St c3 (LI s) (recX (w.heap.size + 1) r) w3 := by
        subst hc3
        refine ⟨Keep.refl _ _, fun p hp => ⟨.inl (hmemS p hp), ?_, h2 p hp⟩, hpwS, ?_, ?_, [w.heap.size + 1], fun k hk => ?_, fun w' hw' => (hw' _ (by simp)).trans h3⟩
        · simp only [cxR, List.mem_singleton]; exact (apart (hMS p hp)).1
        · intro p hp
          simp only [cxR] at hp ⊢
          rcases List.mem_append.1 hp with hp | hp
          · obtain ⟨g1, g2⟩ := hMk p hp
            refine ⟨fun hm => (apart (hidS hm)).2.2 p hp rfl, by simpa using g2, ?_⟩
            have hmem := List.mem_cons_of_mem (w.heap.size + 1, Obj.loop r) (List.mem_cons_of_mem (w.heap.size, Obj.deferred (some [])) (List.mem_append_right (LI s0) hp))
            exact (hk3.block p.1 (lt_of_some (hs2.own _ hmem).2.2) (by simp only [List.mem_cons, not_or]; exact ⟨g2, g1⟩)).trans (hs2.own _ hmem).2.2
          · have e3 := hs2.readR hp
            have hlt := lt_of_some (hs2.ext p hp).2.2
            have hsz := hs.keep.size
            have hnq : p.1 ≠ w.heap.size + 1 := fun e => by omega
            refine ⟨fun hm => apartR (hidS hm) p hp rfl, by simpa using hnq, ?_⟩
            exact (hk3.block p.1 (lt_of_some e3) (by simp only [List.mem_cons, not_or]; exact ⟨hnq, fun hm => apartR (.inl hm) p hp rfl⟩)).trans e3
        · intro k hk; simp only [cxR, List.mem_singleton] at hk; subst hk; exact lt_of_some h3
        · simp only [List.mem_singleton] at hk
          subst hk
          exact ⟨.inl (by simp [cxR]), lt_of_some h3, fun p hp => (apart (hMS p hp)).1⟩
      have hbusy : ∀ {LL : List (Nat × Obj)} {w' : World}, St c3 LL (recX (w.heap.size + 1) r) w' →
          St c3 LL (recX (w.heap.size + 1) { r with state := .busy, pending := none }) (w'.putObj (w.heap.size + 1) (.loop { r with state := .busy, pending := none })) := by
        intro LL w' hst
        have hlt : w.heap.size + 1 < w'.heap.size := lt_of_some hst.recd
        refine ⟨hst.keep.trans ((Keep.putObj _ _).weak fun k hm => by simp at hm; subst hm; rw [hc3x]; simp), fun p hp => ?_, hst.distinct, hst.ext, hst.xlt, [w.heap.size + 1], fun k hk => ?_, fun w'' hw'' => (hw'' _ (by simp)).trans (World.putObj_heap_same hlt)⟩
        · obtain ⟨g1, g2, g3⟩ := hst.own p hp
          refine ⟨g1, g2, (World.putObj_heap_other ?_).trans g3⟩
          intro e; exact g2 (by rw [e, hc3x]; simp)
        · simp only [List.mem_singleton] at hk
          subst hk
          exact ⟨.inl (by rw [hc3x]; simp), Nat.lt_of_lt_of_le hlt (Keep.putObj _ _).size, fun p hp e => (hst.own p hp).2.1 (by rw [hc3x, e]; simp)⟩
      have hfr3 : Fr c3.n [] (zipL pp v l) { tmps := (r.params.zip v.toArray).foldl (fun (t : Array Value) (pv : Nat × Value) => t.setIfInBounds pv.1 pv.2) r.tmps, defers := [] } := by
        have h5 := fr_zip (n := c.n) pp v l a.tmps (fun p hp => by have := List.all_eq_true.1 hpp p hp; simpa using this) ⟨hfr.size, rfl, hfr.slots⟩
        rw [hr, ← hc3]
        simp only [List.zip_toArray, List.foldl_toArray']
        exact h5
      have key : ∀ RR : Ending → World → Prop,
          (∀ s' w', I i' s' → St c3 (LI s') (recX (w.heap.size + 1) { r with state := .busy, pending := none }) w' → RR (.returned (.bool true)) (w'.putObj (w.heap.size + 1) (.loop { r with state := .ready, pending := none }))) →
          (∀ j s' w', E j s' → St c3 (LE s') (recX (w.heap.size + 1) { r with state := .busy, pending := none }) w' → RR (.returned (.bool false)) (w'.putObj (w.heap.size + 1) (.loop { r with state := .done, pending := some j }))) →
          (∀ ch LL w', pc ch → St c3 LL (recX (w.heap.size + 1) { r with state := .busy, pending := none }) w' → RR (.panicked ch) w') →
          RoundIn (FW none) 0 c.P (w.heap.size + 1) r.fn ((r.params.zip v.toArray).foldl (fun (t : Array Value) (pv : Nat × Value) => t.setIfInBounds pv.1 pv.2) r.tmps) r.assign r.body w3 RR := by
        intro RR g1 g2 g3
        refine roundInX_of_wpIn (F := FW none) (fn := fd) trivial (by rw [hr]; exact hfd) ?_
        have hround' := hround (w.heap.size + 1) (recX (w.heap.size + 1) r) (recX (w.heap.size + 1) { r with state := .busy, pending := none }) w3 i v i' s hi h1
          (fun a₁ w₁ => ∃ w₂, (Instr.beginRound (w.heap.size + 1)).run c.P w₁ = .ok () w₂ ∧ body.wpIn ((FW none).inRound (w.heap.size + 1)) 0 c.P (roundPostX c.P (w.heap.size + 1) RR) a₁ w₂)
        rw [hc3] at hround'
        have hround'' := hround' (fun l' L' hb a₁ w₁ hf₁ hs₁ => ?_) _ w3 hfr3 hst3
        · have e1 : r.assign = assign := by rw [hr]
          have e2 : r.body = body := by rw [hr]
          have e3 : c3.P = c.P := by rw [← hc3]; rfl
          have e4 : c3.ro = some (w.heap.size + 1) := by rw [← hc3]; rfl
          rw [e3, e4] at hround''
          rw [e1, e2]
          exact hround''
        · have hx1 : w₁.heap[w.heap.size + 1]? = some (.loop r) := hs₁.recd
          refine ⟨_, run_beginRound hx1 (by rw [hr]), ?_⟩
          have hb2 := hb a₁ _ hf₁ (hbusy hs₁)
          have hb3 : ({ r with state := .busy } : Loop) = { r with state := .busy, pending := none } := by rw [hr]
          rw [hb3]
          have e3 : c3.P = c.P := by rw [← hc3]; rfl
          have e4 : c3.ro = some (w.heap.size + 1) := by rw [← hc3]; rfl
          rw [e3, e4] at hb2
          refine wpIn_mono (show body.wpIn ((FW none).inRound (w.heap.size + 1)) 0 c.P _ a₁ _ from hb2) ?_
          have := roundQX_post (c3 := c3) (q := w.heap.size + 1) (r := { r with pending := none }) (R := RR) g1 g2 g3
          rw [e3] at this
          exact this
      have turn : ∀ (st : LoopState) (pe : Option Code) (LL : List (Nat × Obj)) (w' : World), St c3 LL (recX (w.heap.size + 1) { r with state := .busy, pending := none }) w' →
          (∀ k ∈ (w.heap.size + 1) :: idsOf LL, k < (w'.putObj (w.heap.size + 1) (.loop { r with state := st, pending := pe })).heap.size ∧ (k ∈ (w.heap.size + 1) :: idsOf (LI s) ∨ w3.heap.size ≤ k)) ∧
          Keep ((w.heap.size + 1) :: idsOf (LI s)) w3 (w'.putObj (w.heap.size + 1) (.loop { r with state := st, pending := pe })) ∧ (∀ p ∈ LL, p.1 ∈ M ∨ w2.heap.size ≤ p.1) ∧ Has LL (w'.putObj (w.heap.size + 1) (.loop { r with state := st, pending := pe })) ∧
          (w'.putObj (w.heap.size + 1) (.loop { r with state := st, pending := pe })).heap[w.heap.size + 1]? = some (.loop { r with state := st, pending := pe }) := by
        intro st pe LL w' hst'
        have hlt : w.heap.size + 1 < w'.heap.size := lt_of_some hst'.recd
        have hk' := hst'.keep
        rw [hc3x, hc3i, hc3w] at hk'
        have hown' : ∀ p ∈ LL, (p.1 ∈ idsOf (LI s) ∨ w3.heap.size ≤ p.1) ∧ p.1 ≠ w.heap.size + 1 ∧ w'.heap[p.1]? = some p.2 := fun p hp => by
          have := hst'.own p hp
          rw [hc3x, hc3i, hc3w] at this
          simpa using this
        refine ⟨fun k hk => ?_, ?_, fun p hp => ?_, fun p hp => (World.putObj_heap_other (hown' p hp).2.1).trans (hown' p hp).2.2, World.putObj_heap_same hlt⟩
        · rcases List.mem_cons.1 hk with rfl | hk
          · exact ⟨Nat.lt_of_lt_of_le hlt (Keep.putObj _ _).size, .inl List.mem_cons_self⟩
          · obtain ⟨p, hp, rfl⟩ := List.mem_map.1 hk
            obtain ⟨e1, e2, e3⟩ := hown' p hp
            exact ⟨Nat.lt_of_lt_of_le (lt_of_some e3) (Keep.putObj _ _).size, e1.imp (List.mem_cons_of_mem _) id⟩
        · refine (hk'.weak fun k hm => ?_).trans ((Keep.putObj _ _).weak fun k hm => by simp at hm; subst hm; exact List.mem_cons_self)
          rcases List.mem_append.1 hm with hm | hm
          · exact List.mem_cons_of_mem _ hm
          · simp only [List.mem_singleton] at hm; subst hm; exact List.mem_cons_self
        · rcases (hown' p hp).1 with g | g
          · exact hidS g
          · exact .inr (Nat.le_trans hk3.size g)
      refine key _ ?_ ?_ ?_
      · intro s' w' hI' hst'
        obtain ⟨t1, t2, t3, t4, t5⟩ := turn .ready none (LI s') w' hst'
        refine .inl ⟨true, _, rfl, t1, t2, ?_⟩
        rw [if_pos rfl]
        exact foot_loopX s' hI' hst'.distinct t3 t4 (by rw [hrr] at t5 ⊢; exact t5)
      · intro j s' w' hE' hst'
        obtain ⟨t1, t2, t3, t4, t5⟩ := turn .done (some j) (LE s') w' hst'
        refine .inl ⟨false, _, rfl, t1, t2, ?_⟩
        rw [if_neg (by simp)]
        exact fun w'' hw'' => ⟨j, foot_loopX s' hE' hst'.distinct t3 t4 t5 w'' hw''⟩
      · intro ch LL w' hpc hst'
        have hk' := hst'.keep
        rw [hc3x, hc3i, hc3w] at hk'
        refine .inr ⟨ch, rfl, hpc, hk'.weak fun k hm => ?_⟩
        rcases List.mem_append.1 hm with hm | hm
        · exact List.mem_cons_of_mem _ hm
        · simp only [List.mem_singleton] at hm; subst hm; exact List.mem_cons_self
end
theorem calls_of_HCE {P : Program} {f : FuncId} {fn : Func} {code : Code} {vs : List Value} {w : World} {L : List (Nat × Obj)} {X : XP} {R : Ending → World → Prop} (c : Cx) (hf : P.funcs[f]? = some fn) (hb : fn.body = some code) (hc : c.P = P) (hro : c.ro = none) (hn : c.n = fn.ntmps)
    (hlen : Nat.ble vs.length fn.ntmps = true) (hs : St c L X w) (h : HCE c [] (frame0 0 vs) L X code (bodyPostM (FW none) 0 P fn R)) : Calls P f vs.toArray w R := by
  refine callsIn_wide (n := 0) |>.1 (callsE hf hb trivial ?_)
  have h1 := h _ w (frame0_fr (n := c.n) (by rw [hn]; exact Nat.le_of_ble_eq_true hlen)) hs
  rw [hro, hc, hn] at h1
  exact h1
theorem pureX_of_HCE {α : Type} {P : Program} {f : FuncId} {fn : Func} {code : Code} {vs : List Value} {ok : Prop} {bad : Value → Prop} {V : α → Value} {Rl : List (Nat × Obj)} {LL : α → List (Nat × Obj)} (hf : P.funcs[f]? = some fn) (hb : fn.body = some code) (hlen : Nat.ble vs.length fn.ntmps = true)
    (h : ∀ w, HCE (cxX P w Rl fn.ntmps) [] (frame0 0 vs) [] (fun _ _ => True) code (bodyPostM (FW none) 0 P fn (postX (cxX P w Rl fn.ntmps) ok bad V LL))) : PureX P f vs.toArray ok bad V LL Rl := ⟨fun w hR =>
  (calls_of_HCE (cxX P w Rl fn.ntmps) hf hb rfl rfl rfl hlen (St.startX hR) (h w)).mono fun _ _ h => h.imp
    (fun ⟨ho, x, he, hs⟩ => ⟨ho, x, he, by have := hs.keep; simpa [cxX] using this, fun p hp => by have := (hs.own p hp); simp only [cxX, List.not_mem_nil, false_or] at this; exact ⟨this.1, this.2.2⟩, hs.distinct⟩)
    (fun ⟨v, hv, he, hk⟩ => ⟨v, hv, he, hk⟩)⟩
end Go.SL
/-! ### Deferred calls that may recover -/
namespace Go.SL
set_option linter.all false
open Go Go.RowKit Go.Shelf
open Go.Proofs (Enters enters_of)
def dF (g : FuncId) (caps : List Value) : Deferred := { target := .fn (.func g) caps.toArray, args := #[] }
/-- What a deferred call makes of the mode and of the blocks. -/
def DPost (c : Cx) (L' : List (Nat × Obj)) (X : XP) : Ending → FrameMode → World → Prop := fun e u' w' => (∃ x, e = .returned x) ∧ settle u' = .returning ∧ St c L' X w'
section
variable {c : Cx} {l : List (Nat × Value)} {L : List (Nat × Obj)} {X : XP} {Q : Exit → Act → World → Prop} {K : Act → World → Prop} {d : List Deferred}
variable {ops : Array Oper} {rest : List Oper} {i : Nat} {v : Value} {t : TypeId} {ps : String} {af : Array Edge} {gd : Option (Nat × Bool)} {ty : TypeId}
theorem HL_defer {f : Operand} {at_ : Array TypeId} {g : FuncId} {caps : List Value} {dst : Option Nat} (hro : c.ro = none) (hg : goes l ops ⟨dst, .defer ⟨.value f, #[], at_⟩, ty, ps, af, gd⟩ = some true) (hf : evl l f = some (.func (.func g) #[] caps.toArray))
    (h : HL c (dF g caps :: d) l L X ops rest Q) (hdst : dst = none) : HL c d l L X ops (⟨dst, .defer ⟨.value f, #[], at_⟩, ty, ps, af, gd⟩ :: rest) Q := fun a w hfr hs => by
  subst hdst
  unfold wpListIn
  rw [if_pos (goes_wanted hfr hg)]
  refine ⟨wide_about, ?_⟩
  have e0 : (FW c.ro).round = none := by rw [hro]; rfl
  rw [e0, Oper.semAt_none]
  have h4 := hfr.eval hf
  have hrun : (execOp a.eval ⟨none, .defer ⟨.value f, #[], at_⟩, ty, ps, af, gd⟩).run c.P w = .ok (.defer (dF g caps)) w := by
    simp only [execOp, Sem.run_bind]
    simp [resolve, h4, Deferred.ofValue, Result.andThen, dF]
  rw [hrun, Oper.uponIn_defer]
  exact h _ w ⟨hfr.size, by simp [Act.put, hfr.defers], hfr.slots⟩ hs
theorem inv_dF {P : Program} {g : FuncId} (eg : Enters P g) (caps : List Value) (w : World) : (invoke (dF g caps).target (dF g caps).args).run P w = .ok (.enter g caps.toArray) w := by
  have := eg (#[] ++ caps.toArray) w
  have e1 : (#[] ++ caps.toArray : Array Value) = caps.toArray := by simp
  rw [e1] at this
  simpa [invoke, dF] using this
theorem HQ_dfr {fn : Func} {R : Ending → World → Prop} {P : Program} {g : FuncId} {caps : List Value} {L' : List (Nat × Obj)} (eg : Enters P g)
    (hD : ∀ w, St c L X w → CallsDIn (FW none) 0 P g caps.toArray .returning w (DPost c L' X)) (h : HQ c d l L' X (bodyPostM (FW none) 0 P fn R .ret)) : HQ c (dF g caps :: d) l L X (bodyPostM (FW none) 0 P fn R .ret) := fun a w hf hs => by
  show LeavesInM _ _ _ _ _ _ _ _ _
  rw [hf.defers]
  refine ⟨by simp, .inr ⟨fun hdep => (by cases hdep), _, _, g, caps.toArray, rfl, inv_dF eg caps w, fun _ _ => trivial, ?_⟩⟩
  refine CallsDIn.mono (hD w hs) ?_
  rintro e u' w' ⟨⟨x, rfl⟩, hu, hs'⟩
  have h1 := h { tmps := a.tmps, defers := d } w' ⟨hf.size, rfl, hf.slots⟩ hs'
  simp only [hu]
  exact h1
theorem HQ_dfrP {fn : Func} {R : Ending → World → Prop} {P : Program} {g : FuncId} {caps : List Value} {L' : List (Nat × Obj)} {ch : List PanicEntry} (eg : Enters P g)
    (hD : ∀ w, St c L X w → CallsDIn (FW none) 0 P g caps.toArray (.panicking ch) w (DPost c L' X)) (h : HQ c d l L' X (bodyPostM (FW none) 0 P fn R .ret)) : HQ c (dF g caps :: d) l L X (bodyPostM (FW none) 0 P fn R (.panic ch)) := fun a w hf hs => by
  show LeavesInM _ _ _ _ _ _ _ _ _
  rw [hf.defers]
  refine ⟨by simp, .inr ⟨fun hdep => (by cases hdep), _, _, g, caps.toArray, rfl, inv_dF eg caps w, fun _ _ => trivial, ?_⟩⟩
  refine CallsDIn.mono (hD w hs) ?_
  rintro e u' w' ⟨⟨x, rfl⟩, hu, hs'⟩
  have h1 := h { tmps := a.tmps, defers := d } w' ⟨hf.size, rfl, hf.slots⟩ hs'
  simp only [hu]
  exact h1
end
/-! Walks of a deferred call: the stack is a part of the state -/
def HCS (c : Cx) (d : List Deferred) (l : List (Nat × Value)) (L : List (Nat × Obj)) (X : XP) (code : Code) (cs : List Frame) (Q : Exit → Act → List Frame → World → Prop) : Prop :=
  ∀ a w, Fr c.n d l a → St c L X w → code.wpSIn (FW none) 0 c.P Q a cs w
def HS (c : Cx) (d : List Deferred) (l : List (Nat × Value)) (L : List (Nat × Obj)) (X : XP) (ops : Array Oper) (rest : List Nat) (cs : List Frame) (Q : Exit → Act → List Frame → World → Prop) : Prop :=
  ∀ a w, Fr c.n d l a → St c L X w → wpOpsSIn (FW none) 0 c.P ops Q rest a cs w
section
variable {c : Cx} {l : List (Nat × Value)} {L : List (Nat × Obj)} {X : XP} {Q : Exit → Act → List Frame → World → Prop} {d : List Deferred} {cs : List Frame}
variable {ops : Array Oper} {rest : List Nat} {i k : Nat} {v : Value} {o : Oper}
theorem HCS_of {code : Code} (hro : c.ro = none) (h : HC c d l L X code (fun e a w => Q e a cs w)) : HCS c d l L X code cs Q := fun a w hf hs => by
  have h1 := h a w hf hs
  rw [hro] at h1
  exact wpSIn_of_wpIn rfl h1
theorem HCS_seq {x y : Code} (h : ∀ K, (∀ d l L X cs, HCS c d l L X y cs Q → HQ c d l L X (fun a w => K a cs w)) → HCS c d l L X x cs (Exit.thenS K Q)) : HCS c d l L X (x.seq y) cs Q :=
  fun a w hf hs => wpSIn_seq (h (fun a cs w => y.wpSIn (FW none) 0 c.P Q a cs w) (fun _ _ _ _ _ hy a w hf hs => hy a w hf hs) a w hf hs)
theorem HCS_region {id : Nat} {ops : Array Oper} (h : HS c d l L X ops (List.range ops.size) cs Q) : HCS c d l L X (.region id ops false) cs Q := fun a w hf hs => wpSIn_region (h a w hf hs)
theorem HS_nil (h : HQ c d l L X (fun a w => Q .normal a cs w)) : HS c d l L X ops [] cs Q := h
theorem HS_r (ho : nth ops.toList k = some o) (hg : goes l ops o = some true) (hd : o.dst = some i) (hi : Nat.ble (i + 1) c.n = true) (hr : RunsTo c d l L X o v) (h : HS c d ((i, v) :: l) L X ops rest cs Q) : HS c d l L X ops (k :: rest) cs Q := fun a w hf hs => by
  have hk : ops[k]? = some o := by rw [← nth_arr ho]
  simp only [wpOpsSIn, hk]
  refine ⟨wide_about, ?_⟩
  rw [if_pos (goes_wanted hf hg), hr a w hf hs]
  rw [hd]
  exact h _ w (hf.put (Nat.le_of_ble_eq_true hi)) hs
/-- recover: what it hands back, and how it leaves the stack. -/
def recV (cs : List Frame) : Value := match recoverD cs with | some (v, _) => v | none => .nilIface
def recC (cs : List Frame) : List Frame := match recoverD cs with | some (_, cs') => cs' | none => cs
theorem HS_recover (ho : nth ops.toList k = some o) (hg : goes l ops o = some true) (hd : o.dst = some i) (hi : Nat.ble (i + 1) c.n = true) (hr : ∀ a w, Fr c.n d l a → (execOp a.eval o).run c.P w = .ok .recover w) {v : Value} {cs' : List Frame} (hv : recV cs = v) (hc : recC cs = cs') (h : HS c d ((i, v) :: l) L X ops rest cs' Q) : HS c d l L X ops (k :: rest) cs Q := fun a w hf hs => by
  have hk : ops[k]? = some o := by rw [← nth_arr ho]
  simp only [wpOpsSIn, hk]
  refine ⟨wide_about, ?_⟩
  rw [if_pos (goes_wanted hf hg), hr a w hf, hd]
  have h1 := h _ w (hf.put (Nat.le_of_ble_eq_true hi)) hs
  subst hv hc
  unfold recV recC at h1
  cases e : recoverD cs with
  | none => rw [e] at h1; exact h1
  | some q => obtain ⟨u, cs2⟩ := q; rw [e] at h1; exact h1
theorem HQ_postS {fn : Func} {R : Ending → FrameMode → World → Prop} {rs : List ResultVar} {vs : List Value} {P : Program} {c₀ : Frame} {cs cs' : List Frame} {u' : FrameMode} (hP : c.P = P) (hcs : cs' = { c₀ with mode := u' } :: cs) (hr : fn.results = rs.toArray) (h : ResAll c l L rs vs) (hR : ∀ w, St c L X w → R (.returned (resVal vs)) u' w) :
    HQ c [] l L X (fun a w => bodyPostS P fn c₀ cs R .ret a cs' w) := fun a w hf hs => ⟨hf.defers, u', hcs, _, hP ▸ results_run hf hs h hr, hR w hs⟩
theorem HQ_postSN {fn : Func} {R : Ending → FrameMode → World → Prop} {rs : List ResultVar} {vs : List Value} {P : Program} {c₀ : Frame} {cs cs' : List Frame} {u' : FrameMode} (hP : c.P = P) (hcs : cs' = { c₀ with mode := u' } :: cs) (hr : fn.results = rs.toArray) (h : ResAll c l L rs vs) (hR : ∀ w, St c L X w → R (.returned (resVal vs)) u' w) :
    HQ c [] l L X (fun a w => bodyPostS P fn c₀ cs R .normal a cs' w) := HQ_postS (R := R) (fn := fn) hP hcs hr h hR
end
theorem callsD_of_HS {P : Program} {f : FuncId} {fn : Func} {code : Code} {vs : List Value} {L : List (Nat × Obj)} {X : XP} {u : FrameMode} {w : World} {R : Ending → FrameMode → World → Prop} (c : Cx) (hf : P.funcs[f]? = some fn) (hb : fn.body = some code) (hc : c.P = P) (hn : c.n = fn.ntmps)
    (hlen : Nat.ble vs.length fn.ntmps = true) (hs : St c L X w) (h : ∀ c₀ cs, c₀.mode = u → HCS c [] (frame0 0 vs) L X code (c₀ :: cs) (bodyPostS P fn c₀ cs R)) : CallsDIn (FW none) 0 P f vs.toArray u w R := by
  refine callsDIn_of_wpSIn hf hb trivial fun c₀ cs hu => ?_
  have h1 := h c₀ cs hu _ w (frame0_fr (n := c.n) (by rw [hn]; exact Nat.le_of_ble_eq_true hlen)) hs
  rw [hc, hn] at h1
  exact h1
theorem recV_pan {c₀ : Frame} {cs : List Frame} {v : Value} (h : c₀.mode = .panicking (panE v)) : recV (c₀ :: cs) = v ∧ recC (c₀ :: cs) = { c₀ with mode := .panicking [{ v, recovered := true }] } :: cs := by
  have e : recoverD (c₀ :: cs) = some (v, { c₀ with mode := .panicking [{ v, recovered := true }] } :: cs) := by simp only [recoverD, h, panE]
  unfold recV recC
  rw [e]
  exact ⟨rfl, rfl⟩
theorem recV_ret {c₀ : Frame} {cs : List Frame} (h : c₀.mode = .returning) : recV (c₀ :: cs) = .nilIface ∧ recC (c₀ :: cs) = { c₀ with mode := .returning } :: cs := by
  have e : recoverD (c₀ :: cs) = none := by simp only [recoverD, h]
  unfold recV recC
  rw [e]
  refine ⟨rfl, ?_⟩
  cases c₀
  simp only at h
  rw [h]
end Go.SL
/-! ### A region that draws its order, in which one operation panics -/
namespace Go.SL
set_option linter.all false
open Go Go.RowKit Go.Shelf
open Go.Proofs (Enters enters_of)
def lookTv : List (Nat × Value) → Nat → Option Value
  | [], _ => none
  | (j, v) :: l, i => match Nat.beq i j with | true => some v | false => lookTv l i
def dstOf (ops : List Oper) (j : Nat) : Option Nat := match nth ops j with | some o => o.dst | none => none
def depsOf (ops : List Oper) (tv : List (Nat × Value)) : List Edge → List (Nat × Value)
  | [] => []
  | e :: es => match dstOf ops e.on, lookTv tv e.on with | some i, some v => (i, v) :: depsOf ops tv es | _, _ => depsOf ops tv es
def depsL (ops : List Oper) (tv : List (Nat × Value)) (j : Nat) : List (Nat × Value) := match nth ops j with | some o => depsOf ops tv (o.after.toList.filter fun e => Region.binds .any e) | none => []
def boomB (ops : List Oper) (P : List Nat) (k : Nat) : Bool :=
  (P.all fun j => Nat.blt j ops.length) && Nat.blt k ops.length && !P.contains k && Nat.blt P.length ops.length &&
  ((k :: P).all fun j => match nth ops j with | some o => noDefer o.op && o.guard.isNone && (o.after.all fun e => !Region.binds .any e || (P.contains e.on && Nat.blt e.on j)) | none => false) &&
  ((List.range ops.length).all fun j => P.contains j || Nat.beq j k || (match nth ops j with | some o => o.after.any fun e => Region.binds .any e && !P.contains e.on | none => false))
/-- The slots that are laid are new, and each one is another. -/
def freshB (n : Nat) (l : List (Nat × Value)) (ops : List Oper) : List Nat → Bool
  | [] => true
  | j :: r => (match dstOf ops j with | some i => Nat.blt i n && (match look l i with | some _ => false | none => true) && (r.all fun j' => match dstOf ops j' with | some i' => !Nat.beq i i' | none => false) | none => false) && freshB n l ops r
inductive BoomOk (c : Cx) (d : List Deferred) (l : List (Nat × Value)) (L : List (Nat × Obj)) (X : XP) (ops : List Oper) (tv : List (Nat × Value)) : List (Nat × Value) → Prop
  | nil : BoomOk c d l L X ops tv []
  | cons {j : Nat} {v : Value} {o : Oper} {ds rest : List (Nat × Value)} (h1 : nth ops j = some o) (h2 : depsL ops tv j = ds) (h3 : RunsTo c d (ds ++ l) L X o v) (h : BoomOk c d l L X ops tv rest) : BoomOk c d l L X ops tv ((j, v) :: rest)
theorem BoomOk.get {c : Cx} {d : List Deferred} {l : List (Nat × Value)} {L : List (Nat × Obj)} {X : XP} {ops : List Oper} {tv : List (Nat × Value)} : ∀ {tw : List (Nat × Value)}, BoomOk c d l L X ops tv tw → ∀ p ∈ tw, ∃ o, nth ops p.1 = some o ∧ RunsTo c d (depsL ops tv p.1 ++ l) L X o p.2
  | _, .nil, p, h => by cases h
  | _, .cons h1 h2 h3 h, p, hp => by
    rcases List.mem_cons.1 hp with rfl | hp
    · exact ⟨_, h1, h2 ▸ h3⟩
    · exact h.get p hp
theorem lookTv_mem : ∀ {tv : List (Nat × Value)} {i : Nat} {v : Value}, lookTv tv i = some v → (i, v) ∈ tv
  | [], _, _, h => by cases h
  | (j, u) :: l, i, v, h => by
    rw [lookTv] at h
    split at h
    · rename_i e
      obtain rfl := Nat.eq_of_beq_eq_true e
      cases h; exact List.mem_cons_self
    · exact List.mem_cons_of_mem _ (lookTv_mem h)
theorem look_app {d l : List (Nat × Value)} {i : Nat} {v : Value} (h : look (d ++ l) i = some v) : (i, v) ∈ d ∨ look l i = some v := by
  induction d with
  | nil => exact .inr h
  | cons x xs ih =>
    obtain ⟨j, u⟩ := x
    rw [List.cons_append, look] at h
    split at h
    · rename_i e
      obtain rfl := Nat.eq_of_beq_eq_true e
      cases h; exact .inl List.mem_cons_self
    · exact (ih h).imp (List.mem_cons_of_mem _) id
theorem depsOf_mem {ops : List Oper} {tv : List (Nat × Value)} : ∀ {es : List Edge} {i : Nat} {v : Value}, (i, v) ∈ depsOf ops tv es → ∃ e ∈ es, dstOf ops e.on = some i ∧ (e.on, v) ∈ tv
  | [], _, _, h => by cases h
  | e :: es, i, v, h => by
    rw [depsOf] at h
    split at h
    · rename_i i' v' h1 h2
      rcases List.mem_cons.1 h with e1 | h
      · cases e1; exact ⟨e, List.mem_cons_self, h1, lookTv_mem h2⟩
      · obtain ⟨e', h3, h4⟩ := depsOf_mem h; exact ⟨e', List.mem_cons_of_mem _ h3, h4⟩
    · obtain ⟨e', h3, h4⟩ := depsOf_mem h; exact ⟨e', List.mem_cons_of_mem _ h3, h4⟩
theorem freshB_mem {n : Nat} {l : List (Nat × Value)} {ops : List Oper} : ∀ {P : List Nat}, freshB n l ops P = true → ∀ j ∈ P, ∃ i, dstOf ops j = some i ∧ i < n ∧ look l i = none
  | [], _, j, h => by cases h
  | k :: r, h, j, hj => by
    rw [freshB, Bool.and_eq_true] at h
    rcases List.mem_cons.1 hj with rfl | hj
    · have h1 := h.1
      split at h1
      · rename_i i hi
        simp only [Bool.and_eq_true] at h1
        have h2 := h1.1.2
        split at h2
        · cases h2
        · rename_i h3
          exact ⟨i, hi, by have := h1.1.1; simpa using this, h3⟩
      · cases h1
    · exact freshB_mem h.2 j hj
theorem freshB_ne {n : Nat} {l : List (Nat × Value)} {ops : List Oper} : ∀ {P : List Nat}, freshB n l ops P = true → ∀ j ∈ P, ∀ j' ∈ P, j ≠ j' → ∀ i i', dstOf ops j = some i → dstOf ops j' = some i' → i ≠ i'
  | [], _, j, h, _, _, _, _, _, _, _ => by cases h
  | k :: r, h, j, hj, j', hj', hne, i, i', hi, hi' => by
    rw [freshB, Bool.and_eq_true] at h
    have key : ∀ x ∈ r, ∀ i i', dstOf ops k = some i → dstOf ops x = some i' → i ≠ i' := fun x hx i i' hi hi' => by
      have h1 := h.1
      rw [hi] at h1
      simp only [Bool.and_eq_true] at h1
      have h2 := List.all_eq_true.1 h1.2 x hx
      rw [hi'] at h2
      simp only [Bool.not_eq_true'] at h2
      intro e
      rw [e, Nat.beq_refl] at h2
      cases h2
    rcases List.mem_cons.1 hj with rfl | hjr
    · rcases List.mem_cons.1 hj' with rfl | hjs
      · exact absurd rfl hne
      · exact key j' hjs i i' hi hi'
    · rcases List.mem_cons.1 hj' with rfl | hjs
      · exact fun e => key j hjr i' i hi' hi e.symm
      · exact freshB_ne h.2 j hjr j' hjs hne i i' hi hi'
theorem freshB_nodup {n : Nat} {l : List (Nat × Value)} {ops : List Oper} : ∀ {P : List Nat}, freshB n l ops P = true → P.Nodup
  | [], _ => List.nodup_nil
  | k :: r, h => by
    rw [freshB, Bool.and_eq_true] at h
    refine List.nodup_cons.2 ⟨fun hm => ?_, freshB_nodup h.2⟩
    have h1 := h.1
    split at h1
    · rename_i i hi
      simp only [Bool.and_eq_true] at h1
      have h2 := List.all_eq_true.1 h1.2 k hm
      rw [hi] at h2
      simp at h2
    · cases h1
theorem uniq_fst {tv : List (Nat × Value)} (h : (tv.map (·.1)).Nodup) {p q : Nat × Value} (hp : p ∈ tv) (hq : q ∈ tv) (e : q.1 = p.1) : q.2 = p.2 := by
  induction tv with
  | nil => cases hp
  | cons x xs ih =>
    rw [List.map_cons, List.nodup_cons] at h
    rcases List.mem_cons.1 hp with rfl | hpr
    · rcases List.mem_cons.1 hq with rfl | hqr
      · rfl
      · exact absurd (List.mem_map.2 ⟨q, hqr, e⟩) h.1
    · rcases List.mem_cons.1 hq with rfl | hqr
      · exact absurd (List.mem_map.2 ⟨p, hpr, e.symm⟩) h.1
      · exact ih h.2 hpr hqr
theorem filter_le' {f g : Nat → Bool} (hfg : ∀ j, g j = true → f j = true) : ∀ P : List Nat, (P.filter g).length ≤ (P.filter f).length
  | [] => Nat.le_refl _
  | x :: xs => by
    have := filter_le' hfg xs
    by_cases hg : g x = true
    · rw [List.filter_cons_of_pos hg, List.filter_cons_of_pos (hfg x hg)]; simpa using this
    · rw [List.filter_cons_of_neg hg]
      by_cases hf : f x = true
      · rw [List.filter_cons_of_pos hf]; simp; omega
      · rw [List.filter_cons_of_neg hf]; exact this
theorem filter_lt' {f g : Nat → Bool} (hfg : ∀ j, g j = true → f j = true) {i : Nat} (h1 : f i = true) (h2 : g i = false) : ∀ {P : List Nat}, i ∈ P → (P.filter g).length < (P.filter f).length
  | [], h => by cases h
  | x :: xs, h => by
    by_cases hx : x = i
    · subst hx
      rw [List.filter_cons_of_neg (by rw [h2]; simp), List.filter_cons_of_pos h1]
      have := filter_le' hfg xs
      simp; omega
    · have ih := filter_lt' hfg h1 h2 (P := xs) (by rcases List.mem_cons.1 h with e | h; exact absurd e.symm hx; exact h)
      by_cases hg : g x = true
      · rw [List.filter_cons_of_pos hg, List.filter_cons_of_pos (hfg x hg)]; simpa using ih
      · rw [List.filter_cons_of_neg hg]
        by_cases hf : f x = true
        · rw [List.filter_cons_of_pos hf]; simp; omega
        · rw [List.filter_cons_of_neg hf]; exact ih
theorem HC_boom {c : Cx} {d : List Deferred} {l : List (Nat × Value)} {L : List (Nat × Obj)} {X : XP} {Q : Exit → Act → World → Prop} {id : Nat} {ops : List Oper} (tv : List (Nat × Value)) (k : Nat) {ok : Oper} {P : List Nat} {dk : List (Nat × Value)} (hm : c.P.follows .mixedOrders = true) (hP : tv.map (·.1) = P) (hB : boomB ops P k = true)
    (hf : freshB c.n l ops P = true) (hr : BoomOk c d l L X ops tv tv) (hk : nth ops k = some ok) (hdk : depsL ops tv k = dk)
    (hp : ∀ (next : Act → World → Prop) a w, Fr c.n d (dk ++ l) a → St c L X w → ok.uponIn (FW c.ro) 0 c.P a next Q ((execOp a.eval ok).run c.P w)) : HC c d l L X (.region id ops.toArray true) Q := fun a w hfr hs => by
  subst hdk
  simp only [boomB, Bool.and_eq_true] at hB
  obtain ⟨⟨⟨⟨⟨b1, b2⟩, b3⟩, b4⟩, b5⟩, b6⟩ := hB
  have b2' : k < ops.length := by simpa using b2
  have b3' : k ∉ P := by simpa using b3
  have b4' : P.length < ops.length := by simpa using b4
  have toArr : ∀ {j : Nat} {o : Oper}, nth ops j = some o → ops.toArray[j]? = some o := fun {j o} h => by rw [nth_eq] at h; simpa using h
  have op5 : ∀ j, j = k ∨ j ∈ P → ∃ o, nth ops j = some o ∧ noDefer o.op = true ∧ o.guard = none ∧ ∀ e ∈ o.after, Region.binds .any e = true → e.on ∈ P ∧ e.on < j := fun j hj => by
    have h1 := List.all_eq_true.1 b5 j (by rcases hj with rfl | hj; exact List.mem_cons_self; exact List.mem_cons_of_mem _ hj)
    split at h1
    · rename_i o ho
      simp only [Bool.and_eq_true] at h1
      refine ⟨o, ho, h1.1.1, by simpa using h1.1.2, fun e he hb => ?_⟩
      have h2 := h1.2
      rw [Array.all_eq_true_iff_forall_mem] at h2
      have h3 := h2 e he
      rw [hb] at h3
      simpa using h3
    · cases h1
  have op6 : ∀ j o, nth ops j = some o → j ∉ P → j ≠ k → ∃ e ∈ o.after, Region.binds .any e = true ∧ e.on ∉ P := fun j o ho hj hjk => by
    have hjl : j < ops.length := by rw [nth_eq] at ho; exact (List.getElem?_eq_some_iff.1 ho).1
    have h1 := List.all_eq_true.1 b6 j (List.mem_range.2 hjl)
    rw [ho] at h1
    have e1 : P.contains j = false := by simpa using hj
    have e2 : Nat.beq j k = false := by rw [Bool.eq_false_iff]; exact fun h => hjk (Nat.eq_of_beq_eq_true h)
    rw [e1, e2] at h1
    simp only [Bool.false_or] at h1
    obtain ⟨q, hq, h2⟩ := Array.any_eq_true.1 h1
    have he := Array.getElem_mem hq
    generalize o.after[q] = e at he h2
    simp only [Bool.and_eq_true, Bool.not_eq_true'] at h2
    exact ⟨e, he, h2.1, by simpa using h2.2⟩
  -- what holds on the way
  let Inv : Array Bool → Act → Prop := fun listed a => listed.size = ops.length ∧ (∀ j, listed.getD j false = true → j ∈ P) ∧ Fr c.n d l a ∧ ∀ p ∈ tv, listed.getD p.1 false = true → ∀ i, dstOf ops p.1 = some i → a.tmps[i]? = some p.2
  have both : ∀ {listed : Array Bool} {j : Nat}, listed.size = ops.length → j < ops.length → listed.getD j true = listed.getD j false := fun {listed j} h1 h2 => by
    simp [Array.getD, h1, h2]
  have rdy : ∀ {listed : Array Bool} {a : Act}, Inv listed a → ∀ N j, j ≤ N → (j = k ∨ j ∈ P) → listed.getD j false = false → ∃ i, i ∈ Region.ready .any ops.toArray listed := fun {listed a} hi N => by
    induction N with
    | zero =>
      intro j hj hjP hun
      obtain ⟨o, ho, _, _, hdep⟩ := op5 j hjP
      have hjl : j < ops.length := by rw [nth_eq] at ho; exact (List.getElem?_eq_some_iff.1 ho).1
      exact ⟨j, mem_ready.2 ⟨by rw [both hi.1 hjl]; exact hun, o, toArr ho, fun e he hb => by have := (hdep e he hb).2; omega⟩⟩
    | succ N ih =>
      intro j hj hjP hun
      obtain ⟨o, ho, _, _, hdep⟩ := op5 j hjP
      have hjl : j < ops.length := by rw [nth_eq] at ho; exact (List.getElem?_eq_some_iff.1 ho).1
      by_cases hall : ∀ e ∈ o.after, Region.binds .any e = true → listed.getD e.on false = true
      · exact ⟨j, mem_ready.2 ⟨by rw [both hi.1 hjl]; exact hun, o, toArr ho, hall⟩⟩
      · obtain ⟨e, he⟩ := Classical.not_forall.1 hall
        obtain ⟨he, h2⟩ := Classical.not_imp.1 he
        obtain ⟨hb, h3⟩ := Classical.not_imp.1 h2
        obtain ⟨h4, h5⟩ := hdep e he hb
        exact ih e.on (by omega) (.inr h4) (by simpa using h3)
  have frd : ∀ {listed : Array Bool} {a : Act} {j : Nat} {o : Oper}, Inv listed a → nth ops j = some o → (∀ e ∈ o.after, Region.binds .any e = true → listed.getD e.on false = true) → Fr c.n d (depsL ops tv j ++ l) a := fun {listed a j o} hi ho hall => by
    refine ⟨hi.2.2.1.size, hi.2.2.1.defers, fun i v hv => ?_⟩
    rcases look_app hv with h | h
    · unfold depsL at h
      rw [ho] at h
      obtain ⟨e, he, h1, h2⟩ := depsOf_mem h
      rw [List.mem_filter] at he
      exact hi.2.2.2 (e.on, v) h2 (hall e (by simpa using he.1) he.2) i h1
    · exact hi.2.2.1.slots i v h
  have main : ∀ (f : Nat) (listed : Array Bool) (a : Act) (w : World), Inv listed a → St c L X w → (P.filter fun j => !listed.getD j false).length ≤ f → wpAnyIn (FW c.ro) 0 c.P .any ops.toArray Q (f + 1) listed a w := by
    intro f
    induction f with
    | zero =>
      intro listed a w hi hs hcnt
      have hku : listed.getD k false = false := by
        cases h : listed.getD k false with
        | false => rfl
        | true => exact absurd (hi.2.1 k h) b3'
      refine ⟨fun h0 => ?_, fun i hir => ?_⟩
      · obtain ⟨i, hir⟩ := rdy hi k k (Nat.le_refl _) (.inl rfl) hku
        rw [h0] at hir; cases hir
      · obtain ⟨hun, o, ho, hall⟩ := mem_ready.1 hir
        have hil : i < ops.length := by have := (Array.getElem?_eq_some_iff.1 ho).1; simpa using this
        have ho' : nth ops i = some o := by rw [nth_eq]; simpa using ho
        by_cases hik : i = k
        · subst hik
          rw [hk] at ho'
          cases ho'
          obtain ⟨o2, g1, g2, g3, _⟩ := op5 i (.inl rfl)
          rw [hk] at g1; cases g1
          unfold wpOpIn
          simp only [ho]
          rw [if_pos (by unfold Region.wanted; rw [g3])]
          refine ⟨wide_about, ?_⟩
          rw [Oper.semAt_eq _ _ _ (noDefer_d g2)]
          exact hp _ a w (frd hi hk hall) hs
        · by_cases hiP : i ∈ P
          · have h1 : listed.getD i false = false := by rw [← both hi.1 hil]; exact hun
            have : i ∈ P.filter fun j => !listed.getD j false := List.mem_filter.2 ⟨hiP, by rw [h1]; rfl⟩
            rw [List.length_eq_zero_iff.1 (Nat.le_zero.1 hcnt)] at this
            cases this
          · obtain ⟨e, he, hb, hno⟩ := op6 i o ho' hiP hik
            exact absurd (hi.2.1 _ (hall e he hb)) hno
    | succ f ih =>
      intro listed a w hi hs hcnt
      have hku : listed.getD k false = false := by
        cases h : listed.getD k false with
        | false => rfl
        | true => exact absurd (hi.2.1 k h) b3'
      refine ⟨fun h0 => ?_, fun i hir => ?_⟩
      · obtain ⟨i, hir⟩ := rdy hi k k (Nat.le_refl _) (.inl rfl) hku
        rw [h0] at hir; cases hir
      · obtain ⟨hun, o, ho, hall⟩ := mem_ready.1 hir
        have hil : i < ops.length := by have := (Array.getElem?_eq_some_iff.1 ho).1; simpa using this
        have ho' : nth ops i = some o := by rw [nth_eq]; simpa using ho
        by_cases hik : i = k
        · subst hik
          rw [hk] at ho'
          cases ho'
          obtain ⟨o2, g1, g2, g3, _⟩ := op5 i (.inl rfl)
          rw [hk] at g1; cases g1
          unfold wpOpIn
          simp only [ho]
          rw [if_pos (by unfold Region.wanted; rw [g3])]
          refine ⟨wide_about, ?_⟩
          rw [Oper.semAt_eq _ _ _ (noDefer_d g2)]
          exact hp _ a w (frd hi hk hall) hs
        · by_cases hiP : i ∈ P
          · have h1 : listed.getD i false = false := by rw [← both hi.1 hil]; exact hun
            rw [← hP] at hiP
            obtain ⟨p, hpm, rfl⟩ := List.mem_map.1 hiP
            rw [hP] at hiP
            obtain ⟨o2, g1, hrun⟩ := hr.get p hpm
            rw [ho'] at g1; cases g1
            obtain ⟨o3, g2, g3, g4, _⟩ := op5 p.1 (.inr hiP)
            rw [ho'] at g2; cases g2
            obtain ⟨dst, f1, f2, f3⟩ := freshB_mem hf p.1 hiP
            have f1' : o.dst = some dst := by unfold dstOf at f1; rw [ho'] at f1; exact f1
            unfold wpOpIn
            simp only [ho]
            rw [if_pos (by unfold Region.wanted; rw [g4])]
            refine ⟨wide_about, ?_⟩
            rw [Oper.semAt_eq _ _ _ (noDefer_d g3), hrun a w (frd hi ho' hall) hs, Oper.uponIn_value, f1']
            refine ih _ _ w ⟨by simp [hi.1], fun j hj => ?_, ?_, fun q hq hlq i' hi' => ?_⟩ hs ?_
            · by_cases hjp : j = p.1
              · rw [hjp]; exact hiP
              · refine hi.2.1 j ?_
                have e1 : (listed.setIfInBounds p.1 true).getD j false = listed.getD j false := getD_set_ne false (fun e => hjp e.symm)
                rw [← e1]; exact hj
            · refine ⟨by simp [Act.put, hi.2.2.1.size], by simp [Act.put, hi.2.2.1.defers], fun i2 v2 hv2 => ?_⟩
              have hne : dst ≠ i2 := fun e => by rw [e, hv2] at f3; cases f3
              simp only [Act.put, Array.getElem?_setIfInBounds, if_neg hne]
              exact hi.2.2.1.slots i2 v2 hv2
            · by_cases hqp : q.1 = p.1
              · have e1 : i' = dst := by rw [hqp, f1] at hi'; exact (Option.some.inj hi').symm
                subst e1
                have e2 : q.2 = p.2 := by
                  exact uniq_fst (by rw [hP]; exact freshB_nodup hf) hpm hq hqp
                simp only [Act.put, Array.getElem?_setIfInBounds, if_true, hi.2.2.1.size, f2, e2]
              · have e1 : (listed.setIfInBounds p.1 true).getD q.1 false = listed.getD q.1 false := getD_set_ne false (fun e => hqp e.symm)
                rw [e1] at hlq
                have hne : dst ≠ i' := freshB_ne hf p.1 hiP q.1 (by rw [← hP]; exact List.mem_map_of_mem (f := (·.1)) hq) (fun e => hqp e.symm) _ _ f1 hi'
                simp only [Act.put, Array.getElem?_setIfInBounds, if_neg hne]
                exact hi.2.2.2 q hq hlq i' hi'
            · have hlt := filter_lt' (f := fun j => !listed.getD j false) (g := fun j => !(listed.setIfInBounds p.1 true).getD j false) (fun j hj => by
                by_cases hjp : j = p.1
                · subst hjp
                  simp [Array.getD, hi.1, hil] at hj
                · rw [getD_set_ne false (fun e => hjp e.symm)] at hj; exact hj) (i := p.1) (by rw [h1]; rfl) (by simp [Array.getD, hi.1, hil]) hiP
              omega
          · obtain ⟨e, he, hb, hno⟩ := op6 i o ho' hiP hik
            exact absurd (hi.2.1 _ (hall e he hb)) hno
  refine wpIn_region_any hm ?_
  have hsz : ops.toArray.size = (ops.length - 1) + 1 := by simp; omega
  rw [hsz]
  refine main _ _ a _ ⟨by simp; omega, fun j hj => ?_, hfr, fun p _ hlp => ?_⟩ (show St c L X w.drew from hs.drew) ?_
  · rw [getD_replicate_false] at hj; cases hj
  · rw [getD_replicate_false] at hlp; cases hlp
  · have := List.length_filter_le (fun j => !(Array.replicate ((ops.length - 1) + 1) false).getD j false) P
    omega
end Go.SL
namespace Go.Proofs.YtlcbfphioeppaaaGreatDoor
set_option linter.all false
open Go.SL Go.RowKit Go.Shelf
/-! ### need, low, number, bits -/
abbrev wrV (e : Int) : Value := .iface 55 (.agg #[.int .i64 e])
set_option maxRecDepth 10000 in
theorem X_need (b : Bool) (e : Int) : PureX (α := Unit) Tryz.prog 42 [.bool b, .int .i64 e].toArray (b = true) (fun v => b = false ∧ v = wrV e) (fun _ => .tuple #[]) (fun _ => []) [] := by
  refine pureX_of_HC Tryz.func42 rfl rfl fun w => ?_; refine HC_seq fun K1 hK1 => HC_region ?_; refine HLm rfl (HLp rfl ?_); refine HL_nil (hK1 _ _ _ _ ?_); refine HC_cond rfl (fun h2 => ?_) (fun h2 => ?_)
  · try exact Bool.noConfusion h2
    try simp only [ZZ] at h2
    refine HC_region (HLm rfl (HL_r rfl rfl rfl rfl (R_build (r := [_]) rfl rfl) ?_)); refine HLp rfl (HL_panic rfl rfl ?_); exact HQ_panX rfl rfl ⟨by assumption, rfl⟩
  · try exact Bool.noConfusion h2
    try simp only [ZZ] at h2
    refine HC_skip ?_; refine HQ_postN rfl rfl .nil (fun w1 hs1 => ?_); exact .inl ⟨by assumption, (), rfl, hs1.weakL (List.nil_sublist _)⟩
theorem unle4 {s : BS} (h : 4 ≤ s.length) : unleR (s.take 4) = (leV (s.take 4), 0) ∧ leV (s.take 4) < 4294967296 := by
  have hl : (s.take 4).length = 4 := by rw [List.length_take]; omega
  have h2 := leV_lt (s.take 4)
  rw [hl] at h2; refine ⟨?_, h2⟩
  unfold unleR
  rw [if_neg (by omega)]
set_option maxRecDepth 10000 in
theorem P_low {s : BS} (h : 4 ≤ s.length) : Pure Tryz.prog 132 [strV s].toArray (.int .i64 ((leV (s.take 4) : Nat) : Int)) := by
  obtain ⟨h1, h2⟩ := unle4 h
  refine pure_of_HC Tryz.func132 rfl rfl fun w => ?_; refine HC_seq fun K1 hK1 => HC_region ?_; refine HLm rfl ?_; refine HL_nil (hK1 _ _ _ _ ?_); refine HC_seq fun K2 hK2 => HC_region ?_; refine HLm rfl (HL_r rfl rfl rfl rfl (R_sliceBs (kl := none) (kh := some (.i64, 4)) (m := 0) (n := 4) rfl rfl rfl rfl rfl rfl (by omega) (by omega) (show _ = s.take 4 from by rw [List.drop_zero])) (HL_callP rfl rfl rfl (enters_of Tryz.func196 (by kernel_rfl) rfl) (P_num_Unle (s.take 4)) ?_)); refine HL_as (congrArg resN h1) ?_; refine HLm rfl (HL_r rfl rfl rfl rfl (R_extract rfl rfl) (HL_r rfl rfl rfl rfl (R_extract rfl rfl) ?_)); refine HLm rfl (HLm rfl ?_); refine HL_nil (hK2 _ _ _ _ ?_); refine HC_seq fun K3 hK3 => HC_region ?_; refine HLm rfl (HLp rfl (HL_as (show _ = Value.int .i64 ((leV (s.take 4) : Nat)) from congrArg (Value.int .i64) (wrap_i64 (by omega) (by omega))) ?_)); refine HLm rfl ?_; refine HL_nil (hK3 _ _ _ _ ?_); refine HC_ret ?_; refine HQ_post rfl rfl (.cons (res_tmp rfl) .nil) (fun w1 hs1 => ?_); exact ⟨rfl, hs1.keep⟩
set_option maxRecDepth 10000 in
theorem P_rlow {s : BS} (h : s.length = 4) : Pure Tryz.prog 198 [strV s].toArray (.int .i64 ((leV s : Nat) : Int)) := by
  obtain ⟨h1, h2⟩ := unle4 (s := s) (by omega)
  rw [List.take_of_length_le (by omega)] at h1 h2; refine pure_of_HC Tryz.func198 rfl rfl fun w => ?_; refine HC_seq fun K1 hK1 => HC_region ?_; refine HLm rfl ?_; refine HL_nil (hK1 _ _ _ _ ?_); refine HC_seq fun K2 hK2 => HC_region ?_; refine HLm rfl (HL_callP rfl rfl rfl (enters_of Tryz.func217 (by kernel_rfl) rfl) (P_ref_Unle s) (HL_as (congrArg resN h1) ?_)); refine HLm rfl (HL_r rfl rfl rfl rfl (R_extract rfl rfl) (HL_r rfl rfl rfl rfl (R_extract rfl rfl) ?_)); refine HLm rfl (HLm rfl ?_); refine HL_nil (hK2 _ _ _ _ ?_); refine HC_seq fun K3 hK3 => HC_region ?_; refine HLm rfl (HLp rfl (HL_as (show _ = Value.int .i64 ((leV s : Nat)) from congrArg (Value.int .i64) (wrap_i64 (by omega) (by omega))) ?_)); refine HLm rfl ?_; refine HL_nil (hK3 _ _ _ _ ?_); refine HC_ret ?_; refine HQ_post rfl rfl (.cons (res_tmp rfl) .nil) (fun w1 hs1 => ?_); exact ⟨rfl, hs1.keep⟩
theorem numD_4 (s : BS) : ∃ a b c d, numD s = [a, b, c, d] := by
  have := (numD_ok s).1
  match hq : numD s, this with
  | [a, b, c, d], _ => exact ⟨a, b, c, d, rfl⟩
theorem unf_num {s : BS} (h : s.length ≤ 32) : unfR (padZ s).reverse = (numD s, 0) := by
  unfold unfR numD
  rw [if_pos (by rw [List.length_reverse, padZ_len h])]
set_option maxRecDepth 10000 in
theorem P_snumber {s : BS} (h : s.length ≤ 32) : Pure Tryz.prog 81 [strV s].toArray (Go.SL.wV (numD s)) := by
  have hu := unf_num h
  have hp := padZ_len h
  obtain ⟨a, b, c, d, hn⟩ := numD_4 s
  rw [hn] at hu ⊢; refine pure_of_HC Tryz.func81 rfl rfl fun w => ?_; refine HC_seq fun K1 hK1 => HC_region ?_; refine HL_alloc (cs := #[_, _, _, _]) rfl rfl rfl rfl fun r1 => ?_; refine HL_nil (hK1 _ _ _ _ ?_); refine HC_seq fun K2 hK2 => HC_region ?_; refine HLm rfl (HLm rfl (HL_r rfl rfl rfl rfl (R_lenBs rfl rfl) ?_)); refine HLp rfl ?_; refine HL_as (show _ = Value.int .i64 ((32 - s.length : Nat)) from congrArg (Value.int .i64) (by rw [wrap_i64 (by omega) (by omega)]; omega)) ?_; refine HL_callP rfl rfl rfl (enters_of Tryz.func102 (by kernel_rfl) rfl) (P_Repeat0 (n := 32 - s.length) (by omega)) ?_; rw [repeat_rep]; refine HL_r rfl rfl rfl rfl (R_concat (a := s) (b := List.replicate (32 - s.length) 0) rfl rfl (by rw [List.length_replicate]; omega)) ?_; refine HL_callP rfl rfl rfl (enters_of Tryz.func67 (by kernel_rfl) rfl) (P_turned (s := padZ s) (by omega)) ?_; refine HL_callP rfl rfl rfl (enters_of Tryz.func130 (by kernel_rfl) rfl) (P_word_Unfixed (padZ s).reverse) ?_; refine HL_as (congrArg resW hu) ?_; refine HLm rfl (HL_r rfl rfl rfl rfl (R_extract rfl rfl) (HL_r rfl rfl rfl rfl (R_extract rfl rfl) ?_)); refine HL_alloc (cs := #[_, _, _, _]) rfl rfl rfl rfl fun r2 => ?_
  refine HL_storeA (k := 0) (n := 4) (cs' := #[_, _, _, _]) (vs := #[_, _, _, _]) rfl rfl rfl rfl rfl rfl rfl (by exact Nat.le_of_ble_eq_true rfl) rfl (by first | (simp only [List.set_cons_zero, List.set_cons_succ]; exact rfl) | exact rfl) ?_; refine HLm rfl ?_; refine HL_nil (hK2 _ _ _ _ ?_); refine HC_seq fun K3 hK3 => HC_region ?_; refine HL_r rfl rfl rfl rfl (R_loadA (vs := [_, _, _, _]) rfl (known_L (k := 0) rfl) rfl rfl rfl rfl) ?_
  refine HL_storeA (k := 1) (n := 4) (cs' := #[_, _, _, _]) (vs := #[_, _, _, _]) rfl rfl rfl rfl rfl rfl rfl (by exact Nat.le_of_ble_eq_true rfl) rfl (by first | (simp only [List.set_cons_zero, List.set_cons_succ]; exact rfl) | exact rfl) ?_; refine HL_nil (hK3 _ _ _ _ ?_); refine HC_ret ?_; refine HQ_post rfl rfl (.cons (res_cellA (vs := [_, _, _, _]) rfl (known_L (k := 1) rfl) rfl rfl) .nil) (fun w1 hs1 => ?_); exact ⟨rfl, hs1.keep⟩
theorem unpackC (s : BS) (i : Nat) : bitsC (unpackB s (i + 1)) = bitsC (unpackB s i) ++ [Value.bool (bitAt s i)] := by
  unfold bitsC unpackB
  rw [List.range_succ, List.map_append, List.map_append]; rfl
theorem bit_i {b : UInt8} {i : Nat} : (b.toNat / 2 ^ i) &&& 1 = if b.toNat.testBit i then 1 else 0 := by
  rw [Nat.and_one_is_mod, Nat.testBit_eq_decide_div_mod_eq]
  by_cases h : b.toNat / 2 ^ i % 2 = 1
  · rw [h]; simp
  · rw [if_neg (by simpa using h)]; omega
set_option maxRecDepth 10000 in
theorem T_bits {s : BS} {n : Nat} (hn : n ≤ 8 * s.length) (hl : s.length ≤ 100000) : PureT (α := { row : Row // rowOk 1 n (bitsC (unpackB s n)) row }) Tryz.prog 82 [strV s, .int .i64 (n : Int)].toArray (fun x => rowV n x.1) [] (fun x => rowL 4 (bitsC (unpackB s n)) x.1) [] := by
  refine pureT_of_HC Tryz.func82 rfl rfl fun w => ?_; refine HC_seq fun K1 hK1 => HC_region ?_; refine HLm rfl ?_; refine HL_nil (hK1 _ _ _ _ ?_); refine HC_seq fun K2 hK2 => HC_region ?_; refine HLm rfl ?_; refine HL_nil (hK2 _ _ _ _ ?_); refine HC_seq fun K3 hK3 => ?_; refine HC_seq fun K4 hK4 => HC_region ?_; refine HLm rfl (HLm rfl ?_); refine HL_nil (hK4 _ _ _ _ ?_); refine HC_block (HC_loop (σ := Nat × Row) (fun q => q.1 ≤ n ∧ rowOk 1 q.1 (bitsC (unpackB s q.1)) q.2) (fun q => [(0, strV s), (5, rowV q.1 q.2), (7, .int .i64 (n : Int)), (8, .int .i64 (q.1 : Int))]) (fun q => rowL 4 (bitsC (unpackB s q.1)) q.2) (fun _ _ _ => True) (fun q => n - q.1) (0, none) ⟨Nat.zero_le _, rfl, rfl⟩ (.cons rfl (.cons rfl (.cons rfl (.cons rfl .nil)))) (List.Sublist.refl _) (fun _ _ h => h) ?_); rintro ⟨i, row⟩ ⟨hi1, hrow⟩; simp only at hi1 hrow; refine HC_seq fun K5 hK5 => HC_region ?_; refine HLp rfl ?_; refine HL_nil (hK5 _ _ _ _ ?_); refine HC_seq fun K6 hK6 => ?_; refine HC_cond rfl (fun h7 => ?_) (fun h7 => ?_)
  · try exact Bool.noConfusion h7
    try simp only [ZZ] at h7
    refine HC_skip (hK6 _ _ _ _ ?_); refine HC_seq fun K8 hK8 => HC_block ?_; refine HC_seq fun K9 hK9 => HC_region ?_; refine HLm rfl (HLm rfl ?_); refine HL_nil (hK9 _ _ _ _ ?_); refine HC_region (HLm rfl ?_); refine HLm rfl (HLm rfl ?_); refine HLp rfl (HL_as (show _ = Value.int .i64 ((i / 8 : Nat)) from congrArg (Value.int .i64) (quo_i64 (by omega) (by decide) (by omega))) (HL_r rfl rfl rfl rfl (R_indexBs (j := i / 8) rfl rfl rfl rfl (by omega) rfl) ?_)); refine HLm rfl (HLp rfl (HL_as (show _ = Value.int .i64 ((i % 8 : Nat)) from congrArg (Value.int .i64) (rem_nat _ _)) ?_)); refine HL_r rfl rfl rfl rfl (R_shr (n := i % 8) (b := (((s.getD (i / 8) 0).toNat / 2 ^ (i % 8) : Nat) : Int)) rfl rfl rfl (show _ ≤ 8 from by omega) (by omega) (by rw [Int.natCast_ediv])) ?_; refine HL_r rfl rfl rfl rfl (R_bits8 (op := .and) (m := (s.getD (i / 8) 0).toNat / 2 ^ (i % 8)) (n := 1) rfl rfl rfl (Nat.lt_of_le_of_lt (Nat.div_le_self _ _) (u8_lt _)) (by decide) (congrArg Int.ofNat bit_i)) ?_
    refine HLp rfl ?_; refine HL_as (show _ = Value.bool (bitAt s i) from by unfold bitAt; cases (s.getD (i / 8) 0).toNat.testBit (i % 8) <;> rfl) ?_; refine HL_buildSlice (vs := [_]) (zs := [_]) (r := [_]) rfl rfl rfl rfl rfl rfl rfl rfl rfl (by show (madeCells #[_] _).toList = _; rw [made_one]; exact rfl) rfl fun r1 => ?_; refine HL_appendRow (L0 := [_]) (xs := bitsC (unpackB s i)) (row := row) (n := i) (sz := 1) (b := 1) (news := [Value.bool (bitAt s i)]) (List.perm_append_comm (l₁ := [_])) rfl rfl rfl rfl (known_L (k := 0) rfl) rfl rfl rfl rfl rfl (by decide) rfl rfl rfl (by decide) hrow (by omega) (by omega) fun ra cap sp hra => ?_; refine HLm rfl (HL_nil ?_); refine HQ_blockN (hK8 _ _ _ _ ?_); refine HC_region ?_
    refine HLp rfl ?_; refine HL_as (show _ = Value.int .i64 ((i + 1 : Nat) : Int) from by rw [wrap_i64 (by omega) (by omega)]; congr 1 <;> omega) ?_; refine HLm rfl (HL_nil (HQ_then ?_)); refine HQ_subL (L' := rowL 4 (bitsC (unpackB s i) ++ [Value.bool (bitAt s i)]) (some (ra, cap, sp))) (List.sublist_append_left (rowL 4 (bitsC (unpackB s i) ++ [Value.bool (bitAt s i)]) (some (ra, cap, sp))) _) ?_; rw [show bitsC (unpackB s i) ++ [Value.bool (bitAt s i)] = bitsC (unpackB s (i + 1)) from (unpackC s i).symm] at hra ⊢; exact HQ_again (i + 1, some (ra, cap, sp)) ⟨by simp only; omega, hra⟩ (by simp only; omega) (.cons rfl (.cons rfl (.cons rfl (.cons rfl .nil)))) (List.Sublist.refl _) (fun _ _ h => h)
  · try exact Bool.noConfusion h7
    try simp only [ZZ] at h7
    refine HC_exit (HQ_thenE ?_); refine HQ_thenE (HQ_blockE (hK3 _ _ _ _ ?_)); refine HC_seq fun K10 hK10 => ?_
    obtain rfl : i = n := by omega
    refine HC_region (HLm rfl (HLm rfl ?_)); refine HL_nil (hK10 _ _ _ _ ?_); refine HC_ret ?_; refine HQ_post rfl rfl (.cons (res_tmp rfl) .nil) (fun w1 hs1 => ?_); exact ⟨⟨row, hrow⟩, rfl, hs1⟩
end Go.Proofs.YtlcbfphioeppaaaGreatDoor
namespace Go.Proofs.YtlcbfphioeppaaaGreatDoor
set_option linter.all false
open Go.SL Go.RowKit Go.Shelf
/-! ### bitlist, many -/
section
variable {c : Cx} {l : List (Nat × Value)} {L : List (Nat × Obj)} {X : XP} {d : List Deferred} {i : Nat} {t t2 : TypeId} {ps : String} {af : Array Edge} {gd : Option (Nat × Bool)} {ty : TypeId}
theorem R_remV {x y : Operand} {a b : Nat} (hx : evl l x = some (.int .i64 (a : Int))) (hy : evl l y = some (.int .i64 (b : Int))) (h0 : 0 < b) : RunsTo c d l L X ⟨some i, .binOp .rem t x y t2, ty, ps, af, gd⟩ (.int .i64 ((a % b : Nat) : Int)) := fun a' w hf _ => by
  simp only [execOp]; rw [hf.eval hx, hf.eval hy]
  have e1 : ¬ ((b : Int) = 0) := by omega
  simp only [binOp, eqGuard, Op.intDiv, if_neg e1, Sem.run_bind]
  rfl
theorem R_quoV {x y : Operand} {a b : Nat} (hx : evl l x = some (.int .i64 (a : Int))) (hy : evl l y = some (.int .i64 (b : Int))) (h0 : 0 < b) (ha : a ≤ 9223372036854775807) : RunsTo c d l L X ⟨some i, .binOp .quo t x y t2, ty, ps, af, gd⟩ (.int .i64 ((a / b : Nat) : Int)) := fun a' w hf _ => by
  simp only [execOp]; rw [hf.eval hx, hf.eval hy]
  have e1 : ¬ ((b : Int) = 0) := by omega
  have e2 := quo_i64 (a := (a : Int)) (b := (b : Int)) (by omega) (by omega) (by omega)
  simp only [binOp, eqGuard, Op.intDiv, if_neg e1, Sem.run_bind, e2]
  rfl
end
/-- A value that is laid anew. -/
structure VR (v : Vl) : Type where
  x : Vl
  L : List (Nat × Obj)
  ok : x.In L
  er : erV x = v
def blT (n : Int) (s : List UInt8) : Vl × Int := if s.getLast? = none ∨ s.getLast? = some 0 then (v0L, 2) else if n < (topB s (8 * s.length) : Int) then (v0L, 5) else (mkBits (unpackB s (topB s (8 * s.length))), 0)
theorem last_get {s : BS} (h : s ≠ []) : s.getLast? = some (s.getD (s.length - 1) 0) := by
  have hp : 0 < s.length := List.length_pos_iff.2 h
  rw [List.getLast?_eq_getElem?, List.getD_eq_getElem?_getD, List.getElem?_eq_getElem (by omega)]; rfl
theorem blT_nil {n : Int} {s : BS} (h : s = []) : blT n s = (v0L, 2) := by unfold blT; rw [if_pos (.inl (by rw [h]; rfl))]
theorem blT_0 {n : Int} {s : BS} (h : s.getD (s.length - 1) 0 = 0) : blT n s = (v0L, 2) := by
  by_cases h0 : s = []
  · exact blT_nil h0
  · unfold blT; rw [if_pos (.inr (by rw [last_get h0, h]))]
theorem blT_no {s : BS} (h0 : s ≠ []) (h : s.getD (s.length - 1) 0 ≠ 0) : ¬ (s.getLast? = none ∨ s.getLast? = some 0) := by
  rw [last_get h0]
  rintro (h1 | h1)
  · cases h1
  · exact h (Option.some.inj h1)
theorem u8_zero {x : UInt8} : (((x.toNat : Int) != 0) = false) ↔ x = 0 := by
  rw [Z6, ← UInt8.toNat_inj]; exact Int.natCast_eq_zero
theorem unpack_take (s : BS) {m n : Nat} (h : m ≤ n) : (bitsC (unpackB s n)).take m = bitsC (unpackB s m) := by
  unfold bitsC unpackB
  rw [← List.map_take, ← List.map_take, List.take_range, Nat.min_eq_left h]
theorem bitsU_len (s : BS) (n : Nat) : (bitsC (unpackB s n)).length = n := by unfold bitsC; rw [List.length_map, unpackB_len]
theorem bits_at (s : BS) {i n : Nat} (h : i < n) (sp : List Value) : nth (bitsC (unpackB s n) ++ sp) i = some (.bool (bitAt s i)) := by
  rw [nth_eq, List.getElem?_append_left (by rw [bitsU_len]; exact h)]
  unfold bitsC
  rw [List.getElem?_map, unpackB_get s h]; rfl
theorem u0 : U64 0 := by unfold U64; omega
theorem i0 : I64 0 := by unfold I64; omega
theorem bits_in' {s : BS} {r cap m n e : Nat} {sp : List Value} (h : m ≤ n) (hc : n ≤ cap) (h0 : n ≤ 800000) : Vl.In [(r, .cells (bitsC (unpackB s n) ++ sp).toArray e (0, 0))] (.mk 0 0 0 0 (unpackB s m) (some (⟨r, 0, none⟩, cap)) [] none 0) := by
  refine .mk u0 u0 u0 u0 (by rw [unpackB_len]; omega) ?_ (by decide) rfl i0 (fun x hx => nomatch hx); refine ⟨by rw [unpackB_len]; omega, fun _ => ⟨rfl, _, e, (0, 0), List.mem_singleton_self _, ?_⟩⟩; simp only [List.toList_toArray, List.drop_zero]; rw [bitsU_len, List.take_append_of_le_length (by rw [bitsU_len]; exact h), unpack_take s h]
theorem bitsVal (s : BS) (m r cap : Nat) : Vl.val (.mk 0 0 0 0 (unpackB s m) (some (⟨r, 0, none⟩, cap)) [] none 0) = .agg #[.int .u64 0, .int .u64 0, .int .u64 0, .int .u64 0, .slice (some ⟨r, 0, none⟩) m cap, .slice none 0 0, .int .i64 0] := by
  show Value.agg #[uV 0, uV 0, uV 0, uV 0, Value.slice (some ⟨r, 0, none⟩) (unpackB s m).length cap, Value.slice none 0 0, Value.int .i64 0] = _
  rw [unpackB_len]; rfl
theorem bl_bad {n : Int} {s : BS} {v : Value} (hno : ¬ (s.getLast? = none ∨ s.getLast? = some 0)) (hv : decide ((topB s (8 * s.length) : Int) ≤ n) = false ∧ v = wrV 5) : (blT n s).2 ≠ 0 ∧ v = wrV (blT n s).2 := by
  have h : n < (topB s (8 * s.length) : Int) := by have := hv.1; rw [Z2] at this; omega
  have e : (blT n s).2 = 5 := by unfold blT; rw [if_neg hno, if_pos h]
  rw [e]; exact ⟨by decide, hv.2⟩
theorem bl_ok {n : Int} {s : BS} (hno : ¬ (s.getLast? = none ∨ s.getLast? = some 0)) (h : decide ((topB s (8 * s.length) : Int) ≤ n) = true) : blT n s = (mkBits (unpackB s (topB s (8 * s.length))), 0) := by
  have h : ¬ n < (topB s (8 * s.length) : Int) := by rw [Z1] at h; omega
  unfold blT; rw [if_neg hno, if_neg h]
set_option maxRecDepth 10000 in
theorem X_bitlist {k n : Int} {p : Pl} {ins : List Ty} {s : BS} (hl : s.length ≤ 100000) (hn : I64 n) : PureX (α := VR (blT n s).1) Tryz.prog 83 [Ty.val (.mk k n p ins), strV s].toArray ((blT n s).2 = 0) (fun v => (blT n s).2 ≠ 0 ∧ v = wrV (blT n s).2) (fun y => y.x.val) (fun y => y.L) [] := by
  have bad2 : s = [] ∨ s.getD (s.length - 1) 0 = 0 → (blT n s).2 = 2 := fun h => h.elim (fun h => by rw [blT_nil h]) (fun h => by rw [blT_0 h])
  have hbad2 : ∀ {v : Value} {b : Bool}, s = [] ∨ s.getD (s.length - 1) 0 = 0 → b = false ∧ v = wrV 2 → (blT n s).2 ≠ 0 ∧ v = wrV (blT n s).2 := fun h hv => by rw [bad2 h]; exact ⟨by decide, hv.2⟩
  have hT := T_bits (s := s) (n := 8 * s.length) (Nat.le_refl _) hl
  refine pureX_of_HC Tryz.func83 rfl rfl fun w => ?_; refine HC_seq fun K1 hK1 => HC_region ?_; refine HL_box (cs := #[_, _, _]) rfl rfl rfl rfl fun r1 => ?_; refine HL_alloc (cs := #[_, _, _, _, _, _, _]) rfl rfl rfl rfl fun r2 => ?_; refine HL_nil (hK1 _ _ _ _ ?_); refine HC_seq fun K2 hK2 => HC_region ?_; refine HLm rfl (HL_r rfl rfl rfl rfl (R_strNe rfl rfl) (HLm rfl ?_))
  refine HL_case 9 rfl (fun hb3 => ?_) (fun hb3 => ?_) <;> (try simp only [ZZ] at hb3) <;> first | (refine HLm rfl ?_) | (refine HL_skip rfl rfl rfl ?_)
  all_goals first
    | (refine HLm rfl ?_)
    | (refine HL_skip rfl rfl rfl ?_)
  all_goals first
    | (refine HL_r rfl rfl rfl rfl (R_lenBs rfl rfl) ?_)
    | (refine HL_skip rfl rfl rfl ?_)
  all_goals first
    | (have hpos : 0 < s.length := List.length_pos_iff.2 ‹s ≠ []›; refine HLp rfl ?_; refine HL_as (show _ = Value.int .i64 ((s.length - 1 : Nat)) from congrArg (Value.int .i64) (by rw [wrap_i64 (by omega) (by omega)]; omega)) ?_)
    | (refine HL_skip rfl rfl rfl ?_)
  all_goals first
    | (refine HL_r rfl rfl rfl rfl (R_indexBs (j := s.length - 1) rfl rfl rfl rfl (by omega) rfl) ?_)
    | (refine HL_skip rfl rfl rfl ?_)
  all_goals first
    | (refine HLp rfl ?_)
    | (refine HL_skip rfl rfl rfl ?_)
  all_goals first
    | (refine HL_r rfl rfl rfl rfl (R_pickT rfl rfl) ?_)
    | (refine HL_r rfl rfl rfl rfl (R_pickF rfl rfl) ?_)
  all_goals refine HL_callX rfl rfl rfl (enters_of Tryz.func42 (by kernel_rfl) rfl) (X_need (_) 2) (fun q hq => nomatch hq) (fun hok _ => ?_) (fun v hv => HQ_panX rfl rfl (hbad2 (by first | exact .inl ‹_› | exact .inr (u8_zero.1 hv.1)) hv))
  all_goals try exact Bool.noConfusion hok
  refine HL_nil (hK2 _ _ _ _ ?_); refine HC_seq fun K9 hK9 => ?_
  have hne : s ≠ [] := ‹s ≠ []›
  have hpos : 0 < s.length := List.length_pos_iff.2 hne
  have hno := blT_no hne (fun e => by rw [e] at hok; cases hok)
  obtain ⟨q1, q2, q3⟩ := topB_ok hno
  refine HC_region (HLm rfl ?_); refine HLm rfl (HL_r rfl rfl rfl rfl (R_lenBs rfl rfl) (HLp rfl ?_)); refine HL_as (show _ = Value.int .i64 ((8 * s.length : Nat)) from congrArg (Value.int .i64) (by rw [wrap_i64 (by omega) (by omega)]; omega)) ?_; refine HL_callRE rfl rfl rfl (enters_of Tryz.func82 (by kernel_rfl) rfl) hT (fun q hq => nomatch hq) fun x => ?_
  obtain ⟨row, hrow⟩ := x
  match row, hrow with | none, hrow => ?_ | some (ra, cap, sp), hrow => ?_
  all_goals first | exact absurd hrow.1 (by omega) | skip
  refine HLm rfl ?_; refine HL_nil (hK9 _ _ _ _ ?_); refine HC_seq fun K10 hK10 => HC_region ?_; refine HLm rfl (HL_r rfl rfl rfl rfl (R_lenSl rfl rfl) (HLp rfl ?_)); refine HL_as (show _ = Value.int .i64 ((8 * s.length - 1 : Nat)) from congrArg (Value.int .i64) (by rw [wrap_i64 (by omega) (by omega)]; omega)) ?_; refine HLm rfl ?_; refine HL_nil (hK10 _ _ _ _ ?_); refine HC_seq fun K11 hK11 => HC_block ?_; refine HC_loop (σ := Nat) (fun i => topB s (8 * s.length) ≤ i ∧ i < 8 * s.length) (fun i => [(2, pt0 r1), (4, pt0 r2), (5, .slice (some ⟨ra, 0, none⟩) (8 * s.length) cap), (6, .int .i64 (i : Int))]) (fun i => [(ra, .cells (bitsC (unpackB s (8 * s.length)) ++ sp).toArray 4 (0, 0)), vBlk r2 v0L, tBlk r1 (.mk k n p ins)]) (fun _ _ _ => True) (fun i => i) (8 * s.length - 1) ⟨by omega, by omega⟩ (.cons rfl (.cons rfl (.cons rfl (.cons rfl .nil)))) (List.Sublist.refl _) (fun _ _ h => h) ?_; rintro i ⟨hi1, hi2⟩; change HC _ _ _ ((ra, _) :: (r2, _) :: (r1, _) :: []) _ _ _; refine HC_seq fun K12 hK12 => ?_; refine HC_seq fun K13 hK13 => HC_region ?_; refine HLm rfl (HLm rfl (HL_r rfl rfl rfl rfl (R_indexS (j := i) (m := 1) (off' := i) rfl rfl rfl rfl (by omega) (by omega) (by omega)) ?_)); refine HL_r rfl rfl rfl rfl (R_load rfl (known_L (k := 0) rfl) rfl (bits_at s (i := i) (by omega) sp)) ?_; refine HLp rfl ?_; refine HL_nil (hK13 _ _ _ _ ?_); refine HC_cond rfl (fun h14 => ?_) (fun h14 => ?_)
  · try exact Bool.noConfusion h14
    try simp only [ZZ] at h14
    refine HC_skip (hK12 _ _ _ _ ?_); refine HC_block ?_
    have hlt : topB s (8 * s.length) ≠ i := fun e => by rw [e] at q2; rw [q2] at h14; cases h14
    refine HC_region (HLm rfl (HLp rfl ?_)); refine HL_as (show _ = Value.int .i64 ((i - 1 : Nat)) from congrArg (Value.int .i64) (by rw [wrap_i64 (by omega) (by omega)]; omega)) ?_; refine HLm rfl (HL_nil ?_); refine HQ_blockN (HQ_then ?_); exact HQ_again (i - 1) ⟨by omega, by omega⟩ (by omega) (.cons rfl (.cons rfl (.cons rfl (.cons rfl .nil)))) (List.Sublist.refl _) (fun _ _ h => h)
  · try exact Bool.noConfusion h14
    try simp only [ZZ] at h14
    refine HC_exit (HQ_thenE ?_); refine HQ_thenE (HQ_blockE (hK11 _ _ _ _ ?_)); refine HC_seq fun K15 hK15 => ?_
    have hcap : 8 * s.length ≤ cap := by have := hrow.2; omega
    have hL : i = topB s (8 * s.length) := Decidable.byContradiction fun hne => by have := q3 i (by omega) hi2; rw [this] at h14; cases h14
    subst hL; refine HC_region (HLm rfl ?_)
    refine HL_r rfl rfl rfl rfl (R_fieldAddr rfl rfl (by first | (simp only [Nat.zero_add, Nat.reduceAdd, Nat.reduceMul, Nat.zero_mul, Nat.mul_one, Nat.add_zero]; exact rfl) | exact rfl)) ?_; refine HL_r rfl rfl rfl rfl (R_load rfl (known_L (k := 2) rfl) rfl rfl) ?_; refine HLp rfl ?_; refine HL_callX rfl rfl rfl (enters_of Tryz.func42 (by kernel_rfl) rfl) (X_need (_) 5) (fun q hq => nomatch hq) (fun hok _ => ?_) (fun v hv => HQ_panX rfl rfl (bl_bad hno hv)); refine HL_nil (hK15 _ _ _ _ ?_); refine HC_seq fun K16 hK16 => HC_region ?_; refine HLm rfl (HLm rfl ?_)
    refine HL_r rfl rfl rfl rfl (R_sliceSl (kl := none) (kh := some (topB s (8 * s.length))) (km := none) (m := 0) (q := topB s (8 * s.length)) (z := cap) (off' := 0) (sz := 1) rfl rfl rfl trivial ⟨_, rfl⟩ trivial rfl rfl rfl (by omega) (by omega) (Nat.le_refl _) (fun e => nomatch e) (by split <;> omega)) ?_; refine HL_r rfl rfl rfl rfl (R_build (r := [_, _, _, _, _, _, _]) rfl rfl) ?_
    refine HL_storeA (k := 1) (n := 7) (cs' := #[_, _, _, _, _, _, _]) (vs := #[_, _, _, _, _, _, _]) rfl rfl rfl rfl rfl rfl rfl (by exact Nat.le_of_ble_eq_true rfl) rfl (by first | (simp only [List.set_cons_zero, List.set_cons_succ]; exact rfl) | exact rfl) ?_; refine HL_nil (hK16 _ _ _ _ ?_); refine HC_ret ?_; refine HQ_post rfl rfl (.cons (res_cellA (vs := [_, _, _, _, _, _, _]) rfl (known_L (k := 1) rfl) rfl rfl) .nil) (fun w1 hs1 => ?_)
    have hbo := bl_ok hno hok
    refine .inl ⟨by rw [hbo], ⟨.mk 0 0 0 0 (unpackB s (topB s (8 * s.length))) (some (⟨ra, 0, none⟩, cap)) [] none 0, [(ra, .cells (bitsC (unpackB s (8 * s.length)) ++ sp).toArray 4 (0, 0))], bits_in' (by omega) (by omega) (by omega), by rw [hbo, erV_mk, erL]; rfl⟩, congrArg Ending.returned (bitsVal s _ ra cap).symm, hs1.weakL ((List.cons_sublist_cons).2 (List.nil_sublist _))⟩
theorem many_q {k n : Int} {ins : List Ty} {s : BS} {B y : Nat} (h7 : k ≠ 7) (h3 : k ≠ 3) (hs : s ≠ []) (hF : isFix (inTy k 0 ins 0) = true → B = s.length ∧ y = (sizT (inTy k 0 ins 0)).toNat) (hV : isFix (inTy k 0 ins 0) = false → 4 ≤ s.length ∧ leV (s.take 4) ≠ 0 ∧ B = leV (s.take 4) ∧ y = 4) :
    manyT k n ins s = if B % y ≠ 0 then (0, 2) else if n < ((B / y : Nat) : Int) then (0, 5) else (B / y, 0) := by
  unfold manyT
  rw [if_neg h7, if_neg h3, if_neg hs]
  cases h : isFix (inTy k 0 ins 0) with
  | true => obtain ⟨rfl, rfl⟩ := hF h; rw [if_pos rfl]
  | false =>
    obtain ⟨e1, e2, rfl, rfl⟩ := hV h
    rw [if_neg (by simp)]
    by_cases h4 : leV (s.take 4) % 4 ≠ 0
    · rw [if_pos (.inr (.inl h4)), if_pos h4]
    · rw [if_neg (by rintro (h | h | h); omega; exact h4 h; exact e2 h), if_neg h4]
theorem many_v {k n : Int} {ins : List Ty} {s : BS} (h7 : k ≠ 7) (h3 : k ≠ 3) (hs : s ≠ []) (hF : isFix (inTy k 0 ins 0) = false) (h : s.length < 4 ∨ leV (s.take 4) = 0) : (manyT k n ins s).2 = 2 := by
  unfold manyT
  rw [if_neg h7, if_neg h3, if_neg hs, hF, if_neg (by simp), if_pos (by rcases h with h | h; exact .inl h; exact .inr (.inr h))]
theorem many_7 {k n : Int} {ins : List Ty} {s : BS} (h7 : k = 7) : manyT k n ins s = (ins.length, 0) := by unfold manyT; rw [if_pos h7]
theorem many_3 {k n : Int} {ins : List Ty} {s : BS} (h7 : k ≠ 7) (h3 : k = 3) : manyT k n ins s = (n.toNat, 0) := by unfold manyT; rw [if_neg h7, if_pos h3]
theorem many_0 {k n : Int} {ins : List Ty} {s : BS} (h7 : k ≠ 7) (h3 : k ≠ 3) (hs : s = []) : manyT k n ins s = (0, 0) := by unfold manyT; rw [if_neg h7, if_neg h3, if_pos hs]
theorem bad_of {r : Int} {v : Value} {e : Int} {b : Bool} (h : r = e) (he : e ≠ 0) (hv : b = false ∧ v = wrV e) : r ≠ 0 ∧ v = wrV r := by rw [h]; exact ⟨he, hv.2⟩
set_option maxRecDepth 10000 in
theorem X_many {R : List (Nat × Obj)} {k n : Int} {p : Pl} {ins : List Ty} {s : BS} (ht : Ty.In R (.mk k n p ins)) (hc : chk (.mk k n p ins) 0 = 0) (hk3 : k = 3 ∨ k = 4 ∨ k = 7) (hl : s.length ≤ 100000) :
    PureX (α := Unit) Tryz.prog 131 [Ty.val (.mk k n p ins), strV s].toArray ((manyT k n ins s).2 = 0) (fun v => (manyT k n ins s).2 ≠ 0 ∧ v = wrV (manyT k n ins s).2) (fun _ => .int .i64 ((manyT k n ins s).1 : Int)) (fun _ => []) R := by
  obtain ⟨hk8, ho, _, _⟩ := chk_mk hc
  have hsg : Seg R ins.length (tysC ins) p := by cases ht; assumption
  have hin0 : inX k 0 0 < ins.length := by
    unfold okForm at ho
    unfold inX
    rcases hk3 with rfl | rfl | rfl <;> simp at ho ⊢ <;> omega
  obtain ⟨hx0, hxm⟩ := inTy_get hin0
  have hsz := S_ssize (ht.sub _ hxm)
  have hfx := fix_siz (t := inTy k 0 ins 0)
  have hbl := begT_le (inTy k 0 ins 0)
  have hbe := begT_eq (inTy k 0 ins 0)
  obtain ⟨y, hy⟩ : ∃ y : Nat, begT (inTy k 0 ins 0) = (y : Int) := ⟨_, (Int.toNat_of_nonneg (by omega)).symm⟩
  rw [hy] at hsz hbl hbe
  have hnk : k = 3 → 0 ≤ n := fun e => by subst e; unfold okForm at ho; simp at ho; omega
  refine pureX_of_HC Tryz.func131 rfl rfl fun w => ?_; refine HC_seq fun K1 hK1 => HC_region ?_; refine HL_box (cs := #[_, _, _]) rfl rfl rfl rfl fun r1 => ?_; refine HLm rfl ?_; refine HL_nil (hK1 _ _ _ _ ?_); refine HC_seq fun K2 hK2 => HC_block ?_; refine HC_seq fun K3 hK3 => HC_region ?_
  refine HL_r rfl rfl rfl rfl (R_fieldAddr rfl rfl (by first | (simp only [Nat.zero_add, Nat.reduceAdd, Nat.reduceMul, Nat.zero_mul, Nat.mul_one, Nat.add_zero]; exact rfl) | exact rfl)) ?_; refine HL_r rfl rfl rfl rfl (R_load rfl (known_L (k := 0) rfl) rfl rfl) ?_; refine HLp rfl (HLm rfl ?_); refine HL_nil (hK3 _ _ _ _ ?_); refine HC_cond rfl (fun h4 => ?_) (fun h4 => ?_)
  · try exact Bool.noConfusion h4
    try simp only [ZZ] at h4
    refine HC_seq fun K5 hK5 => HC_region ?_
    refine HL_r rfl rfl rfl rfl (R_fieldAddr rfl rfl (by first | (simp only [Nat.zero_add, Nat.reduceAdd, Nat.reduceMul, Nat.zero_mul, Nat.mul_one, Nat.add_zero]; exact rfl) | exact rfl)) ?_; refine HL_r rfl rfl rfl rfl (R_load rfl (known_L (k := 0) rfl) rfl rfl) ?_; refine HL_r rfl rfl rfl rfl (R_lenPl rfl hsg rfl) ?_; refine HLm rfl ?_; refine HL_nil (hK5 _ _ _ _ ?_); refine HC_ret (HQ_blockR (HQ_thenR ?_)); refine HQ_post rfl rfl (.cons (res_tmp rfl) .nil) (fun w1 hs1 => ?_); exact .inl ⟨by rw [many_7 ‹k = 7›], (), by rw [many_7 ‹k = 7›]; rfl, hs1.weakL (List.nil_sublist _)⟩
  · try exact Bool.noConfusion h4
    try simp only [ZZ] at h4
    refine HC_seq fun K6 hK6 => HC_region ?_
    refine HL_r rfl rfl rfl rfl (R_fieldAddr rfl rfl (by first | (simp only [Nat.zero_add, Nat.reduceAdd, Nat.reduceMul, Nat.zero_mul, Nat.mul_one, Nat.add_zero]; exact rfl) | exact rfl)) ?_; refine HL_r rfl rfl rfl rfl (R_load rfl (known_L (k := 0) rfl) rfl rfl) ?_; refine HLp rfl (HLm rfl ?_); refine HL_nil (hK6 _ _ _ _ ?_); refine HC_cond rfl (fun h7 => ?_) (fun h7 => ?_)
    · try exact Bool.noConfusion h7
      try simp only [ZZ] at h7
      refine HC_seq fun K8 hK8 => HC_region ?_
      refine HL_r rfl rfl rfl rfl (R_fieldAddr rfl rfl (by first | (simp only [Nat.zero_add, Nat.reduceAdd, Nat.reduceMul, Nat.zero_mul, Nat.mul_one, Nat.add_zero]; exact rfl) | exact rfl)) ?_; refine HL_r rfl rfl rfl rfl (R_load rfl (known_L (k := 0) rfl) rfl rfl) ?_; refine HL_as (show _ = Value.int .i64 ((n.toNat : Nat) : Int) from congrArg (Value.int .i64) (by have := hnk ‹_›; omega)) ?_; refine HLm rfl ?_; refine HL_nil (hK8 _ _ _ _ ?_); refine HC_ret (HQ_blockR (HQ_thenR ?_)); refine HQ_post rfl rfl (.cons (res_tmp rfl) .nil) (fun w1 hs1 => ?_); exact .inl ⟨by rw [many_3 ‹k ≠ 7› ‹k = 3›], (), by rw [many_3 ‹k ≠ 7› ‹k = 3›]; rfl, hs1.weakL (List.nil_sublist _)⟩
    · try exact Bool.noConfusion h7
      try simp only [ZZ] at h7
      refine HC_seq fun K9 hK9 => HC_region ?_; refine HLm rfl (HL_r rfl rfl rfl rfl (R_strEq rfl rfl) (HLm rfl ?_)); refine HL_nil (hK9 _ _ _ _ ?_); refine HC_cond rfl (fun h10 => ?_) (fun h10 => ?_)
      · try exact Bool.noConfusion h10
        try simp only [ZZ] at h10
        refine HC_seq fun K11 hK11 => HC_region ?_; refine HLm rfl ?_; refine HL_nil (hK11 _ _ _ _ ?_); refine HC_ret (HQ_blockR (HQ_thenR ?_)); refine HQ_post rfl rfl (.cons (res_tmp rfl) .nil) (fun w1 hs1 => ?_); exact .inl ⟨by rw [many_0 ‹k ≠ 7› ‹k ≠ 3› ‹s = []›], (), by rw [many_0 ‹k ≠ 7› ‹k ≠ 3› ‹s = []›]; rfl, hs1.weakL (List.nil_sublist _)⟩
      · try exact Bool.noConfusion h10
        try simp only [ZZ] at h10
        refine HC_skip (HQ_blockN (hK2 _ _ _ _ ?_)); refine HC_seq fun K12 hK12 => ?_
        have h7 : k ≠ 7 := ‹_›
        have h3 : k ≠ 3 := ‹_›
        have hne : s ≠ [] := ‹_›
        have hx00 : ins[0]? = some (inTy k 0 ins 0) := by have := hx0; unfold inX at this; rw [if_neg h7] at this; split at this <;> exact this
        refine HC_region ?_
        refine HL_r rfl rfl rfl rfl (R_fieldAddr rfl rfl (by first | (simp only [Nat.zero_add, Nat.reduceAdd, Nat.reduceMul, Nat.zero_mul, Nat.mul_one, Nat.add_zero]; exact rfl) | exact rfl)) ?_; refine HL_r rfl rfl rfl rfl (R_load rfl (known_L (k := 0) rfl) rfl rfl) ?_
        refine HL_r rfl rfl rfl rfl (R_indexPl (j := 0) rfl hsg rfl rfl rfl (by first | rfl | omega) (by omega)) ?_; refine HL_r rfl rfl rfl rfl (R_loadTy (fun q hq => Or.inr hq) rfl hsg hx00 rfl rfl) ?_; refine HL_callR rfl rfl rfl (enters_of Tryz.func122 (by kernel_rfl) rfl) hsz (fun q hq => Or.inr hq) ?_; refine HLm rfl (HL_r rfl rfl rfl rfl (R_extract rfl rfl) (HL_r rfl rfl rfl rfl (R_extract rfl rfl) ?_)); refine HLm rfl (HLm rfl ?_); refine HL_nil (hK12 _ _ _ _ ?_); refine HC_seq fun K13 hK13 => HC_region ?_; refine HLm rfl (HL_r rfl rfl rfl rfl (R_lenBs rfl rfl) (HLm rfl ?_)); refine HL_nil (hK13 _ _ _ _ ?_); refine HC_seq fun K14 hK14 => ?_; refine HC_seq fun K15 hK15 => HC_region ?_; refine HLm rfl (HLp rfl ?_); refine HL_nil (hK15 _ _ _ _ ?_); refine HC_cond rfl (fun h16 => ?_) (fun h16 => ?_)
        · try exact Bool.noConfusion h16
          try simp only [ZZ] at h16
          refine HC_seq fun K17 hK17 => HC_region ?_; refine HLm rfl (HL_r rfl rfl rfl rfl (R_lenBs rfl rfl) ?_); refine HLp rfl (HLm rfl ?_)
          refine HL_case 39 rfl (fun hb18 => ?_) (fun hb18 => ?_) <;> (try simp only [ZZ] at hb18) <;> first | (refine HLm rfl ?_) | (refine HL_skip rfl rfl rfl ?_)
          all_goals first
            | (refine HL_callP rfl rfl rfl (enters_of Tryz.func132 (by kernel_rfl) rfl) (P_low (s := s) (by omega)) ?_)
            | (refine HL_skip rfl rfl rfl ?_)
          all_goals first
            | (refine HLp rfl ?_)
            | (refine HL_skip rfl rfl rfl ?_)
          all_goals first
            | (refine HL_r rfl rfl rfl rfl (R_pickT rfl rfl) ?_)
            | (refine HL_r rfl rfl rfl rfl (R_pickF rfl rfl) ?_)
          all_goals refine HL_callX rfl rfl rfl (enters_of Tryz.func42 (by kernel_rfl) rfl) (X_need (_) 2) (fun q hq => nomatch hq) (fun hok _ => ?_) (fun v hv => HQ_panX rfl rfl (bad_of (many_v ‹k ≠ 7› ‹k ≠ 3› hne ‹isFix (inTy k 0 ins 0) = false› (by first | exact .inl (by omega) | exact .inr (Int.natCast_eq_zero.1 (Z6.1 hv.1)))) (by decide) hv))
          all_goals try exact Bool.noConfusion hok
          have hl0 := fun e => Z5.1 hok (Int.natCast_eq_zero.2 e)
          refine HL_nil (hK17 _ _ _ _ ?_); refine HC_region (HLm rfl (HL_callP rfl rfl rfl (enters_of Tryz.func132 (by kernel_rfl) rfl) (P_low (s := s) (by omega)) ?_)); refine HLm rfl ?_; refine HL_nil (hK14 _ _ _ _ ?_); refine HC_seq fun K21 hK21 => ?_
          (have hif : isFix (inTy k 0 ins 0) = false := ‹_›
           rw [hif, if_neg (by decide)] at hbe
           have hlt := (unle4 (s := s) (by omega)).2
           have hmq := many_q (n := n) (ins := ins) (B := leV (s.take 4)) (y := y) h7 h3 hne (fun e => by rw [hif] at e; cases e) (fun _ => ⟨by omega, hl0, rfl, by omega⟩)
           obtain ⟨B, hB⟩ : ∃ B, B = leV (s.take 4) := ⟨_, rfl⟩
           have hBl : B ≤ 4294967295 := by omega
           rw [← hB] at hmq ⊢)
          refine HC_region (HLm rfl ?_); refine HLm rfl (HL_r rfl rfl rfl rfl (R_remV (a := B) (b := y) rfl rfl (by omega)) (HLp rfl ?_)); refine HL_callX rfl rfl rfl (enters_of Tryz.func42 (by kernel_rfl) rfl) (X_need (_) 2) (fun q hq => nomatch hq) (fun hok _ => ?_) (fun v hv => HQ_panX rfl rfl (bad_of (by rw [hmq, if_pos (fun e => absurd hv.1 (by rw [e]; decide))]) (by decide) hv))
          have hmod : ¬ B % y ≠ 0 := fun e => e (Int.natCast_eq_zero.1 (Z3.1 hok))
          refine HL_nil (hK21 _ _ _ _ ?_); refine HC_seq fun K22 hK22 => ?_
          refine HC_drawB [] [(0, .pure), (1, .pure), (2, .pure), (3, .pure), (5, .pure)] 6 [0, 1, 2, 3, 4, 5] (by kernel_rfl) (by kernel_rfl) (by first | exact (fun _ h => nomatch h) | simp [SubS] | (intro p hp; simp [hp])) ?_; refine HB_p (k := 0) rfl rfl rfl rfl rfl (fun _ hS => (R_move rfl)) ?_; refine HB_p (k := 1) rfl rfl rfl rfl rfl (fun _ hS => (R_move rfl)) ?_; refine HB_p (k := 2) rfl rfl rfl rfl rfl (fun _ _ => R_quoV (a := B) (b := y) rfl rfl (by omega) (by omega)) ?_
          refine HB_p (k := 3) rfl rfl rfl rfl rfl (fun _ hS => (R_fieldAddr rfl rfl (by first | (simp only [Nat.zero_add, Nat.reduceAdd, Nat.reduceMul, Nat.zero_mul, Nat.mul_one, Nat.add_zero]; exact rfl) | exact rfl))) ?_; refine HB_r (k := 4) rfl rfl rfl rfl rfl (R_load rfl (known_L (k := 0) rfl) rfl rfl) ?_; refine HB_p (k := 5) rfl rfl rfl rfl rfl (fun _ hS => (R_pure rfl rfl rfl)) ?_; refine HB_end ?_; refine HL_callX rfl rfl rfl (enters_of Tryz.func42 (by kernel_rfl) rfl) (X_need (_) 5) (fun q hq => nomatch hq) (fun hok _ => ?_) (fun v hv => HQ_panX rfl rfl (bad_of (by rw [hmq, if_neg hmod, if_pos (by have := Z2.1 hv.1; omega)]) (by decide) hv)); rw [if_neg hmod, if_neg (by have := Z1.mp hok; omega)] at hmq; refine HL_nil (hK22 _ _ _ _ ?_); refine HC_seq fun K23 hK23 => HC_region ?_; refine HLm rfl (HLm rfl (HL_r rfl rfl rfl rfl (R_quoV (a := B) (b := y) rfl rfl (by omega) (by omega)) ?_)); refine HLm rfl ?_; refine HL_nil (hK23 _ _ _ _ ?_); refine HC_ret ?_; refine HQ_post rfl rfl (.cons (res_tmp rfl) .nil) (fun w1 hs1 => ?_); exact .inl ⟨by rw [hmq], (), by rw [hmq]; rfl, hs1.weakL (List.nil_sublist _)⟩
        · try exact Bool.noConfusion h16
          try simp only [ZZ] at h16
          refine HC_skip (hK14 _ _ _ _ ?_); refine HC_seq fun K24 hK24 => ?_
          (have hif : isFix (inTy k 0 ins 0) = true := ‹_›
           rw [if_pos hif] at hbe
           have hmq := many_q (n := n) (ins := ins) (B := s.length) (y := y) h7 h3 hne (fun _ => ⟨rfl, by omega⟩) (fun e => by rw [hif] at e; cases e)
           obtain ⟨B, hB⟩ : ∃ B, B = s.length := ⟨_, rfl⟩
           have hBl : B ≤ 4294967295 := by omega
           rw [← hB] at hmq ⊢)
          refine HC_region (HLm rfl ?_); refine HLm rfl (HL_r rfl rfl rfl rfl (R_remV (a := B) (b := y) rfl rfl (by omega)) (HLp rfl ?_)); refine HL_callX rfl rfl rfl (enters_of Tryz.func42 (by kernel_rfl) rfl) (X_need (_) 2) (fun q hq => nomatch hq) (fun hok _ => ?_) (fun v hv => HQ_panX rfl rfl (bad_of (by rw [hmq, if_pos (fun e => absurd hv.1 (by rw [e]; decide))]) (by decide) hv))
          have hmod : ¬ B % y ≠ 0 := fun e => e (Int.natCast_eq_zero.1 (Z3.1 hok))
          refine HL_nil (hK24 _ _ _ _ ?_); refine HC_seq fun K25 hK25 => ?_
          refine HC_drawB [] [(0, .pure), (1, .pure), (2, .pure), (3, .pure), (5, .pure)] 6 [0, 1, 2, 3, 4, 5] (by kernel_rfl) (by kernel_rfl) (by first | exact (fun _ h => nomatch h) | simp [SubS] | (intro p hp; simp [hp])) ?_; refine HB_p (k := 0) rfl rfl rfl rfl rfl (fun _ hS => (R_move rfl)) ?_; refine HB_p (k := 1) rfl rfl rfl rfl rfl (fun _ hS => (R_move rfl)) ?_; refine HB_p (k := 2) rfl rfl rfl rfl rfl (fun _ _ => R_quoV (a := B) (b := y) rfl rfl (by omega) (by omega)) ?_
          refine HB_p (k := 3) rfl rfl rfl rfl rfl (fun _ hS => (R_fieldAddr rfl rfl (by first | (simp only [Nat.zero_add, Nat.reduceAdd, Nat.reduceMul, Nat.zero_mul, Nat.mul_one, Nat.add_zero]; exact rfl) | exact rfl))) ?_; refine HB_r (k := 4) rfl rfl rfl rfl rfl (R_load rfl (known_L (k := 0) rfl) rfl rfl) ?_; refine HB_p (k := 5) rfl rfl rfl rfl rfl (fun _ hS => (R_pure rfl rfl rfl)) ?_; refine HB_end ?_; refine HL_callX rfl rfl rfl (enters_of Tryz.func42 (by kernel_rfl) rfl) (X_need (_) 5) (fun q hq => nomatch hq) (fun hok _ => ?_) (fun v hv => HQ_panX rfl rfl (bad_of (by rw [hmq, if_neg hmod, if_pos (by have := Z2.1 hv.1; omega)]) (by decide) hv)); rw [if_neg hmod, if_neg (by have := Z1.mp hok; omega)] at hmq; refine HL_nil (hK25 _ _ _ _ ?_); refine HC_seq fun K26 hK26 => HC_region ?_; refine HLm rfl (HLm rfl (HL_r rfl rfl rfl rfl (R_quoV (a := B) (b := y) rfl rfl (by omega) (by omega)) ?_)); refine HLm rfl ?_; refine HL_nil (hK26 _ _ _ _ ?_); refine HC_ret ?_; refine HQ_post rfl rfl (.cons (res_tmp rfl) .nil) (fun w1 hs1 => ?_); exact .inl ⟨by rw [hmq], (), by rw [hmq]; rfl, hs1.weakL (List.nil_sublist _)⟩
end Go.Proofs.YtlcbfphioeppaaaGreatDoor
namespace Go.Proofs.YtlcbfphioeppaaaGreatDoor
set_option linter.all false
open Go.SL Go.RowKit Go.Shelf
/-! ### Where a row's items stand, in plain Lean; items whose yield may panic -/
def pairL : List Ty → Nat → List Nat → List (Ty × Nat × Nat)
  | [], _, _ => []
  | x :: xs, a, os => if isFix x then (x, a, a + (sizT x).toNat) :: pairL xs (a + (sizT x).toNat) os else (x, os.getD 0 0, os.getD 1 0) :: pairL xs (a + 4) os.tail
theorem pairL_len : ∀ (ts : List Ty) (a : Nat) (os : List Nat), (pairL ts a os).length = ts.length
  | [], _, _ => rfl
  | x :: xs, a, os => by rw [pairL]; split <;> rw [List.length_cons, pairL_len xs, List.length_cons]
theorem partL_pair (s : BS) : ∀ (ts : List Ty) (a : Nat) (os : List Nat), partL s ts a os = (pairL ts a os).map fun q => (s.take q.2.2).drop q.2.1
  | [], _, _ => rfl
  | x :: xs, a, os => by
    rw [partL, pairL]
    split
    · rw [List.map_cons, partL_pair s xs]
      congr 1
      simp only
      rw [List.drop_take]
      congr 1; omega
    · rw [List.map_cons, partL_pair s xs]
theorem pairL_tys : ∀ (ts : List Ty) (a : Nat) (os : List Nat), (pairL ts a os).map Prod.fst = ts
  | [], _, _ => rfl
  | x :: xs, a, os => by rw [pairL]; split <;> rw [List.map_cons, pairL_tys xs]
def cV : List Ty → Nat
  | [] => 0
  | x :: xs => if isFix x then cV xs else cV xs + 1
theorem cV_snoc : ∀ (ts : List Ty) (x : Ty), cV (ts ++ [x]) = if isFix x then cV ts else cV ts + 1
  | [], x => rfl
  | y :: ys, x => by
    rw [List.cons_append, cV, cV, cV_snoc ys x]
    by_cases h1 : isFix y = true <;> by_cases h2 : isFix x = true <;> simp [h1, h2]
/-- Where the last open one stands; -1: nowhere. -/
def lastV : List Ty → Int
  | [] => -1
  | x :: xs => if 0 ≤ lastV xs then lastV xs + 1 else if isFix x then -1 else 0
theorem lastV_ge : ∀ ts : List Ty, -1 ≤ lastV ts ∧ lastV ts < ts.length
  | [] => by rw [lastV]; simp
  | x :: xs => by
    have := lastV_ge xs
    rw [lastV, List.length_cons]
    split
    · omega
    · split <;> omega
theorem lastV_snoc : ∀ (ts : List Ty) (x : Ty), lastV (ts ++ [x]) = if isFix x then lastV ts else (ts.length : Int)
  | [], x => rfl
  | y :: ys, x => by
    rw [List.cons_append, lastV, lastV, lastV_snoc ys x]
    by_cases h2 : isFix x = true
    · rw [if_pos h2, if_pos h2]
    · rw [if_neg h2, if_neg h2, if_pos (by omega), List.length_cons]; omega
theorem pairL_fix {x : Ty} (hx : isFix x = true) : ∀ (ts : List Ty) (a : Nat) (os : List Nat), (∀ y ∈ ts, isFix y = true → 0 ≤ sizT y) → ∀ b : Nat, (b : Int) = a + begL ts → pairL (ts ++ [x]) a os = pairL ts a os ++ [(x, b, b + (sizT x).toNat)]
  | [], a, os, _, b, hb => by
    rw [begL] at hb
    have : b = a := by omega
    subst this
    show pairL [x] _ os = [(x, _, _)]
    rw [pairL, if_pos hx, pairL]
  | y :: ys, a, os, hy, b, hb => by
    have hy2 : ∀ z ∈ ys, isFix z = true → 0 ≤ sizT z := fun z hz => hy z (List.mem_cons_of_mem _ hz)
    rw [begL, begT] at hb; rw [List.cons_append, pairL, pairL]
    by_cases hf : isFix y = true
    · have h0 := hy y List.mem_cons_self hf
      rw [if_pos hf] at hb; rw [if_pos hf, if_pos hf, pairL_fix hx ys _ os hy2 b (by omega)]; rfl
    · rw [if_neg hf] at hb
      rw [if_neg hf, if_neg hf, pairL_fix hx ys _ os.tail hy2 b (by omega)]; rfl
theorem pairL_var {x : Ty} (hx : ¬ isFix x = true) (v e : Nat) : ∀ (ts : List Ty) (a : Nat) (pre : List Nat), pre.length = cV ts → pairL (ts ++ [x]) a (pre ++ [v, e]) = pairL ts a (pre ++ [v]) ++ [(x, v, e)]
  | [], a, pre, hp => by
    rw [cV] at hp
    obtain rfl := List.length_eq_zero_iff.1 hp
    show pairL [x] _ [v, e] = [(x, v, e)]
    rw [pairL, if_neg hx, pairL]; rfl
  | y :: ys, a, pre, hp => by
    rw [cV] at hp; rw [List.cons_append, pairL, pairL]
    by_cases hf : isFix y = true
    · rw [if_pos hf] at hp
      rw [if_pos hf, if_pos hf, pairL_var hx v e ys _ pre hp]; rfl
    · rw [if_neg hf] at hp
      rw [if_neg hf, if_neg hf]
      cases pre with
      | nil => simp at hp
      | cons u pre =>
        have hp2 : pre.length = cV ys := by simpa using hp
        have e1 : (u :: pre ++ [v, e]).tail = pre ++ [v, e] := rfl
        have e2 : (u :: pre ++ [v]).tail = pre ++ [v] := rfl
        rw [e1, e2, pairL_var hx v e ys _ pre hp2]
        have e3 : (u :: pre ++ [v, e]).getD 1 0 = (u :: pre ++ [v]).getD 1 0 := by cases pre <;> rfl
        rw [e3]; rfl
theorem pairL_none : ∀ (ts : List Ty) (a : Nat) (os os' : List Nat), lastV ts = -1 → pairL ts a os = pairL ts a os'
  | [], _, _, _, _ => rfl
  | x :: xs, a, os, os', h => by
    rw [lastV] at h
    have := lastV_ge xs
    by_cases h1 : 0 ≤ lastV xs
    · rw [if_pos h1] at h; omega
    · rw [if_neg h1] at h
      by_cases hf : isFix x = true
      · rw [pairL, pairL, if_pos hf, if_pos hf, pairL_none xs _ os os' (by omega)]
      · rw [if_neg hf] at h; omega
theorem cV_pos : ∀ {ts : List Ty}, 0 ≤ lastV ts → 0 < cV ts
  | [], h => by rw [lastV] at h; omega
  | x :: xs, h => by
    rw [lastV] at h; rw [cV]
    by_cases h1 : 0 ≤ lastV xs
    · have := cV_pos h1
      split <;> omega
    · rw [if_neg h1] at h
      split
      · rename_i hf; rw [if_pos hf] at h; omega
      · omega
theorem cV_zero : ∀ {ts : List Ty}, lastV ts = -1 → cV ts = 0
  | [], _ => rfl
  | x :: xs, h => by
    rw [lastV] at h; rw [cV]
    have := lastV_ge xs
    by_cases h1 : 0 ≤ lastV xs
    · rw [if_pos h1] at h; omega
    · rw [if_neg h1] at h
      by_cases hf : isFix x = true
      · rw [if_pos hf]; exact cV_zero (by omega)
      · rw [if_neg hf] at h; omega
/-- The end of the last open one is turned. -/
theorem pairL_to (v e : Nat) : ∀ (ts : List Ty) (a : Nat) (pre : List Nat) (j : Nat), pre.length = cV ts → lastV ts = (j : Int) → ∃ x f, (pairL ts a (pre ++ [e]))[j]? = some (x, f, e) ∧ pairL ts a (pre ++ [v]) = (pairL ts a (pre ++ [e])).set j (x, f, v)
  | [], _, _, j, _, h => by rw [lastV] at h; omega
  | y :: ys, a, pre, j, hp, h => by
    have hge := lastV_ge ys
    rw [cV] at hp; rw [lastV] at h; rw [pairL, pairL]
    by_cases h1 : 0 ≤ lastV ys
    · rw [if_pos h1] at h
      obtain ⟨j', rfl⟩ : ∃ j', j = j' + 1 := ⟨j - 1, by omega⟩
      by_cases hf : isFix y = true
      · rw [if_pos hf] at hp
        obtain ⟨x, f, g1, g2⟩ := pairL_to v e ys (a + (sizT y).toNat) pre j' hp (by omega)
        rw [if_pos hf, if_pos hf]; exact ⟨x, f, by rw [List.getElem?_cons_succ]; exact g1, by rw [List.set_cons_succ, ← g2]⟩
      · rw [if_neg hf] at hp
        cases pre with
        | nil => simp at hp
        | cons u pre =>
          obtain ⟨x, f, g1, g2⟩ := pairL_to v e ys (a + 4) pre j' (by simpa using hp) (by omega)
          rw [if_neg hf, if_neg hf]
          have hpos : 0 < cV ys := cV_pos h1
          have e3 : (u :: pre ++ [v]).getD 1 0 = (u :: pre ++ [e]).getD 1 0 := by
            cases pre with
            | nil => simp at hp; omega
            | cons _ _ => rfl
          rw [e3]; exact ⟨x, f, by rw [List.getElem?_cons_succ]; exact g1, by rw [List.set_cons_succ]; exact congrArg _ g2⟩
    · rw [if_neg h1] at h
      by_cases hf : isFix y = true
      · rw [if_pos hf] at h; omega
      · rw [if_neg hf] at h hp
        have hj : j = 0 := by omega
        subst hj
        have hc0 : cV ys = 0 := cV_zero (by omega)
        cases pre with
        | nil => simp at hp
        | cons u pre =>
          have hn : pre = [] := List.length_eq_zero_iff.1 (by simp at hp; omega)
          subst hn; rw [if_neg hf, if_neg hf]; refine ⟨y, u, rfl, ?_⟩; rw [pairL_none ys (a + 4) (([u] ++ [v]).tail) (([u] ++ [e]).tail) (by omega)]; rfl
def prC (q : Ty × Nat × Nat) : List Value := q.1.cells ++ [.int .i64 (q.2.1 : Int), .int .i64 (q.2.2 : Int)]
def prsC (l : List (Ty × Nat × Nat)) : List Value := l.flatMap prC
theorem prC_len (q : Ty × Nat × Nat) : (prC q).length = 5 := by unfold prC; rw [List.length_append, Ty.len]; rfl
theorem prsC_len (l : List (Ty × Nat × Nat)) : (prsC l).length = l.length * 5 := cat_len prC_len l
theorem prC_to (x : Ty) (f e v : Nat) : (prC (x, f, e)).set 4 (.int .i64 (v : Int)) = prC (x, f, v) := by
  obtain ⟨k, n, p, ins⟩ := x; rfl
theorem prsC_set : ∀ {l : List (Ty × Nat × Nat)} {j : Nat} {x : Ty} {f e : Nat} (v : Nat), l[j]? = some (x, f, e) → (prsC l).set (j * 5 + 4) (.int .i64 (v : Int)) = prsC (l.set j (x, f, v))
  | [], _, _, _, _, _, h => by simp at h
  | q :: l, 0, x, f, e, v, h => by
    cases h
    unfold prsC
    rw [List.set_cons_zero, List.flatMap_cons, List.flatMap_cons, List.set_append_left _ _ (by rw [prC_len]; decide), Nat.zero_mul, Nat.zero_add, prC_to]
  | q :: l, j + 1, x, f, e, v, h => by
    have ih := prsC_set (l := l) v (by simpa using h)
    unfold prsC at ih ⊢
    rw [List.set_cons_succ, List.flatMap_cons, List.flatMap_cons, List.set_append_right _ _ (by rw [prC_len]; omega), prC_len, show (j + 1) * 5 + 4 - 5 = j * 5 + 4 by omega, ih]
theorem prsC_snoc (l : List (Ty × Nat × Nat)) (q : Ty × Nat × Nat) : prsC (l ++ [q]) = prsC l ++ prC q := by unfold prsC; rw [List.flatMap_append]; simp
/-- What parts hands back: where the items stand, and what is wrong. -/
def partsT (k n : Int) (ins : List Ty) (s : BS) : List Nat × Int :=
  if (manyT k n ins s).2 ≠ 0 then ([], (manyT k n ins s).2)
  else if (s.length : Int) < begL (tysN k ins (manyT k n ins s).1) then ([], 2)
  else match offL s (begL (tysN k ins (manyT k n ins s).1)).toNat (tysN k ins (manyT k n ins s).1) 0 (begL (tysN k ins (manyT k n ins s).1)).toNat false with
    | none => ([], 2)
    | some os => (os, 0)
set_option maxRecDepth 10000 in
theorem I_itemsX {R : List (Nat × Obj)} {k n : Int} {p : Pl} {ins : List Ty} {m : Nat} (ht : Ty.In R (.mk k n p ins)) (hm : m ≤ 1000000) (hx : ∀ i, i < m → inX k 0 i < ins.length) (rt ri : Nat) :
    IterX Tryz.prog 189 [pt0 ri, pt0 rt] (iBlk ri m :: tBlk rt (.mk k n p ins) :: R) 0 (nxN (itV k ins) m) (finN m) := by
  refine iterX_of_HC Tryz.func189 rfl rfl fun q xids w2 XI XF pc hY => ?_; refine HC_seq fun K1 hK1 => HC_region ?_; refine HL_r rfl rfl rfl rfl (R_load (v := .int .i64 (m : Int)) rfl (known_R (k := 0) rfl) rfl rfl) ?_; refine HLm rfl ?_; refine HL_nil (hK1 _ _ _ _ ?_); refine HC_block (HC_loop (σ := Nat) (fun i => i ≤ m) (fun i => [(0, .func (.yield q) #[] #[]), (1, pt0 ri), (2, pt0 rt), (5, .int .i64 (m : Int)), (6, .int .i64 (i : Int))]) (fun _ => []) (fun i => XI i) (fun i => m - i) 0 (Nat.zero_le _) (.cons rfl (.cons rfl (.cons rfl (.cons rfl (.cons rfl .nil))))) (List.Sublist.refl _) (fun _ _ h => h) ?_); intro i hi; refine HC_seq fun K2 hK2 => HC_region ?_; refine HLp rfl ?_; refine HL_nil (hK2 _ _ _ _ ?_); refine HC_seq fun K3 hK3 => ?_; refine HC_cond rfl (fun h4 => ?_) (fun h4 => ?_)
  · try exact Bool.noConfusion h4
    try simp only [ZZ] at h4
    refine HC_skip (hK3 _ _ _ _ ?_); refine HC_seq fun K5 hK5 => HC_block ?_; refine HC_seq fun K6 hK6 => HC_region ?_; refine HLm rfl (HLm rfl ?_); refine HL_nil (hK6 _ _ _ _ ?_); refine HC_seq fun K7 hK7 => ?_
    have hil : i < m := by omega
    refine HC_region (HLm rfl ?_); refine HLm rfl (HL_r rfl rfl rfl rfl (R_loadArr (xs := Ty.cells (.mk k n p ins)) (n := 3) rfl (known_R (k := 1) rfl) rfl rfl (Ty.len _)) ?_); refine HLm rfl (HL_callR rfl rfl rfl (enters_of Tryz.func190 (by kernel_rfl) rfl) (S_sin ht (fun _ => Int.le_refl 0) (hx i hil)) (fun q hq => Or.inr (List.mem_cons_of_mem _ (List.mem_cons_of_mem _ hq))) ?_); refine HL_yieldX (XT := XI (i + 1)) (XF := XF) (pc := pc) rfl rfl rfl rfl (hY i (itV k ins i) (i + 1) ⟨hil, rfl, rfl⟩) ?_ ?_ (fun ch hch => HQ_panR fun w1 hs1 => .inr ⟨ch, rfl, hch, hs1.keep⟩)
    all_goals refine HLp rfl ?_
    all_goals refine HL_nil ?_
    all_goals (
     refine hK7 _ _ _ _ ?_; refine HC_cond rfl (fun h8 => ?_) (fun h8 => ?_)
     · try exact Bool.noConfusion h8
       all_goals try simp only [ZZ] at h8
       all_goals (
        refine HC_ret (HQ_blockR (HQ_thenR ?_)); refine HQ_thenR (HQ_blockR ?_); refine HQ_post rfl rfl .nil (fun w1 hs1 => ?_)
        obtain ⟨xs1, hx1⟩ := hs1.now
        exact .inl ⟨⟨_, rfl⟩, hs1.keep, .inr ⟨_, hx1⟩⟩
        skip)
     · try exact Bool.noConfusion h8
       all_goals try simp only [ZZ] at h8
       all_goals (
        refine HC_skip (HQ_blockN (hK5 _ _ _ _ ?_)); refine HC_region ?_
        refine HLp rfl ?_; refine HL_as (show _ = Value.int .i64 ((i + 1 : Nat) : Int) from by rw [wrap_i64 (by omega) (by omega)]; congr 1 <;> omega) ?_; refine HLm rfl (HL_nil (HQ_then ?_)); exact HQ_again (i + 1) (by omega) (by omega) (.cons rfl (.cons rfl (.cons rfl (.cons rfl (.cons rfl .nil))))) (List.Sublist.refl _) (fun _ _ h => h)
        skip)
     skip)
  · try exact Bool.noConfusion h4
    try simp only [ZZ] at h4
    refine HC_exit (HQ_thenE ?_); refine HQ_thenE (HQ_blockE ?_); refine HQ_postN rfl rfl .nil (fun w1 hs1 => ?_)
    obtain ⟨xs1, hx1⟩ := hs1.now
    exact .inl ⟨⟨_, rfl⟩, hs1.keep, .inl ⟨i, _, (by show i = m; omega), hx1⟩⟩
end Go.Proofs.YtlcbfphioeppaaaGreatDoor
namespace Go.Proofs.YtlcbfphioeppaaaGreatDoor
set_option linter.all false
open Go.SL Go.RowKit Go.Shelf
/-! ### parts -/
theorem HCE_sel {c : Cx} {d : List Deferred} {l : List (Nat × Value)} {L : List (Nat × Obj)} {X : XP} {Q : Exit → Act → World → Prop} {code : Code} (js : List Nat) {L' : List (Nat × Obj)} (hn : js.Nodup) (hL : selL L js = L') (h : HCE c d l L' X code Q) : HCE c d l L X code Q := fun a w hf hs => h a w hf (hL ▸ hs.sel js hn)
theorem HQ_roundN {σ τ : Type} {c3 : Cx} {d : List Deferred} {l : List (Nat × Value)} {L : List (Nat × Obj)} {Xb : XP} {I : σ → Prop} {LI : σ → List (Nat × Obj)} {E : Code → τ → Prop} {LE : τ → List (Nat × Obj)} {pc : List PanicEntry → Prop} (s : σ) (h : I s) (hL : L.Sublist (LI s) ∧ (LI s).Sublist L) : HQ c3 d l L Xb (roundQX c3 Xb I LI E LE pc .normal) := fun a w hf hs => ⟨s, h, hs.weakL hL.2⟩
theorem row_some {sz n : Nat} {xs : List Value} {row : Row} (h : rowOk sz n xs row) (h0 : 0 < n) : ∃ r cap sp, row = some (r, cap, sp) := by
  cases row with
  | none => have := h.1; omega
  | some q => obtain ⟨r, cap, sp⟩ := q; exact ⟨r, cap, sp, rfl⟩
def psI (s : BS) (TY : List Ty) (i : Nat) (pre : List Nat) : List (Ty × Nat × Nat) := pairL (TY.take i) 0 (pre ++ [s.length])
structure PInv (s : BS) (H : Nat) (TY : List Ty) (i A la : Nat) (op : Int) (pre : List Nat) : Prop where
  le : i ≤ TY.length
  cv : pre.length = cV (TY.take i)
  opv : op = lastV (TY.take i)
  at_ : (A : Int) = begL (TY.take i)
  off : offL s H TY 0 H false = (offL s H (TY.drop i) A la (decide (0 ≤ op))).map (pre ++ ·)
section
variable {s : BS} {H : Nat} {TY : List Ty} {i A la : Nat} {op : Int} {pre : List Nat} {x : Ty}
theorem PInv.start : PInv s H TY 0 0 H (-1) [] := ⟨Nat.zero_le _, rfl, rfl, rfl, by rw [List.drop_zero, show decide ((0 : Int) ≤ -1) = false from rfl]; cases offL s H TY 0 H false <;> rfl⟩
theorem take_snoc' {α : Type} {l : List α} {i : Nat} {x : α} (h : l[i]? = some x) : l.take (i + 1) = l.take i ++ [x] := by rw [List.take_add_one, h]; rfl
theorem drop_cons' {α : Type} {l : List α} {i : Nat} {x : α} (h : l[i]? = some x) : l.drop i = x :: l.drop (i + 1) := by
  obtain ⟨h1, rfl⟩ := List.getElem?_eq_some_iff.1 h
  exact List.drop_eq_getElem_cons h1
theorem begL_nn (l : List Ty) : 0 ≤ begL l := (begL_le l).1
theorem PInv.bound (h : PInv s H TY i A la op pre) (hx : TY[i]? = some x) (hH : begL TY = (H : Int)) : (A : Int) + begT x ≤ H := by
  have e : TY = TY.take i ++ (x :: TY.drop (i + 1)) := by rw [← drop_cons' hx, List.take_append_drop]
  rw [e, begL_app, begL] at hH
  have := begL_nn (TY.drop (i + 1))
  have := h.at_
  omega
theorem PInv.len (h : PInv s H TY i A la op pre) : (psI s TY i pre).length = i := by unfold psI; rw [pairL_len, List.length_take, Nat.min_eq_left h.le]
theorem PInv.fix (h : PInv s H TY i A la op pre) (hx : TY[i]? = some x) (hf : isFix x = true) (hz : ∀ y ∈ TY, isFix y = true → 0 ≤ sizT y) : PInv s H TY (i + 1) (A + (sizT x).toNat) la op pre ∧ psI s TY (i + 1) pre = psI s TY i pre ++ [(x, A, A + (sizT x).toNat)] := by
  have h0 := hz x (List.mem_of_getElem? hx) hf
  have hlt := (List.getElem?_eq_some_iff.1 hx).1
  have h1 := h.off
  rw [drop_cons' hx, offL, if_pos hf] at h1; refine ⟨⟨hlt, ?_, ?_, ?_, h1⟩, ?_⟩
  · rw [take_snoc' hx, cV_snoc, if_pos hf]; exact h.cv
  · rw [take_snoc' hx, lastV_snoc, if_pos hf]; exact h.opv
  · rw [take_snoc' hx, begL_app, begL, begL, begT, if_pos hf, ← h.at_]; omega
  · unfold psI
    rw [take_snoc' hx, pairL_fix hf _ 0 _ (fun y hy => hz y (List.mem_of_mem_take hy)) A (by rw [h.at_]; simp)]
theorem PInv.bad (h : PInv s H TY i A la op pre) (hx : TY[i]? = some x) (hf : isFix x = false) {v : Nat} (hv : v = leV ((s.drop A).take 4)) (hb : (¬ 0 ≤ op ∧ v ≠ H) ∨ v < la ∨ s.length < v) : offL s H TY 0 H false = none := by
  subst hv
  rw [h.off, drop_cons' hx, offL, if_neg (by rw [hf]; decide), if_pos (by
    rcases hb with ⟨h1, h2⟩ | h1
    · exact .inl ⟨by simp [h1], h2⟩
    · exact .inr h1)]
  rfl
theorem PInv.var (h : PInv s H TY i A la op pre) (hx : TY[i]? = some x) (hf : isFix x = false) {v : Nat} (hv : v = leV ((s.drop A).take 4)) (h1 : 0 ≤ op ∨ v = H) (h2 : la ≤ v) (h3 : v ≤ s.length) :
    PInv s H TY (i + 1) (A + 4) v i (pre ++ [v]) ∧ (op = -1 → psI s TY (i + 1) (pre ++ [v]) = psI s TY i pre ++ [(x, v, s.length)]) ∧
      (∀ j : Nat, op = (j : Int) → ∃ x0 f0, (psI s TY i pre)[j]? = some (x0, f0, s.length) ∧ psI s TY (i + 1) (pre ++ [v]) = (psI s TY i pre).set j (x0, f0, v) ++ [(x, v, s.length)]) := by
  have hlt := (List.getElem?_eq_some_iff.1 hx).1
  have hn : ¬ isFix x = true := by rw [hf]; decide
  have hlv : leV ((s.drop A).take 4) = v := hv.symm
  have ho := h.off
  rw [drop_cons' hx, offL, if_neg hn, hlv, if_neg (by
    rintro (⟨g1, g2⟩ | g | g)
    · simp only [decide_eq_false_iff_not] at g1; omega
    · omega
    · omega), Option.map_map] at ho
  have hps : psI s TY (i + 1) (pre ++ [v]) = pairL (TY.take i) 0 (pre ++ [v]) ++ [(x, v, s.length)] := by
    unfold psI
    rw [take_snoc' hx, List.append_assoc]; exact pairL_var hn v s.length _ 0 pre h.cv
  refine ⟨⟨hlt, ?_, ?_, ?_, ?_⟩, fun e => ?_, fun j e => ?_⟩
  · rw [take_snoc' hx, cV_snoc, if_neg hn, List.length_append, h.cv]; rfl
  · rw [take_snoc' hx, lastV_snoc, if_neg hn, List.length_take, Nat.min_eq_left h.le]
  · rw [take_snoc' hx, begL_app, begL, begL, begT, if_neg hn, ← h.at_]; omega
  · rw [ho, show decide (0 ≤ (i : Int)) = true by simp]
    congr 1
    funext r
    simp
  · rw [hps, pairL_none _ 0 (pre ++ [v]) (pre ++ [s.length]) (by rw [← h.opv]; exact e)]; rfl
  · obtain ⟨x0, f0, g1, g2⟩ := pairL_to v s.length (TY.take i) 0 pre j h.cv (by rw [← h.opv]; exact e)
    exact ⟨x0, f0, g1, by rw [hps, g2]; rfl⟩
theorem PInv.done (h : PInv s H TY TY.length A la op pre) : psI s TY TY.length pre = pairL TY 0 (pre ++ [s.length]) ∧ offL s H TY 0 H false = if ¬ 0 ≤ op ∧ H ≠ s.length then none else some (pre ++ [s.length]) := by
  refine ⟨by unfold psI; rw [List.take_length], ?_⟩; rw [h.off, List.drop_length, offL]
  by_cases hc : ¬ 0 ≤ op ∧ H ≠ s.length
  · rw [if_pos hc, if_pos ⟨by simp [hc.1], hc.2⟩]; rfl
  · rw [if_neg hc, if_neg (by rintro ⟨g1, g2⟩; exact hc ⟨by simpa using g1, g2⟩)]; rfl
end
abbrev psT (k n : Int) (ins : List Ty) (s : BS) : List (Ty × Nat × Nat) := pairL (tysN k ins (manyT k n ins s).1) 0 (partsT k n ins s).1
section
variable {k n : Int} {ins : List Ty} {s : BS} {M H : Nat}
theorem parts_m (h : (manyT k n ins s).2 ≠ 0) : (partsT k n ins s).2 = (manyT k n ins s).2 := by unfold partsT; rw [if_pos h]
theorem parts_h (h0 : (manyT k n ins s).2 = 0) (hM : M = (manyT k n ins s).1) (hH : begL (tysN k ins M) = (H : Int)) (h : s.length < H) : (partsT k n ins s).2 = 2 := by
  unfold partsT; rw [if_neg (by rw [h0]; decide), ← hM, hH, if_pos (by omega)]
theorem parts_o (h0 : (manyT k n ins s).2 = 0) (hM : M = (manyT k n ins s).1) (hH : begL (tysN k ins M) = (H : Int)) (h : H ≤ s.length) : partsT k n ins s = match offL s H (tysN k ins M) 0 H false with | none => ([], 2) | some os => (os, 0) := by
  unfold partsT; rw [if_neg (by rw [h0]; decide), ← hM, hH, if_neg (by omega), Int.toNat_natCast]
  all_goals (cases offL s H (tysN k ins M) 0 H false <;> rfl)
theorem parts_n (h0 : (manyT k n ins s).2 = 0) (hM : M = (manyT k n ins s).1) (hH : begL (tysN k ins M) = (H : Int)) (h : H ≤ s.length) (ho : offL s H (tysN k ins M) 0 H false = none) : (partsT k n ins s).2 = 2 := by
  rw [parts_o h0 hM hH h, ho]
end
set_option maxRecDepth 20000 in
set_option maxHeartbeats 2000000 in
theorem X_parts {R : List (Nat × Obj)} {k n : Int} {p : Pl} {ins : List Ty} {s : BS} (ht : Ty.In R (.mk k n p ins)) (hc : chk (.mk k n p ins) 0 = 0) (hk3 : k = 3 ∨ k = 4 ∨ k = 7) (hl : s.length ≤ 100000) :
    PureX (α := { row : Row // rowOk 5 (psT k n ins s).length (prsC (psT k n ins s)) row }) Tryz.prog 84 [Ty.val (.mk k n p ins), strV s].toArray ((partsT k n ins s).2 = 0) (fun v => (partsT k n ins s).2 ≠ 0 ∧ v = wrV (partsT k n ins s).2) (fun x => rowV (psT k n ins s).length x.1) (fun x => rowL 95 (prsC (psT k n ins s)) x.1) R := by
  obtain ⟨hk8, ho, _, _⟩ := chk_mk hc
  have hmny := X_many ht hc hk3 hl
  have hmok := many_ok (s := s) hk8 ho hk3
  have hmX := inX_many (s := s) hk8 ho hk3
  obtain ⟨M, hM⟩ : ∃ M, M = (manyT k n ins s).1 := ⟨_, rfl⟩
  rw [← hM] at hmny hmok hmX
  obtain ⟨TY, hTY⟩ : ∃ TY, TY = tysN k ins M := ⟨_, rfl⟩
  have hTl : TY.length = M := by rw [hTY, tysN_len]
  have hzz : ∀ z ∈ TY, isFix z = true → 0 ≤ sizT z := fun z _ hz => by have := fix_siz hz; omega
  have hbl := begL_nn TY
  obtain ⟨H, hH⟩ : ∃ H, H = (begL TY).toNat := ⟨_, rfl⟩
  have hHi : begL TY = (H : Int) := by omega
  have hHi' : begL (tysN k ins M) = (H : Int) := by rw [← hTY]; exact hHi
  refine pureX_of_HCE Tryz.func84 rfl rfl fun w => ?_; refine HCE_seqC fun K1 hK1 => ?_; refine HC_region (HL_box (cs := #[_, _, _]) rfl rfl rfl rfl fun r1 => (HL_box (cs := #[_]) rfl rfl rfl rfl fun r2 => ?_)); refine HLm rfl ?_; refine HL_nil (hK1 _ _ _ _ ?_); refine HCE_seqC fun K2 hK2 => ?_; refine HC_region (HL_r rfl rfl rfl rfl (R_loadA (vs := [_, _, _]) rfl (known_L (k := 1) rfl) rfl rfl rfl rfl) (HL_r rfl rfl rfl rfl (R_load rfl (known_L (k := 0) rfl) rfl rfl) ?_)); refine HL_callX rfl rfl rfl (enters_of Tryz.func131 (by kernel_rfl) rfl) hmny (fun q hq => Or.inr hq) (fun hm0 _ => ?_) (fun v hv => HQ_panX rfl rfl (by rw [parts_m hv.1]; exact hv))
  have hM5 := (hmok hm0).1
  have hX := hmX hm0
  have hti := fun i (h : i < M) => ht.sub _ (inTy_get (hX i h)).2
  have hbg := S_sbegin ht (m := M) (by omega) hX
  rw [hHi'] at hbg; refine HLm rfl ?_; refine HL_nil (hK2 _ _ _ _ ?_); refine HCE_seqC fun K3 hK3 => ?_; refine HC_region (HL_r rfl rfl rfl rfl (R_loadA (vs := [_, _, _]) rfl (known_L (k := 1) rfl) rfl rfl rfl rfl) ?_); refine HLm rfl (HL_callR rfl rfl rfl (enters_of Tryz.func120 (by kernel_rfl) rfl) hbg (fun q hq => Or.inr hq) (HL_alloc (cs := #[_]) rfl rfl rfl rfl fun r3 => ?_))
  refine HL_store (k := 0) rfl rfl rfl rfl rfl rfl rfl rfl (by first | (simp only [List.setIfInBounds_toArray, List.set_cons_zero, List.set_cons_succ]; exact rfl) | exact rfl) (by first | (simp only [List.set_cons_zero, List.set_cons_succ]; exact rfl) | exact rfl) ?_; refine HL_nil (hK3 _ _ _ _ ?_); refine HCE_seqC fun K4 hK4 => ?_; refine HC_region (HL_r rfl rfl rfl rfl (R_load rfl (known_L (k := 0) rfl) rfl rfl) (HL_r rfl rfl rfl rfl (R_load rfl (known_L (k := 1) rfl) rfl rfl) ?_)); refine HL_r rfl rfl rfl rfl (R_lenBs rfl rfl) ?_; refine HLp rfl ?_; refine HL_callX rfl rfl rfl (enters_of Tryz.func42 (by kernel_rfl) rfl) (X_need (_) 2) (fun q hq => nomatch hq) (fun hok _ => ?_) (fun v hv => HQ_panX rfl rfl (bad_of (parts_h hm0 hM hHi' (by have := Z2.1 hv.1; omega)) (by decide) hv))
  have hHl : H ≤ s.length := by have := Z1.mp hok; omega
  refine HL_nil (hK4 _ _ _ _ ?_); refine HCE_seqC fun K5 hK5 => ?_; refine HC_region (HL_alloc (cs := #[_]) rfl rfl rfl rfl fun r4 => ?_); refine HL_nil (hK5 _ _ _ _ ?_); refine HCE_seqC fun K6 hK6 => ?_
  refine HC_drawB [(r3, .cells #[.int .i64 (H : Int)] 3 (0, 0))] [(0, .pure), (1, .grow (geNew ptrV (.cells #[.int .i64 0] 3 (0, 0)))), (2, .grow (geNew ptrV (.cells #[.int .i64 0] 3 (0, 0)))), (3, .grow (geNew ptrV (.cells #[.int .i64 0] 3 (0, 0)))), (4, .turn), (5, .turn), (6, .turn)] 7 [0, 1, 2, 3, 4, 5, 6] (by kernel_rfl) (by kernel_rfl) (by first | exact (fun _ h => absurd h List.not_mem_nil) | simp [SubS] | (intro p hp; simp [hp])) ?_; refine HB_p (k := 0) rfl rfl rfl rfl rfl (fun _ hS => (R_load rfl (.inl (hS _ (mem_nth (n := 0) rfl))) rfl rfl)) ?_; refine HB_alloc (k := 1) (cs := #[_]) rfl rfl rfl rfl rfl rfl fun r5 => ?_; refine HB_alloc (k := 2) (cs := #[_]) rfl rfl rfl rfl rfl rfl fun r6 => ?_; refine HB_alloc (k := 3) (cs := #[_]) rfl rfl rfl rfl rfl rfl fun r7 => ?_
  refine HB_store (k := 4) (q := 2) rfl rfl rfl rfl rfl rfl rfl rfl rfl (by first | (simp only [List.setIfInBounds_toArray, List.set_cons_zero, List.set_cons_succ]; exact rfl) | exact rfl) (by first | (simp only [List.set_cons_zero, List.set_cons_succ]; exact rfl) | exact rfl) (by first | exact (fun _ h => absurd h List.not_mem_nil) | simp [SubS] | (intro p hp; simp [hp])) ?_
  refine HB_store (k := 5) (q := 1) rfl rfl rfl rfl rfl rfl rfl rfl rfl (by first | (simp only [List.setIfInBounds_toArray, List.set_cons_zero, List.set_cons_succ]; exact rfl) | exact rfl) (by first | (simp only [List.set_cons_zero, List.set_cons_succ]; exact rfl) | exact rfl) (by first | exact (fun _ h => absurd h List.not_mem_nil) | simp [SubS] | (intro p hp; simp [hp])) ?_
  refine HB_store (k := 6) (q := 0) rfl rfl rfl rfl rfl rfl rfl rfl rfl (by first | (simp only [List.setIfInBounds_toArray, List.set_cons_zero, List.set_cons_succ]; exact rfl) | exact rfl) (by first | (simp only [List.set_cons_zero, List.set_cons_succ]; exact rfl) | exact rfl) (by first | exact (fun _ h => absurd h List.not_mem_nil) | simp [SubS] | (intro p hp; simp [hp])) ?_; refine HB_end ?_; refine HL_nil (hK6 _ _ _ _ ?_); refine HCE_seq fun K7 hK7 => ?_; refine HCE_seqC fun K8 hK8 => ?_; refine HC_region (HL_r rfl rfl rfl rfl (R_loadA (vs := [_, _, _]) rfl (known_L (k := 6) rfl) rfl rfl rfl rfl) ?_); refine HLm rfl (HL_callPE rfl rfl rfl (enters_of Tryz.func121 (by kernel_rfl) rfl) (E_items (.mk k n p ins) (M : Int)) fun pp => ?_)
  obtain ⟨ra, rb⟩ := pp
  change HL _ _ _ (iBlk rb M :: tBlk ra (.mk k n p ins) :: _) _ _ _ _; refine HL_nil (hK8 _ _ _ _ ?_); refine HCE_block ?_; refine HCE_sel [4, 3, 2, 5, 0, 1, 6, 7, 8] (L' := [_, _, _, _, _, _, _, _, _]) (by decide) rfl ?_
  refine HC_rangeX (τ := Unit) (fun ch => ∃ v, ((partsT k n ins s).2 ≠ 0 ∧ v = wrV (partsT k n ins s).2) ∧ ch = panE v) (fun i (q : Nat × Nat × Nat × Int × Row × List Nat) => q.1 = i ∧ PInv s H TY q.1 q.2.1 q.2.2.1 q.2.2.2.1 q.2.2.2.2.2 ∧ rowOk 5 q.1 (prsC (psI s TY q.1 q.2.2.2.2.2)) q.2.2.2.2.1) (fun q => (r5, .cells #[.int .i64 (q.2.1 : Int)] 3 (0, 0)) :: (r6, .cells #[.int .i64 (q.2.2.1 : Int)] 3 (0, 0)) :: (r7, .cells #[.int .i64 q.2.2.2.1] 3 (0, 0)) :: (r4, .cells #[rowV q.1 q.2.2.2.2.1] 92 (0, 0)) :: rowL 95 (prsC (psI s TY q.1 q.2.2.2.2.2)) q.2.2.2.2.1) (fun _ _ => False) (fun _ => []) [iBlk rb M, tBlk ra (.mk k n p ins), _, _, _] (0, 0, H, -1, none, []) rfl rfl (enters_of Tryz.func189 (by kernel_rfl) rfl) (I_itemsX ht (by omega) hX ra rb) (by rintro _ _ _ ⟨_, rfl, _⟩; rfl) rfl (fun q hq => by rcases List.mem_cons.1 hq with rfl | hq; exact .inl (by simp); rcases List.mem_cons.1 hq with rfl | hq; exact .inl (by simp); exact .inr hq) rfl ⟨rfl, PInv.start, rfl, rfl⟩ ?_ ?_ ?_ ?_
  · rintro q Xr Xb w3 i _ _ ⟨i2, A, la, op, row, pre⟩ ⟨hii, rfl, rfl⟩ ⟨he, hinv, hrow⟩ Kr hKr
    simp only at he hinv hrow; subst he
    have hti1 := hti i2 hii
    have hxx : TY[i2]? = some (inTy k 0 ins i2) := by rw [hTY]; unfold tysN; rw [List.getElem?_map, List.getElem?_range hii]; rfl
    have hsz := S_ssize hti1
    have hbd := hinv.bound hxx hHi
    have hbt := begT_le (inTy k 0 ins i2)
    have hbe := begT_eq (inTy k 0 ins i2)
    unfold itV
    obtain ⟨x, hx⟩ : ∃ x, x = inTy k 0 ins i2 := ⟨_, rfl⟩
    rw [← hx] at hti1 hxx hsz hbd hbt hbe ⊢
    obtain ⟨y, hy⟩ : ∃ y : Nat, begT x = (y : Int) := ⟨_, (Int.toNat_of_nonneg (by omega)).symm⟩
    rw [hy] at hsz hbd hbt hbe
    obtain ⟨xk, xn, xp, xi⟩ := x
    refine HC_seq fun K9 hK9 => HC_region ?_; refine HLm rfl ?_; refine HL_nil (hK9 _ _ _ _ ?_); refine HC_region (HL_alloc (cs := #[_, _, _]) rfl rfl rfl rfl fun r8 => ?_)
    refine HL_storeA (k := 0) (n := 3) (cs' := #[_, _, _]) (vs := #[_, _, _]) rfl rfl rfl rfl rfl rfl rfl (by exact Nat.le_of_ble_eq_true rfl) rfl (by first | (simp only [List.set_cons_zero, List.set_cons_succ]; exact rfl) | exact rfl) ?_; refine HL_nil ?_; refine hKr _ _ ?_; clear hKr; refine HC_block (HC_seq fun K10 hK10 => HC_region (HL_r rfl rfl rfl rfl (R_loadArr (xs := Ty.cells (.mk xk xn xp xi)) (n := 3) rfl (known_L (k := 0) rfl) rfl rfl (Ty.len _)) ?_)); refine HL_callR rfl rfl rfl (enters_of Tryz.func122 (by kernel_rfl) rfl) hsz (fun q hq => Or.inr (List.mem_append_right _ hq)) ?_; refine HLm rfl (HL_r rfl rfl rfl rfl (R_extract rfl rfl) (HL_r rfl rfl rfl rfl (R_extract rfl rfl) ?_)); refine HLm rfl (HLm rfl ?_); refine HL_nil (hK10 _ _ _ _ ?_); refine HC_seq fun K11 hK11 => HC_region ?_; refine HL_r rfl rfl rfl rfl (R_loadArr (xs := Ty.cells (.mk xk xn xp xi)) (n := 3) rfl (known_L (k := 0) rfl) rfl rfl (Ty.len _)) ?_; refine HL_r rfl rfl rfl rfl (R_load rfl (known_L (k := 1) rfl) rfl rfl) ?_; refine HL_r rfl rfl rfl rfl (R_load rfl (known_L (k := 1) rfl) rfl rfl) ?_; refine HLm rfl (HLp rfl ?_); refine HL_as (show _ = Value.int .i64 ((A + y : Nat)) from congrArg (Value.int .i64) (by rw [wrap_i64 (by omega) (by omega)]; omega)) ?_; refine HL_r rfl rfl rfl rfl (R_build (r := [_, _, _, _, _]) rfl rfl) ?_; refine HL_alloc (cs := #[_, _, _, _, _]) rfl rfl rfl rfl fun r9 => ?_
    refine HL_storeA (k := 0) (n := 5) (cs' := #[_, _, _, _, _]) (vs := #[_, _, _, _, _]) rfl rfl rfl rfl rfl rfl rfl (by exact Nat.le_of_ble_eq_true rfl) rfl (by first | (simp only [List.set_cons_zero, List.set_cons_succ]; exact rfl) | exact rfl) ?_; refine HL_nil (hK11 _ _ _ _ ?_); refine HC_seq fun K12 hK12 => ?_; refine HC_seq fun K13 hK13 => HC_region ?_; refine HLm rfl (HLp rfl ?_); refine HL_nil (hK13 _ _ _ _ ?_); refine HC_cond rfl (fun h14 => ?_) (fun h14 => ?_)
    · try exact Bool.noConfusion h14
      try simp only [ZZ] at h14
      refine HC_seq fun K15 hK15 => ?_
      have hff : isFix (Ty.mk xk xn xp xi) = false := ‹_›
      rw [hff, if_neg (by decide)] at hbe; refine HC_region (HL_r rfl rfl rfl rfl (R_load rfl (known_R (k := 3) rfl) rfl rfl) (HL_r rfl rfl rfl rfl (R_load rfl (known_L (k := 2) rfl) rfl rfl) ?_)); refine HL_r rfl rfl rfl rfl (R_sliceBs (kl := some (.i64, (A : Int))) (kh := none) (m := A) (n := s.length) rfl rfl rfl rfl rfl rfl (by omega) (by omega) (show _ = s.drop A from by rw [List.take_length])) ?_; refine HL_callP rfl rfl rfl (enters_of Tryz.func132 (by kernel_rfl) rfl) (P_low (s := s.drop A) (by rw [List.length_drop]; omega)) ?_
      obtain ⟨v, hv⟩ : ∃ v, v = leV ((s.drop A).take 4) := ⟨_, rfl⟩
      rw [← hv]
      refine HL_r rfl rfl rfl rfl (R_fieldAddr rfl rfl (by first | (simp only [Nat.zero_add, Nat.reduceAdd, Nat.reduceMul, Nat.zero_mul, Nat.mul_one, Nat.add_zero]; exact rfl) | exact rfl)) ?_
      refine HL_store (k := 0) rfl rfl rfl rfl rfl rfl rfl rfl (by first | (simp only [List.setIfInBounds_toArray, List.set_cons_zero, List.set_cons_succ]; exact rfl) | exact rfl) (by first | (simp only [List.set_cons_zero, List.set_cons_succ]; exact rfl) | exact rfl) ?_; refine HL_nil (hK15 _ _ _ _ ?_); refine HC_seq fun K16 hK16 => HC_region ?_
      refine HL_r rfl rfl rfl rfl (R_fieldAddr rfl rfl (by first | (simp only [Nat.zero_add, Nat.reduceAdd, Nat.reduceMul, Nat.zero_mul, Nat.mul_one, Nat.add_zero]; exact rfl) | exact rfl)) ?_; refine HL_r rfl rfl rfl rfl (R_load rfl (known_L (k := 0) rfl) rfl rfl) ?_; refine HL_r rfl rfl rfl rfl (R_load rfl (known_L (k := 3) rfl) rfl rfl) ?_; refine HLp rfl (HLm rfl ?_)
      refine HL_case 55 rfl (fun hb17 => ?_) (fun hb17 => ?_) <;> (try simp only [ZZ] at hb17) <;> first | (refine HL_r rfl rfl rfl rfl (R_fieldAddr rfl rfl (by first | (simp only [Nat.zero_add, Nat.reduceAdd, Nat.reduceMul, Nat.zero_mul, Nat.mul_one, Nat.add_zero]; exact rfl) | exact rfl)) ?_) | (refine HL_skip rfl rfl rfl ?_)
      all_goals first
        | (refine HL_r rfl rfl rfl rfl (R_load rfl (known_L (k := 0) rfl) rfl rfl) ?_)
        | (refine HL_skip rfl rfl rfl ?_)
      all_goals first
        | (refine HL_r rfl rfl rfl rfl (R_load rfl (known_R (k := 3) rfl) rfl rfl) ?_)
        | (refine HL_skip rfl rfl rfl ?_)
      all_goals first
        | (refine HL_r rfl rfl rfl rfl (R_lenBs rfl rfl) ?_)
        | (refine HL_skip rfl rfl rfl ?_)
      all_goals first
        | (refine HLp rfl ?_)
        | (refine HL_skip rfl rfl rfl ?_)
      all_goals first
        | (refine HL_r rfl rfl rfl rfl (R_pickT rfl rfl) ?_)
        | (refine HL_r rfl rfl rfl rfl (R_pickF rfl rfl) ?_)
      all_goals refine HLm rfl ?_
      all_goals first
        | (refine HL_skip rfl rfl rfl ?_)
        | (refine HL_case 62 rfl (fun hb22 => ?_) (fun hb22 => ?_) <;> (try simp only [ZZ] at hb22) <;> first | (refine HL_r rfl rfl rfl rfl (R_load rfl (known_L (k := 0) rfl) rfl rfl) ?_) | (refine HL_r rfl rfl rfl rfl (R_load rfl (known_L (k := 1) rfl) rfl rfl) ?_) | (refine HL_r rfl rfl rfl rfl (R_load rfl (known_L (k := 2) rfl) rfl rfl) ?_) | (refine HL_r rfl rfl rfl rfl (R_load rfl (known_L (k := 3) rfl) rfl rfl) ?_) | (refine HL_r rfl rfl rfl rfl (R_load rfl (known_L (k := 4) rfl) rfl rfl) ?_) | (refine HL_r rfl rfl rfl rfl (R_load rfl (known_L (k := 5) rfl) rfl rfl) ?_) | (refine HL_r rfl rfl rfl rfl (R_load rfl (known_L (k := 6) rfl) rfl rfl) ?_) | (refine HL_r rfl rfl rfl rfl (R_load rfl (known_R (k := 0) rfl) rfl rfl) ?_) | (refine HL_r rfl rfl rfl rfl (R_load rfl (known_R (k := 1) rfl) rfl rfl) ?_) | (refine HL_r rfl rfl rfl rfl (R_load rfl (known_R (k := 2) rfl) rfl rfl) ?_) | (refine HL_r rfl rfl rfl rfl (R_load rfl (known_R (k := 3) rfl) rfl rfl) ?_) | (refine HL_r rfl rfl rfl rfl (R_load rfl (known_R (k := 4) rfl) rfl rfl) ?_) | (refine HL_skip rfl rfl rfl ?_))
      all_goals first
        | (refine HLp rfl ?_)
        | (refine HL_skip rfl rfl rfl ?_)
      all_goals first
        | (refine HLm rfl ?_)
        | (refine HL_skip rfl rfl rfl ?_)
      all_goals first
        | (refine HL_skip rfl rfl rfl ?_)
        | (refine HL_case 65 rfl (fun hb25 => ?_) (fun hb25 => ?_) <;> (try simp only [ZZ] at hb25) <;> first | (refine HL_r rfl rfl rfl rfl (R_fieldAddr rfl rfl (by first | (simp only [Nat.zero_add, Nat.reduceAdd, Nat.reduceMul, Nat.zero_mul, Nat.mul_one, Nat.add_zero]; exact rfl) | exact rfl)) ?_) | (refine HL_skip rfl rfl rfl ?_))
      all_goals first
        | (refine HL_r rfl rfl rfl rfl (R_load rfl (known_L (k := 0) rfl) rfl rfl) ?_)
        | (refine HL_skip rfl rfl rfl ?_)
      all_goals first
        | (refine HL_r rfl rfl rfl rfl (R_load rfl (known_R (k := 2) rfl) rfl rfl) ?_)
        | (refine HL_skip rfl rfl rfl ?_)
      all_goals first
        | (refine HLp rfl ?_)
        | (refine HL_skip rfl rfl rfl ?_)
      all_goals first
        | (refine HL_r rfl rfl rfl rfl (R_pickT rfl rfl) ?_)
        | (refine HL_r rfl rfl rfl rfl (R_pickF rfl rfl) ?_)
        | (refine HL_skip rfl rfl rfl ?_)
      all_goals first
        | (refine HL_r rfl rfl rfl rfl (R_pickT rfl rfl) ?_)
        | (refine HL_r rfl rfl rfl rfl (R_pickF rfl rfl) ?_)
      all_goals refine HL_callX rfl rfl rfl (enters_of Tryz.func42 (by kernel_rfl) rfl) (X_need (_) 2) (fun q hq => nomatch hq) (fun hok _ => ?_) (fun v1 hv1 => by first | exact Bool.noConfusion hv1.1 | ((repeat (first | refine HQ_thenP ?_ | refine HQ_blockP ?_)); exact HQ_roundX ⟨v1, bad_of (parts_n hm0 hM hHi' hHl (by rw [← hTY]; exact hinv.bad hxx hff hv (by first | (refine .inr (.inl ?_); omega) | (refine .inr (.inr ?_); omega) | (refine .inl ⟨?_, fun e => ?_⟩; omega; have := Z4.1 hv1.1; omega)))) (by decide) hv1, rfl⟩))
      all_goals try exact Bool.noConfusion hok
      all_goals refine HL_nil ?_
      all_goals (
       refine hK16 _ _ _ _ ?_; refine HC_seq fun K30 hK30 => ?_; refine HC_seq fun K31 hK31 => ?_
       obtain ⟨hvi, hvn, hvj⟩ := hinv.var hxx hff hv (by first | (left; omega) | (right; have := Z3.1 hok; omega)) (by omega) (by omega)
       refine HC_region (HL_r rfl rfl rfl rfl (R_load rfl (known_L (k := 4) rfl) rfl rfl) (HLp rfl ?_)); refine HL_nil (hK31 _ _ _ _ ?_); refine HC_cond rfl (fun h32 => ?_) (fun h32 => ?_)
       · try exact Bool.noConfusion h32
         try simp only [ZZ] at h32
         obtain ⟨j, hj0⟩ : ∃ j : Nat, op = (j : Int) := ⟨op.toNat, by omega⟩
         have hj : j < i2 := by have := hinv.opv; have := lastV_ge (TY.take i2); rw [List.length_take, Nat.min_eq_left hinv.le] at this; omega
         obtain ⟨rr, cap, sp, rfl⟩ := row_some hrow (by omega)
         obtain ⟨x0, f0, g1, g2⟩ := hvj j hj0
         have hjp : j * 5 + 4 < (prsC (psI s TY i2 pre)).length := by rw [prsC_len, hinv.len]; omega
         have hjl : j * 5 + 4 < (prsC (psI s TY i2 pre) ++ sp).length := by rw [List.length_append]; omega
         have hrowJ : rowOk 5 i2 (prsC ((psI s TY i2 pre).set j (x0, f0, v))) (some (rr, cap, sp)) := ⟨by rw [prsC_len, List.length_set, hinv.len], hrow.2⟩
         refine HC_region (HL_r rfl rfl rfl rfl (R_load (v := rowV i2 (some (rr, cap, sp))) rfl (known_L (k := 5) rfl) rfl rfl) (HL_r rfl rfl rfl rfl (R_load rfl (known_L (k := 4) rfl) rfl rfl) ?_))
         refine HL_r rfl rfl rfl rfl (R_fieldAddr rfl rfl (by first | (simp only [Nat.zero_add, Nat.reduceAdd, Nat.reduceMul, Nat.zero_mul, Nat.mul_one, Nat.add_zero]; exact rfl) | exact rfl)) ?_; refine HL_r rfl rfl rfl rfl (R_load rfl (known_L (k := 0) rfl) rfl rfl) ?_; refine HL_r rfl rfl rfl rfl (R_indexRow (row := some (rr, cap, sp)) (j := j) (m := 5) (off' := j * 5) rfl hrow rfl rfl rfl hj0 hj rfl) ?_; refine HL_r rfl rfl rfl rfl (R_fieldAddr (off' := j * 5 + 4) rfl rfl rfl) ?_; refine HL_store (k := 6) (cs' := (prsC ((psI s TY i2 pre).set j (x0, f0, v)) ++ sp).toArray) rfl rfl rfl rfl rfl rfl (by rw [List.getElem?_toArray, List.getElem?_eq_getElem hjl]; rfl) (frB0 _) (by rw [List.setIfInBounds_toArray, List.set_append_left _ _ hjp, prsC_set v g1]) rfl ?_; refine HL_nil (hK30 _ _ _ _ ?_); refine HC_region (HL_r rfl rfl rfl rfl (R_load rfl (known_R (k := 3) rfl) rfl rfl) (HL_r rfl rfl rfl rfl (R_lenBs rfl rfl) ?_))
         refine HL_r rfl rfl rfl rfl (R_fieldAddr rfl rfl (by first | (simp only [Nat.zero_add, Nat.reduceAdd, Nat.reduceMul, Nat.zero_mul, Nat.mul_one, Nat.add_zero]; exact rfl) | exact rfl)) ?_; refine HL_r rfl rfl rfl rfl (R_load rfl (known_L (k := 0) rfl) rfl rfl) ?_; refine HLm rfl ?_
         refine HL_r rfl rfl rfl rfl (R_fieldAddr rfl rfl (by first | (simp only [Nat.zero_add, Nat.reduceAdd, Nat.reduceMul, Nat.zero_mul, Nat.mul_one, Nat.add_zero]; exact rfl) | exact rfl)) ?_
         refine HL_store (k := 0) rfl rfl rfl rfl rfl rfl rfl rfl (by first | (simp only [List.setIfInBounds_toArray, List.set_cons_zero, List.set_cons_succ]; exact rfl) | exact rfl) (by first | (simp only [List.set_cons_zero, List.set_cons_succ]; exact rfl) | exact rfl) ?_
         refine HL_store (k := 3) rfl rfl rfl rfl rfl rfl rfl rfl (by first | (simp only [List.setIfInBounds_toArray, List.set_cons_zero, List.set_cons_succ]; exact rfl) | exact rfl) (by first | (simp only [List.set_cons_zero, List.set_cons_succ]; exact rfl) | exact rfl) ?_
         refine HL_store (k := 4) rfl rfl rfl rfl rfl rfl rfl rfl (by first | (simp only [List.setIfInBounds_toArray, List.set_cons_zero, List.set_cons_succ]; exact rfl) | exact rfl) (by first | (simp only [List.set_cons_zero, List.set_cons_succ]; exact rfl) | exact rfl) ?_; refine HL_nil (hK12 _ _ _ _ ?_); refine HC_seq fun K33 hK33 => HC_region ?_; refine HL_r rfl rfl rfl rfl (R_load (v := rowV i2 (some (rr, cap, sp))) rfl (known_L (k := 5) rfl) rfl rfl) ?_; refine HL_r rfl rfl rfl rfl (R_loadA (vs := [_, _, _, _, _]) rfl (known_L (k := 0) rfl) rfl rfl rfl rfl) ?_; refine HL_buildSlice (vs := [_]) (zs := [_, _, _, _, _]) (r := [_, _, _, _, _]) rfl rfl rfl rfl rfl rfl rfl rfl rfl (by rw [made_list]; exact rfl) rfl fun r10 => ?_; refine HL_appendRow (L0 := [_, _, _, _, _, _, _]) (xs := prsC ((psI s TY i2 pre).set j (x0, f0, v))) (row := some (rr, cap, sp)) (n := i2) (sz := 5) (b := 56) (news := [_, _, _, _, _]) (List.perm_append_comm (l₁ := [_, _, _, _, _, _, _])) rfl rfl rfl rfl (known_L (k := 0) rfl) rfl rfl rfl rfl rfl (by decide) rfl rfl rfl (by decide) hrowJ (by omega) (by omega) fun ra2 cap2 sp2 hra => ?_; refine HL_store (k := 7) (cs' := #[rowV (i2 + 1) (some (ra2, cap2, sp2))]) rfl rfl rfl rfl rfl rfl rfl rfl rfl rfl ?_; refine HL_nil (hK33 _ _ _ _ ?_); refine HC_region (HL_r rfl rfl rfl rfl (R_load rfl (known_L (k := 4) rfl) rfl rfl) ?_); refine HLm rfl (HLp rfl ?_); refine HL_as (show _ = Value.int .i64 ((A + y : Nat)) from congrArg (Value.int .i64) (by rw [wrap_i64 (by omega) (by omega)]; omega)) ?_
         refine HL_store (k := 4) rfl rfl rfl rfl rfl rfl rfl rfl (by first | (simp only [List.setIfInBounds_toArray, List.set_cons_zero, List.set_cons_succ]; exact rfl) | exact rfl) (by first | (simp only [List.set_cons_zero, List.set_cons_succ]; exact rfl) | exact rfl) ?_; refine HL_nil ?_; refine HQ_blockN (HQ_sel [4, 5, 6, 7, 0] (L' := [_, _, _, _, _]) (by decide) rfl ?_)
         (obtain rfl : y = 4 := by omega
          exact HQ_roundN (i2 + 1, A + 4, v, (i2 : Int), some (ra2, cap2, sp2), pre ++ [v]) ⟨rfl, hvi, by simp only; rw [g2, prsC_snoc]; exact hra⟩ (by simp only; rw [g2, prsC_snoc]; exact ⟨List.Sublist.refl _, List.Sublist.refl _⟩))
       · try exact Bool.noConfusion h32
         try simp only [ZZ] at h32
         refine HC_skip (hK30 _ _ _ _ ?_); refine HC_region (HL_r rfl rfl rfl rfl (R_load rfl (known_R (k := 3) rfl) rfl rfl) (HL_r rfl rfl rfl rfl (R_lenBs rfl rfl) ?_))
         refine HL_r rfl rfl rfl rfl (R_fieldAddr rfl rfl (by first | (simp only [Nat.zero_add, Nat.reduceAdd, Nat.reduceMul, Nat.zero_mul, Nat.mul_one, Nat.add_zero]; exact rfl) | exact rfl)) ?_; refine HL_r rfl rfl rfl rfl (R_load rfl (known_L (k := 0) rfl) rfl rfl) ?_; refine HLm rfl ?_
         refine HL_r rfl rfl rfl rfl (R_fieldAddr rfl rfl (by first | (simp only [Nat.zero_add, Nat.reduceAdd, Nat.reduceMul, Nat.zero_mul, Nat.mul_one, Nat.add_zero]; exact rfl) | exact rfl)) ?_
         refine HL_store (k := 0) rfl rfl rfl rfl rfl rfl rfl rfl (by first | (simp only [List.setIfInBounds_toArray, List.set_cons_zero, List.set_cons_succ]; exact rfl) | exact rfl) (by first | (simp only [List.set_cons_zero, List.set_cons_succ]; exact rfl) | exact rfl) ?_
         refine HL_store (k := 3) rfl rfl rfl rfl rfl rfl rfl rfl (by first | (simp only [List.setIfInBounds_toArray, List.set_cons_zero, List.set_cons_succ]; exact rfl) | exact rfl) (by first | (simp only [List.set_cons_zero, List.set_cons_succ]; exact rfl) | exact rfl) ?_
         refine HL_store (k := 4) rfl rfl rfl rfl rfl rfl rfl rfl (by first | (simp only [List.setIfInBounds_toArray, List.set_cons_zero, List.set_cons_succ]; exact rfl) | exact rfl) (by first | (simp only [List.set_cons_zero, List.set_cons_succ]; exact rfl) | exact rfl) ?_; refine HL_nil (hK12 _ _ _ _ ?_); refine HC_seq fun K34 hK34 => HC_region ?_; refine HL_r rfl rfl rfl rfl (R_load (v := rowV i2 row) rfl (known_L (k := 5) rfl) rfl rfl) ?_; refine HL_r rfl rfl rfl rfl (R_loadA (vs := [_, _, _, _, _]) rfl (known_L (k := 0) rfl) rfl rfl rfl rfl) ?_; refine HL_buildSlice (vs := [_]) (zs := [_, _, _, _, _]) (r := [_, _, _, _, _]) rfl rfl rfl rfl rfl rfl rfl rfl rfl (by rw [made_list]; exact rfl) rfl fun r11 => ?_; refine HL_appendRow (L0 := [_, _, _, _, _, _, _]) (xs := prsC (psI s TY i2 pre)) (row := row) (n := i2) (sz := 5) (b := 56) (news := [_, _, _, _, _]) (List.perm_append_comm (l₁ := [_, _, _, _, _, _, _])) rfl rfl rfl rfl (known_L (k := 0) rfl) rfl rfl rfl rfl rfl (by decide) rfl rfl rfl (by decide) hrow (by omega) (by omega) fun ra2 cap2 sp2 hra => ?_; refine HL_store (k := 7) (cs' := #[rowV (i2 + 1) (some (ra2, cap2, sp2))]) rfl rfl rfl rfl rfl rfl rfl rfl rfl rfl ?_; refine HL_nil (hK34 _ _ _ _ ?_); refine HC_region (HL_r rfl rfl rfl rfl (R_load rfl (known_L (k := 4) rfl) rfl rfl) ?_); refine HLm rfl (HLp rfl ?_); refine HL_as (show _ = Value.int .i64 ((A + y : Nat)) from congrArg (Value.int .i64) (by rw [wrap_i64 (by omega) (by omega)]; omega)) ?_
         refine HL_store (k := 4) rfl rfl rfl rfl rfl rfl rfl rfl (by first | (simp only [List.setIfInBounds_toArray, List.set_cons_zero, List.set_cons_succ]; exact rfl) | exact rfl) (by first | (simp only [List.set_cons_zero, List.set_cons_succ]; exact rfl) | exact rfl) ?_; refine HL_nil ?_; refine HQ_blockN (HQ_sel [4, 5, 6, 7, 0] (L' := [_, _, _, _, _]) (by decide) rfl ?_)
         (obtain rfl : y = 4 := by omega
          have g3 := hvn (by have := hinv.opv; have := lastV_ge (TY.take i2); omega)
          exact HQ_roundN (i2 + 1, A + 4, v, (i2 : Int), some (ra2, cap2, sp2), pre ++ [v]) ⟨rfl, hvi, by simp only; rw [g3, prsC_snoc]; exact hra⟩ (by simp only; rw [g3, prsC_snoc]; exact ⟨List.Sublist.refl _, List.Sublist.refl _⟩))
       skip)
    · try exact Bool.noConfusion h14
      try simp only [ZZ] at h14
      refine HC_skip (hK12 _ _ _ _ ?_); refine HC_seq fun K35 hK35 => HC_region ?_; refine HL_r rfl rfl rfl rfl (R_load (v := rowV i2 row) rfl (known_L (k := 5) rfl) rfl rfl) ?_; refine HL_r rfl rfl rfl rfl (R_loadA (vs := [_, _, _, _, _]) rfl (known_L (k := 0) rfl) rfl rfl rfl rfl) ?_; refine HL_buildSlice (vs := [_]) (zs := [_, _, _, _, _]) (r := [_, _, _, _, _]) rfl rfl rfl rfl rfl rfl rfl rfl rfl (by rw [made_list]; exact rfl) rfl fun r12 => ?_; refine HL_appendRow (L0 := [_, _, _, _, _, _, _]) (xs := prsC (psI s TY i2 pre)) (row := row) (n := i2) (sz := 5) (b := 56) (news := [_, _, _, _, _]) (List.perm_append_comm (l₁ := [_, _, _, _, _, _, _])) rfl rfl rfl rfl (known_L (k := 0) rfl) rfl rfl rfl rfl rfl (by decide) rfl rfl rfl (by decide) hrow (by omega) (by omega) fun ra2 cap2 sp2 hra => ?_; refine HL_store (k := 7) (cs' := #[rowV (i2 + 1) (some (ra2, cap2, sp2))]) rfl rfl rfl rfl rfl rfl rfl rfl rfl rfl ?_; refine HL_nil (hK35 _ _ _ _ ?_); refine HC_region (HL_r rfl rfl rfl rfl (R_load rfl (known_L (k := 4) rfl) rfl rfl) ?_); refine HLm rfl (HLp rfl ?_); refine HL_as (show _ = Value.int .i64 ((A + y : Nat)) from congrArg (Value.int .i64) (by rw [wrap_i64 (by omega) (by omega)]; omega)) ?_
      refine HL_store (k := 4) rfl rfl rfl rfl rfl rfl rfl rfl (by first | (simp only [List.setIfInBounds_toArray, List.set_cons_zero, List.set_cons_succ]; exact rfl) | exact rfl) (by first | (simp only [List.set_cons_zero, List.set_cons_succ]; exact rfl) | exact rfl) ?_; refine HL_nil ?_; refine HQ_blockN (HQ_sel [4, 5, 6, 7, 0] (L' := [_, _, _, _, _]) (by decide) rfl ?_)
      (have hfx : isFix (Ty.mk xk xn xp xi) = true := ‹_›
       rw [hfx, if_pos rfl] at hbe
       obtain ⟨f1, f2⟩ := hinv.fix hxx hfx hzz
       rw [show (sizT (Ty.mk xk xn xp xi)).toNat = y by omega] at f1 f2
       exact HQ_roundN (i2 + 1, A + y, la, op, some (ra2, cap2, sp2), pre) ⟨rfl, f1, by simp only; rw [f2, prsC_snoc]; exact hra⟩ (by simp only; rw [f2, prsC_snoc]; exact ⟨List.Sublist.refl _, List.Sublist.refl _⟩))
  · rintro D i ⟨i2, A, la, op, row, pre⟩ hfi ⟨he, hinv, hrow⟩
    simp only at he hinv hrow
    have hin : i = M := hfi
    have he2 : i2 = TY.length := by omega
    subst he2
    have hfin := hinv.done
    refine HQ_blockN (hK7 _ _ _ _ ?_); refine HCE_seqC fun K36 hK36 => ?_; refine HC_region (HL_r rfl rfl rfl rfl (R_load (v := .int .i64 op) rfl (known_L (k := 3) rfl) rfl rfl) ?_); refine HLp rfl (HLm rfl ?_)
    refine HL_case 96 rfl (fun hb37 => ?_) (fun hb37 => ?_) <;> (try simp only [ZZ] at hb37) <;> first | (refine HL_r rfl rfl rfl rfl (R_load (v := .int .i64 (H : Int)) rfl (Or.inl (List.mem_cons_of_mem _ (List.mem_append_right _ (List.mem_cons_of_mem _ (List.mem_cons_of_mem _ List.mem_cons_self))))) rfl rfl) ?_) | (refine HL_skip rfl rfl rfl ?_)
    all_goals first
      | (refine HL_r rfl rfl rfl rfl (R_load (v := strV s) rfl (Or.inl (List.mem_cons_of_mem _ (List.mem_append_right _ (List.mem_cons_of_mem _ (List.mem_cons_of_mem _ (List.mem_cons_of_mem _ List.mem_cons_self)))))) rfl rfl) ?_)
      | (refine HL_skip rfl rfl rfl ?_)
    all_goals first
      | (refine HL_r rfl rfl rfl rfl (R_lenBs rfl rfl) ?_)
      | (refine HL_skip rfl rfl rfl ?_)
    all_goals first
      | (refine HLp rfl ?_)
      | (refine HL_skip rfl rfl rfl ?_)
    all_goals first
      | (refine HL_r rfl rfl rfl rfl (R_pickT rfl rfl) ?_)
      | (refine HL_r rfl rfl rfl rfl (R_pickF rfl rfl) ?_)
    all_goals refine HL_callX rfl rfl rfl (enters_of Tryz.func42 (by kernel_rfl) rfl) (X_need (_) 2) (fun q hq => nomatch hq) (fun hok _ => ?_) (fun v hv => by first | exact Bool.noConfusion hv.1 | exact HQ_panMk (k := 0) rfl rfl (HQ_panX rfl rfl (bad_of (parts_n hm0 hM hHi' hHl (by rw [← hTY]; exact (hfin.2).trans (if_pos ⟨by omega, fun e => by have := Z4.1 hv.1; omega⟩))) (by decide) hv)))
    all_goals refine HL_nil ?_
    all_goals (
     refine hK36 _ _ _ _ ?_; refine HCE_seqC fun K41 hK41 => ?_; refine HC_region (HL_r rfl rfl rfl rfl (R_load (v := rowV TY.length row) rfl (known_L (k := 4) rfl) rfl rfl) (HLm rfl ?_)); refine HL_nil (hK41 _ _ _ _ ?_); refine HCE_of ?_; refine HC_ret ?_
     have hpo := parts_o hm0 hM hHi' hHl
     rw [← hTY, hfin.2, if_neg (by first | (rintro ⟨g1, g2⟩; omega) | (rintro ⟨g1, g2⟩; have := Z3.1 hok; omega))] at hpo; simp only at hpo
     have hps : psT k n ins s = psI s TY TY.length pre := by unfold psT; rw [hpo, ← hM, ← hTY, hfin.1]
     rw [hps]; refine HQ_mark (k := 0) rfl rfl ?_; refine HQ_post rfl rfl (.cons (res_tmp rfl) .nil) (fun w1 hs1 => ?_); exact .inl ⟨by rw [hpo], ⟨row, by rw [hinv.len]; exact hrow⟩, congrArg (fun m => Ending.returned (rowV m row)) hinv.len.symm, hs1.weakL (.cons _ (.cons _ (.cons _ (.cons _ (.cons _ (List.sublist_append_left _ _))))))⟩
     skip)
  · exact fun _ _ _ h => h.elim
  · rintro D _ ⟨v, hv, rfl⟩
    exact HQ_panMk (k := 0) rfl rfl (HQ_panX rfl rfl hv)
end Go.Proofs.YtlcbfphioeppaaaGreatDoor
namespace Go.Proofs.YtlcbfphioeppaaaGreatDoor
set_option linter.all false
open Go.SL Go.RowKit Go.Shelf
open Go.Proofs (Enters enters_of)
/-! ### get, in plain Lean: rows part by part; values that are laid anew -/
theorem runG_snoc : ∀ {l : List (Gf × BS)} {vs : List Vl} {f : Gf} {s : BS} {v : Vl}, runG l = (vs, 0) → f s = (v, 0) → runG (l ++ [(f, s)]) = (vs ++ [v], 0)
  | [], vs, f, s, v, h, hv => by
    rw [runG] at h
    obtain rfl := (Prod.mk.inj h).1
    rw [List.nil_append, runG, runG, hv, if_neg (by simp), if_neg (by simp)]; rfl
  | (f', s') :: l, vs, f, s, v, h, hv => by
    rw [runG] at h
    by_cases h1 : (f' s').2 ≠ 0
    · rw [if_pos h1] at h; exact absurd (Prod.mk.inj h).2 h1
    rw [if_neg h1] at h
    by_cases h2 : (runG l).2 ≠ 0
    · rw [if_pos h2] at h; exact absurd (Prod.mk.inj h).2 h2
    rw [if_neg h2] at h
    obtain rfl := (Prod.mk.inj h).1
    have ih := runG_snoc (l := l) (vs := (runG l).1) (Prod.ext rfl (Decidable.not_not.1 h2)) hv
    rw [List.cons_append, runG, if_neg h1, ih, if_neg (by simp)]; rfl
theorem runG_bad : ∀ {l r : List (Gf × BS)} {vs : List Vl} {f : Gf} {s : BS}, runG l = (vs, 0) → (f s).2 ≠ 0 → (runG (l ++ (f, s) :: r)).2 = (f s).2
  | [], r, vs, f, s, _, hv => by rw [List.nil_append, runG, if_pos hv]
  | (f', s') :: l, r, vs, f, s, h, hv => by
    rw [runG] at h
    by_cases h1 : (f' s').2 ≠ 0
    · rw [if_pos h1] at h; exact absurd (Prod.mk.inj h).2 h1
    rw [if_neg h1] at h
    by_cases h2 : (runG l).2 ≠ 0
    · rw [if_pos h2] at h; exact absurd (Prod.mk.inj h).2 h2
    have ih := runG_bad (r := r) (l := l) (vs := (runG l).1) (Prod.ext rfl (Decidable.not_not.1 h2)) hv
    rw [List.cons_append, runG, if_neg h1, if_pos (by rw [ih]; exact hv)]; exact ih
theorem pairs_ok {s : BS} {H : Nat} (hH : H ≤ s.length) : ∀ {ts : List Ty} {a la : Nat} {op : Bool} {os : List Nat}, offL s H ts a la op = some os → la ≤ s.length → (op = false → la = H) → (∀ x ∈ ts, isFix x = true → 0 ≤ sizT x) → (a : Int) + begL ts = H → ∀ q ∈ pairL ts a os, q.2.1 ≤ q.2.2 ∧ q.2.2 ≤ s.length
  | [], _, _, _, _, _, _, _, _, _, q, hq => by rw [pairL] at hq; cases hq
  | x :: xs, a, la, op, os, h, hla, hop, hz, hb, q, hq => by
    have hz2 : ∀ y ∈ xs, isFix y = true → 0 ≤ sizT y := fun y hy => hz y (List.mem_cons_of_mem _ hy)
    have hn := begL_nn xs
    rw [begL, begT] at hb; rw [offL] at h; rw [pairL] at hq
    by_cases hf : isFix x = true
    · rw [if_pos hf] at h hb hq
      have h0 := hz x List.mem_cons_self hf
      rcases List.mem_cons.1 hq with rfl | hq
      · simp only; omega
      · exact pairs_ok hH h hla hop hz2 (by omega) q hq
    · rw [if_neg hf] at h hb hq
      split at h
      · cases h
      · rename_i h1
        obtain ⟨r, h2, rfl⟩ := Option.map_eq_some_iff.1 h
        obtain ⟨o, r2, rfl, g1, g2, _⟩ := offL_ge h2 (by omega) (fun h => by cases h)
        rcases List.mem_cons.1 hq with rfl | hq
        · exact ⟨g1, g2⟩
        · exact pairs_ok hH h2 (by omega) (fun h => by cases h) hz2 (by omega) q hq
def gq (s : BS) (q : Ty × Nat × Nat) : Gf × BS := (getT q.1, (s.take q.2.2).drop q.2.1)
theorem zip_map_same {α β γ : Type} (f : α → β) (g : α → γ) : ∀ l : List α, (l.map f).zip (l.map g) = l.map fun a => (f a, g a)
  | [] => rfl
  | x :: xs => by rw [List.map_cons, List.map_cons, List.zip_cons_cons, zip_map_same f g xs]; rfl
theorem rowT_eq {k n : Int} {ins : List Ty} {s : BS} (hX : (manyT k n ins s).2 = 0 → ∀ i, i < (manyT k n ins s).1 → inX k 0 i < ins.length) :
    rowT k n ins (getF ins) s = if (partsT k n ins s).2 ≠ 0 then (v0L, (partsT k n ins s).2) else if (runG ((psT k n ins s).map (gq s))).2 ≠ 0 then (v0L, (runG ((psT k n ins s).map (gq s))).2) else (mkItems (runG ((psT k n ins s).map (gq s))).1 0, 0) := by
  unfold rowT
  by_cases hm : (manyT k n ins s).2 ≠ 0
  · rw [if_pos hm, if_pos (by rw [parts_m hm]; exact hm), parts_m hm]
  rw [if_neg hm]
  have hm0 := Decidable.not_not.1 hm
  have hX := hX hm0
  unfold psT partsT
  rw [if_neg hm]
  by_cases hb : (s.length : Int) < begL (tysN k ins (manyT k n ins s).1)
  · rw [if_pos hb, if_pos hb, if_pos (by simp)]
  rw [if_neg hb, if_neg hb]
  generalize (manyT k n ins s).1 = M at *
  cases offL s (begL (tysN k ins M)).toNat (tysN k ins M) 0 (begL (tysN k ins M)).toNat false with
  | none => simp
  | some os =>
    simp only [ne_eq, not_true_eq_false, if_false]
    have e : ((List.range M).map fun i => (getF ins).getD (inX k 0 i) g0).zip (partL s (tysN k ins M) 0 os) = (pairL (tysN k ins M) 0 os).map (gq s) := by
      have e1 : ((List.range M).map fun i => (getF ins).getD (inX k 0 i) g0) = (pairL (tysN k ins M) 0 os).map fun q => getT q.1 := by
        have e2 : ((pairL (tysN k ins M) 0 os).map Prod.fst).map getT = (tysN k ins M).map getT := by rw [pairL_tys]
        rw [List.map_map] at e2; rw [show (fun q : Ty × Nat × Nat => getT q.1) = getT ∘ Prod.fst from rfl, e2]
        unfold tysN
        rw [List.map_map]; exact List.map_congr_left fun i hi => getF_at (inTy_get (hX i (List.mem_range.1 hi))).1
      rw [e1, partL_pair, zip_map_same]; rfl
    rw [e]
section
variable {k n : Int} {p : Pl} {ins : List Ty} {s : BS}
theorem g_w (h : isFix (.mk k n p ins) = true ∧ (s.length : Int) ≠ sizT (.mk k n p ins)) : getT (.mk k n p ins) s = (v0L, 2) := by rw [getT]; unfold decT; rw [if_pos h]
variable (hnf : ¬ (isFix (.mk k n p ins) = true ∧ (s.length : Int) ≠ sizT (.mk k n p ins)))
include hnf
theorem g_1 (h1 : k = 1) : getT (.mk k n p ins) s = (mkNum (numD s), 0) := by rw [getT]; unfold decT; rw [if_neg hnf, if_pos h1]
theorem g_2 (h1 : k ≠ 1) (h2 : k = 2) : getT (.mk k n p ins) s = if 1 < (s.getD 0 0).toNat then (v0L, 2) else (mkNum (numD s), 0) := by rw [getT]; unfold decT; rw [if_neg hnf, if_neg h1, if_pos h2]
theorem g_5 (h1 : k ≠ 1) (h2 : k ≠ 2) (h5 : k = 5) : getT (.mk k n p ins) s = if ((unpackB s (8 * s.length)).drop n.toNat).any id then (v0L, 8) else (mkBits (unpackB s n.toNat), 0) := by rw [getT]; unfold decT; rw [if_neg hnf, if_neg h1, if_neg h2, if_pos h5]
theorem g_6 (h1 : k ≠ 1) (h2 : k ≠ 2) (h5 : k ≠ 5) (h6 : k = 6) : getT (.mk k n p ins) s = blT n s := by rw [getT]; unfold decT; rw [if_neg hnf, if_neg h1, if_neg h2, if_neg h5, if_pos h6]; rfl
theorem g_8n (h1 : k ≠ 1) (h2 : k ≠ 2) (h5 : k ≠ 5) (h6 : k ≠ 6) (h8 : k = 8) (hs : s = []) : getT (.mk k n p ins) s = (v0L, 2) := by rw [getT]; unfold decT; rw [if_neg hnf, if_neg h1, if_neg h2, if_neg h5, if_neg h6, if_pos h8, hs]
theorem g_r (h1 : k ≠ 1) (h2 : k ≠ 2) (h5 : k ≠ 5) (h6 : k ≠ 6) (h8 : k ≠ 8) : getT (.mk k n p ins) s = rowT k n ins (getF ins) s := by rw [getT]; unfold decT; rw [if_neg hnf, if_neg h1, if_neg h2, if_neg h5, if_neg h6, if_neg h8]
theorem g_8k (h1 : k ≠ 1) (h2 : k ≠ 2) (h5 : k ≠ 5) (h6 : k ≠ 6) (h8 : k = 8) (hs : s ≠ []) (hb : ins.length ≤ (s.getD 0 0).toNat) : getT (.mk k n p ins) s = (v0L, 9) := by
  rw [getT]; unfold decT; rw [if_neg hnf, if_neg h1, if_neg h2, if_neg h5, if_neg h6, if_pos h8]
  cases s with
  | nil => exact absurd rfl hs
  | cons b r => simp only; rw [if_pos (by simpa using hb)]
theorem g_8 (h1 : k ≠ 1) (h2 : k ≠ 2) (h5 : k ≠ 5) (h6 : k ≠ 6) (h8 : k = 8) (hs : s ≠ []) {x : Ty} (hx : ins[(s.getD 0 0).toNat]? = some x) : getT (.mk k n p ins) s = if (getT x (s.drop 1)).2 ≠ 0 then (v0L, (getT x (s.drop 1)).2) else (mkItems [(getT x (s.drop 1)).1] (s.getD 0 0).toNat, 0) := by
  rw [getT]; unfold decT; rw [if_neg hnf, if_neg h1, if_neg h2, if_neg h5, if_neg h6, if_pos h8]
  cases s with
  | nil => exact absurd rfl hs
  | cons b r =>
    simp only [List.getD_cons_zero, List.drop_succ_cons, List.drop_zero] at hx ⊢
    have hlt := (List.getElem?_eq_some_iff.1 hx).1
    rw [if_neg (by omega), getF_at hx]
end
theorem num_in {s : BS} {a b c d : Nat} (h : numD s = [a, b, c, d]) : Vl.In [] (.mk a b c d [] none [] none 0) := by
  have h2 := (numD_ok s).2
  rw [h] at h2
  have hU : ∀ x ∈ [a, b, c, d], U64 x := fun x hx => h2 x hx
  exact .mk (hU a (by simp)) (hU b (by simp)) (hU c (by simp)) (hU d (by simp)) (by decide) rfl (by decide) rfl i0 (fun x hx => nomatch hx)
theorem vlsC_ln (l : List Vl) : (vlsC l).length = l.length * 7 := cat_len Vl.len l
/-- Items that are laid anew. -/
theorem items_in {vs : List Vl} {E Lr : List (Nat × Obj)} {p : Pl} {pick : Int} (hl : vs.length ≤ 9223372036854775807) (hs : Seg Lr vs.length (vlsC vs) p) (hE : ∀ x ∈ vs, x.In E) (hp : I64 pick) : Vl.In (Lr ++ E) (.mk 0 0 0 0 [] none vs p pick) :=
  .mk u0 u0 u0 u0 (by decide) rfl hl (hs.mono fun q hq => List.mem_append_left _ hq) hp fun x hx => (hE x hx).mono fun q hq => List.mem_append_right _ hq
theorem boom_callX {α : Type} {c : Cx} {d : List Deferred} {l : List (Nat × Value)} {L : List (Nat × Obj)} {X : XP} {Q : Exit → Act → World → Prop} {ok : Prop} {bad : Value → Prop} {V : α → Value} {LL : α → List (Nat × Obj)} {Rl : List (Nat × Obj)} {dst : Option Nat} {f : Operand} {args : Array Operand} {at_ : Array TypeId} {ty : TypeId} {ps : String} {af : Array Edge} {gd : Option (Nat × Bool)} {g : FuncId} {vs : List Value}
    (hca : callArgs l f args = some (g, vs)) (eg : Enters c.P g) (hpt : PureX c.P g vs.toArray ok bad V LL Rl) (hno : ok → α → False) (hR : ∀ p ∈ Rl, known c L p.1 p.2) (hp : ∀ v, bad v → HQ c d l L X (Q (.panic (panE v)))) :
    ∀ (next : Act → World → Prop) a w, Fr c.n d l a → St c L X w → Oper.uponIn (FW c.ro) 0 c.P ⟨dst, .call ⟨.value f, args, at_⟩, ty, ps, af, gd⟩ a next Q ((execOp a.eval ⟨dst, .call ⟨.value f, args, at_⟩, ty, ps, af, gd⟩).run c.P w) := fun next a w hf hs => by
  rw [callArgs_run hf hca c.P w _ rfl eg, Oper.uponIn_enter]; refine ⟨fun hdep => (by cases hdep), ?_⟩
  have hc := callsIn_wide (n := 0) |>.2 (hpt.run w fun p hp => hs.known (hR p hp))
  refine CallsIn.mono (show CallsIn (FW c.ro) 0 c.P g vs.toArray w _ from hc) ?_
  rintro e w' (⟨ho, x, rfl, hk, h1, h2⟩ | ⟨v, hv, rfl, hk⟩)
  · exact (hno ho x).elim
  · exact hp v hv a w' hf (hs.more hk)
end Go.Proofs.YtlcbfphioeppaaaGreatDoor
