import Derived.Test.YtlcbfphioeppaaaGreatDoorPld
namespace Go.Proofs.YtlcbfphioeppaaaGreatDoor
set_option linter.all false
open Go.SL Go.RowKit Go.Shelf
/-! ### The laws of lists, of bytes -/
theorem inTy_34 (pick : Int) (ins : List Ty) (i : Nat) : inTy 3 pick ins i = inTy 4 pick ins i := rfl
theorem fitL_34 (pick : Int) (ins : List Ty) : ∀ (l : List Vl) (i : Nat), fitL l 3 pick ins i = fitL l 4 pick ins i
  | [], i => by rw [fitL, fitL]
  | x :: xs, i => by rw [fitL, fitL, inTy_34, fitL_34 pick ins xs]
theorem rootL_34 (pick : Int) (ins : List Ty) : ∀ (l : List Vl) (i : Nat), rootL l 3 pick ins i = rootL l 4 pick ins i
  | [], i => by rw [rootL, rootL]
  | x :: xs, i => by rw [rootL, rootL, inTy_34, rootL_34 pick ins xs]
theorem chk_34 {n : Int} {p : Pl} {ins : List Ty} {d : Int} : chk (.mk 3 n p ins) d = chk (.mk 4 n p ins) d := by
  rw [chk, chk]
  rfl
section
variable {a b c d : Nat} {bits : List Bool} {pb : Pl} {items : List Vl} {pi : Pl} {pick n : Int} {p : Pl} {ins : List Ty}
theorem fit_34 (h : fitT (.mk a b c d bits pb items pi pick) (.mk 4 n p ins) = 0) (hl : (items.length : Int) = n) : fitT (.mk a b c d bits pb items pi pick) (.mk 3 n p ins) = 0 := by
  obtain ⟨h1, h2, h3⟩ := fit_split h
  rw [fitT, if_neg (by omega), if_neg, fitL_34]
  · exact h3
  · rw [Bool.not_eq_false]
    rw [ofT_mk 4 n ins.length a b c d bits pb items pi pick _ rfl] at h2; rw [ofT_mk 3 n ins.length a b c d bits pb items pi pick _ rfl]; simp at h2 ⊢; exact ⟨h2, hl⟩
theorem list_root : rootV (.mk a b c d bits pb items pi pick) (.mk 4 n p ins) = mixE (rootV (.mk a b c d bits pb items pi pick) (.mk 3 n p ins)) items.length := by
  rw [rootV_mk, rootV_mk, rootL_34]
  rfl
theorem fits_34 (h : fitsT (.mk 4 n p ins) (.mk a b c d bits pb items pi pick) = 0) (hl : (items.length : Int) = n) : fitsT (.mk 3 n p ins) (.mk a b c d bits pb items pi pick) = 0 := by
  obtain ⟨h1, h2⟩ := fits_split h
  unfold fitsT
  rw [chk_34, if_pos h1]; exact fit_34 h2 hl
end
theorem rootR_ok {t : Ty} {v : Vl} (h : fitsT t v = 0) : rootR t v = (rootV v t, 0) := by unfold rootR; rw [if_neg (by rw [h]; simp)]
theorem tyIn_as {R : List (Nat × Obj)} {k n : Int} {p : Pl} {ins : List Ty} (h : Ty.In R (.mk k n p ins)) {k' : Int} (hk : I64 k') : Ty.In R (.mk k' n p ins) := by
  cases h with
  | mk h1 h2 h3 h4 h5 => exact .mk hk h2 h3 h4 h5
set_option maxRecDepth 10000 in
theorem L_MerkleLists {R : List (Nat × Obj)} {t : Ty} {v : Vl} (ht : t.In R) (hv : v.In R) : PureR Tryz.prog 14 [t.val, v.val].toArray (.bool true) R := by
  have h1 := S_few9 ht hv
  have hF := S_Fits ht hv
  have hfw := fun h : fewM t v = true => fewM_w h
  obtain ⟨k, n, p, ins⟩ := t
  obtain ⟨a, b, c, d, bits, pb, items, pi, pick⟩ := v
  have hs : Seg R items.length (vlsC items) pi := by cases hv; assumption
  obtain ⟨B, hB⟩ : ∃ x, x = rootV (.mk a b c d bits pb items pi pick) (.mk 3 n p ins) := ⟨_, rfl⟩
  have h2 : fewM (.mk k n p ins) (.mk a b c d bits pb items pi pick) = true → k = 4 → (items.length : Int) = n → fitsT (.mk k n p ins) (.mk a b c d bits pb items pi pick) = 0 → PureR Tryz.prog 32 [Ty.val (.mk k n p ins), Vl.val (.mk a b c d bits pb items pi pick)].toArray (.tuple #[strV (mixE B items.length), .int .i64 0]) R := fun h hk hn hf => by
    have := S_mRoot ht hv (hfw h)
    rw [rootR_ok hf] at this; subst hk; rw [list_root, ← hB] at this; exact this
  have h3 : fewM (.mk k n p ins) (.mk a b c d bits pb items pi pick) = true → k = 4 → (items.length : Int) = n → fitsT (.mk k n p ins) (.mk a b c d bits pb items pi pick) = 0 → PureR Tryz.prog 32 [Ty.val (.mk 3 n p ins), Vl.val (.mk a b c d bits pb items pi pick)].toArray (.tuple #[strV B, .int .i64 0]) R := fun h hk hn hf => by
    subst hk
    have := S_mRoot (tyIn_as ht (k' := 3) (iz 3)) hv (hfw h)
    rw [rootR_ok (fits_34 hf hn), ← hB] at this; exact this
  have h4 : k = 4 → (items.length : Int) = n → fitsT (.mk k n p ins) (.mk a b c d bits pb items pi pick) = 0 → Pure Tryz.prog 29 [strV B, uV items.length].toArray (.tuple #[strV (mixE B items.length), .int .i64 0]) := fun hk hn hf => by
    subst hk
    have hl : B.length = 32 := by
      obtain ⟨g1, g2⟩ := fits_split (fits_34 hf hn)
      rw [hB]; exact rootV_len _ _ 0 g1 g2
    have hu : U64 items.length := by
      obtain ⟨g1, g2⟩ := fits_split hf
      have := (fit_many g1 g2).1
      show _ < 18446744073709551616
      omega
    have := P_Mix B hu
    unfold mixR at this
    rw [if_neg (by omega)] at this; exact this
  generalize fewM (.mk k n p ins) (.mk a b c d bits pb items pi pick) = fw at h1 h2 h3
  generalize fitsT (.mk k n p ins) (.mk a b c d bits pb items pi pick) = e at hF h2 h3 h4
  have hu2 : k = 4 → (items.length : Int) = n → e = 0 → IntKind.u64.wrap n = (items.length : Int) := fun _ hn _ => by rw [← hn]; exact wrap_u64 (by omega) (by have : items.length ≤ 9223372036854775807 := (by cases hv; assumption); omega)
  refine pureR_of_HC Tryz.func14 rfl rfl fun w => ?_; refine HC_seq fun K1 hK1 => ?_; refine HC_region ?_; refine HL_box (cs := #[_, _, _]) rfl rfl rfl rfl fun r1 => ?_; refine HL_box (cs := #[_, _, _, _, _, _, _]) rfl rfl rfl rfl fun r2 => ?_; refine HL_r rfl rfl rfl rfl (R_assign rfl) ?_; refine HL_nil ?_; refine HQ_then ?_; refine hK1 _ _ _ _ ?_; clear hK1 K1; refine HC_seq fun K2 hK2 => ?_; refine HC_region ?_; refine HL_callP rfl rfl rfl (enters_of Tryz.func26 (by kernel_rfl) rfl) P_works09 ?_; refine HL_r rfl rfl rfl rfl (R_assign rfl) ?_; refine HL_nil ?_; refine HQ_then ?_; refine hK2 _ _ _ _ ?_; clear hK2 K2; refine HC_seq fun K3 hK3 => ?_; refine HC_seq fun K4 hK4 => ?_; refine HC_region ?_; refine HL_r rfl rfl rfl rfl (R_move rfl) ?_; refine HL_r rfl rfl rfl rfl (R_pure rfl rfl rfl) ?_; refine HL_nil ?_; refine HQ_then ?_; refine hK4 _ _ _ _ ?_; clear hK4 K4; refine HC_cond rfl (fun h5 => ?_) (fun h5 => ?_)
  · try exact Bool.noConfusion h5
  · try exact Bool.noConfusion h5
    try simp only [Z1, Z2, Z3, Z4, Z5, Z6, Z7, Z8, Z9, Z10, Z11, Z12, Z13] at h5
    refine HC_skip ?_; refine HQ_then ?_; refine hK3 _ _ _ _ ?_; clear hK3 K3; refine HC_seq fun K7 hK7 => ?_; refine HC_region ?_; refine HL_r rfl rfl rfl rfl (R_loadA (vs := [_, _, _]) rfl (known_L (k := 1) rfl) rfl rfl rfl rfl) ?_; refine HL_r rfl rfl rfl rfl (R_loadA (vs := [_, _, _, _, _, _, _]) rfl (known_L (k := 0) rfl) rfl rfl rfl rfl) ?_; refine HL_callR rfl rfl rfl (enters_of Tryz.func31 (by kernel_rfl) rfl) h1 (fun q hq => Or.inr hq) ?_; refine HL_r rfl rfl rfl rfl (R_assign rfl) ?_; refine HL_nil ?_; refine HQ_then ?_; refine hK7 _ _ _ _ ?_; clear hK7 K7; refine HC_seq fun K8 hK8 => ?_; refine HC_seq fun K9 hK9 => ?_; refine HC_region ?_; refine HL_r rfl rfl rfl rfl (R_move rfl) ?_; refine HL_r rfl rfl rfl rfl (R_pure rfl rfl rfl) ?_; refine HL_r rfl rfl rfl rfl (R_move rfl) ?_
    refine HL_case 21 rfl (fun hb10 => ?_) (fun hb10 => ?_) <;> (try simp only [Z1, Z2, Z3, Z4, Z5, Z6, Z7, Z8, Z9, Z10, Z11, Z12, Z13] at hb10) <;> first | (refine HL_r rfl rfl rfl rfl (R_fieldAddr rfl rfl (by first | (simp only [Nat.zero_add, Nat.reduceAdd, Nat.reduceMul, Nat.zero_mul, Nat.mul_one, Nat.add_zero]; exact rfl) | exact rfl)) ?_) | (refine HL_skip rfl rfl rfl ?_)
    all_goals first
      | (refine HL_r rfl rfl rfl rfl (R_load rfl (known_L (k := 1) rfl) rfl rfl) ?_)
      | (refine HL_skip rfl rfl rfl ?_)
    all_goals first
      | (refine HL_r rfl rfl rfl rfl (R_pure rfl rfl rfl) ?_)
      | (refine HL_skip rfl rfl rfl ?_)
    all_goals first
      | (refine HL_r rfl rfl rfl rfl (R_pickT rfl rfl) ?_)
      | (refine HL_r rfl rfl rfl rfl (R_pickF rfl rfl) ?_)
    all_goals refine HL_r rfl rfl rfl rfl (R_move rfl) ?_
    all_goals first
      | (refine HL_skip rfl rfl rfl ?_)
      | (refine HL_case 26 rfl (fun hb13 => ?_) (fun hb13 => ?_) <;> (try simp only [Z1, Z2, Z3, Z4, Z5, Z6, Z7, Z8, Z9, Z10, Z11, Z12, Z13] at hb13) <;> first | (refine HL_r rfl rfl rfl rfl (R_fieldAddr rfl rfl (by first | (simp only [Nat.zero_add, Nat.reduceAdd, Nat.reduceMul, Nat.zero_mul, Nat.mul_one, Nat.add_zero]; exact rfl) | exact rfl)) ?_) | (refine HL_skip rfl rfl rfl ?_))
    all_goals first
      | (refine HL_r rfl rfl rfl rfl (R_load rfl (known_L (k := 0) rfl) rfl rfl) ?_)
      | (refine HL_skip rfl rfl rfl ?_)
    all_goals first
      | (refine HL_r rfl rfl rfl rfl (R_lenPl rfl hs rfl) ?_)
      | (refine HL_skip rfl rfl rfl ?_)
    all_goals first
      | (refine HL_r rfl rfl rfl rfl (R_fieldAddr rfl rfl (by first | (simp only [Nat.zero_add, Nat.reduceAdd, Nat.reduceMul, Nat.zero_mul, Nat.mul_one, Nat.add_zero]; exact rfl) | exact rfl)) ?_)
      | (refine HL_skip rfl rfl rfl ?_)
    all_goals first
      | (refine HL_r rfl rfl rfl rfl (R_load rfl (known_L (k := 1) rfl) rfl rfl) ?_)
      | (refine HL_skip rfl rfl rfl ?_)
    all_goals first
      | (refine HL_r rfl rfl rfl rfl (R_pure rfl rfl rfl) ?_)
      | (refine HL_skip rfl rfl rfl ?_)
    all_goals first
      | (refine HL_r rfl rfl rfl rfl (R_pickT rfl rfl) ?_)
      | (refine HL_r rfl rfl rfl rfl (R_pickF rfl rfl) ?_)
    all_goals refine HL_r rfl rfl rfl rfl (R_move rfl) ?_
    all_goals first
      | (refine HL_skip rfl rfl rfl ?_)
      | (refine HL_case 34 rfl (fun hb19 => ?_) (fun hb19 => ?_) <;> (try simp only [Z1, Z2, Z3, Z4, Z5, Z6, Z7, Z8, Z9, Z10, Z11, Z12, Z13] at hb19) <;> first | (refine HL_r rfl rfl rfl rfl (R_loadA (vs := [_, _, _]) rfl (known_L (k := 0) rfl) rfl rfl rfl rfl) ?_) | (refine HL_r rfl rfl rfl rfl (R_loadA (vs := [_, _, _]) rfl (known_L (k := 1) rfl) rfl rfl rfl rfl) ?_) | (refine HL_skip rfl rfl rfl ?_))
    all_goals first
      | (refine HL_r rfl rfl rfl rfl (R_loadA (vs := [_, _, _, _, _, _, _]) rfl (known_L (k := 0) rfl) rfl rfl rfl rfl) ?_)
      | (refine HL_skip rfl rfl rfl ?_)
    all_goals first
      | (refine HL_callR rfl rfl rfl (enters_of Tryz.func22 (by kernel_rfl) rfl) hF (fun q hq => Or.inr hq) ?_)
      | (refine HL_skip rfl rfl rfl ?_)
    all_goals first
      | (refine HL_r rfl rfl rfl rfl (R_pure rfl rfl rfl) ?_)
      | (refine HL_skip rfl rfl rfl ?_)
    all_goals first
      | (refine HL_r rfl rfl rfl rfl (R_pickT rfl rfl) ?_)
      | (refine HL_r rfl rfl rfl rfl (R_pickF rfl rfl) ?_)
    all_goals refine HL_nil ?_
    all_goals (
     refine HQ_then ?_; refine hK9 _ _ _ _ ?_; clear hK9 K9; refine HC_cond rfl (fun h23 => ?_) (fun h23 => ?_)
     · try exact Bool.noConfusion h23
       try simp only [Z1, Z2, Z3, Z4, Z5, Z6, Z7, Z8, Z9, Z10, Z11, Z12, Z13] at h23
       refine HC_seq fun K24 hK24 => ?_; refine HC_region ?_; refine HL_r rfl rfl rfl rfl (R_move rfl) ?_; refine HL_r rfl rfl rfl rfl (R_assign rfl) ?_; refine HL_nil ?_; refine HQ_then ?_; refine hK24 _ _ _ _ ?_; clear hK24 K24; refine HC_ret ?_; refine HQ_thenR ?_; clear hK8 K8; refine HQ_post rfl rfl (.cons (res_tmp rfl) .nil) (fun w1 hs1 => ?_); exact ⟨rfl, hs1.keep⟩
     · try exact Bool.noConfusion h23
       all_goals try simp only [Z1, Z2, Z3, Z4, Z5, Z6, Z7, Z8, Z9, Z10, Z11, Z12, Z13] at h23
       all_goals (
        refine HC_skip ?_; refine HQ_then ?_; refine hK8 _ _ _ _ ?_; clear hK8 K8; refine HC_seq fun K25 hK25 => ?_; refine HC_region ?_; refine HL_r rfl rfl rfl rfl (R_loadA (vs := [_, _, _]) rfl (known_L (k := 1) rfl) rfl rfl rfl rfl) ?_; refine HL_r rfl rfl rfl rfl (R_loadA (vs := [_, _, _, _, _, _, _]) rfl (known_L (k := 0) rfl) rfl rfl rfl rfl) ?_; refine HL_callR rfl rfl rfl (enters_of Tryz.func32 (by kernel_rfl) rfl) (h2 (by assumption) (by assumption) (by assumption) (by assumption)) (fun q hq => Or.inr hq) ?_; refine HL_r rfl rfl rfl rfl (R_move rfl) ?_; refine HL_r rfl rfl rfl rfl (R_extract rfl rfl) ?_; refine HL_r rfl rfl rfl rfl (R_extract rfl rfl) ?_; refine HL_r rfl rfl rfl rfl (R_assign rfl) ?_; refine HL_r rfl rfl rfl rfl (R_assign rfl) ?_; refine HL_nil ?_; refine HQ_then ?_; refine hK25 _ _ _ _ ?_; clear hK25 K25; refine HC_seq fun K26 hK26 => ?_; refine HC_region ?_
        refine HL_r rfl rfl rfl rfl (R_fieldAddr rfl rfl (by first | (simp only [Nat.zero_add, Nat.reduceAdd, Nat.reduceMul, Nat.zero_mul, Nat.mul_one, Nat.add_zero]; exact rfl) | exact rfl)) ?_; refine HL_r rfl rfl rfl rfl (R_load rfl (known_L (k := 1) rfl) rfl rfl) ?_
        refine HL_r rfl rfl rfl rfl (R_fieldAddr rfl rfl (by first | (simp only [Nat.zero_add, Nat.reduceAdd, Nat.reduceMul, Nat.zero_mul, Nat.mul_one, Nat.add_zero]; exact rfl) | exact rfl)) ?_; refine HL_r rfl rfl rfl rfl (R_load rfl (known_L (k := 1) rfl) rfl rfl) ?_; refine HL_r rfl rfl rfl rfl (R_build (r := [_, _, _]) rfl rfl) ?_; refine HL_r rfl rfl rfl rfl (R_loadA (vs := [_, _, _, _, _, _, _]) rfl (known_L (k := 0) rfl) rfl rfl rfl rfl) ?_; refine HL_callR rfl rfl rfl (enters_of Tryz.func32 (by kernel_rfl) rfl) (h3 (by assumption) (by assumption) (by assumption) (by assumption)) (fun q hq => Or.inr hq) ?_; refine HL_r rfl rfl rfl rfl (R_move rfl) ?_; refine HL_r rfl rfl rfl rfl (R_extract rfl rfl) ?_; refine HL_r rfl rfl rfl rfl (R_extract rfl rfl) ?_; refine HL_r rfl rfl rfl rfl (R_assign rfl) ?_; refine HL_r rfl rfl rfl rfl (R_assign rfl) ?_; refine HL_nil ?_; refine HQ_then ?_; refine hK26 _ _ _ _ ?_; clear hK26 K26; refine HC_seq fun K27 hK27 => ?_; refine HC_region ?_; refine HL_r rfl rfl rfl rfl (R_move rfl) ?_
        refine HL_r rfl rfl rfl rfl (R_fieldAddr rfl rfl (by first | (simp only [Nat.zero_add, Nat.reduceAdd, Nat.reduceMul, Nat.zero_mul, Nat.mul_one, Nat.add_zero]; exact rfl) | exact rfl)) ?_; refine HL_r rfl rfl rfl rfl (R_load rfl (known_L (k := 1) rfl) rfl rfl) ?_; refine HL_r rfl rfl rfl rfl (R_pure rfl rfl rfl) ?_; refine HL_as (show _ = uV items.length from congrArg (Value.int .u64) (hu2 (by assumption) (by assumption) (by assumption))) ?_; refine HL_callP rfl rfl rfl (enters_of Tryz.func29 (by kernel_rfl) rfl) (h4 (by assumption) (by assumption) (by assumption)) ?_; refine HL_r rfl rfl rfl rfl (R_move rfl) ?_; refine HL_r rfl rfl rfl rfl (R_extract rfl rfl) ?_; refine HL_r rfl rfl rfl rfl (R_extract rfl rfl) ?_; refine HL_r rfl rfl rfl rfl (R_assign rfl) ?_; refine HL_r rfl rfl rfl rfl (R_assign rfl) ?_; refine HL_nil ?_; refine HQ_then ?_; refine hK27 _ _ _ _ ?_; clear hK27 K27; refine HC_seq fun K28 hK28 => ?_; refine HC_region ?_; refine HL_r rfl rfl rfl rfl (R_move rfl) ?_; refine HL_r rfl rfl rfl rfl (R_move rfl) ?_; refine HL_r rfl rfl rfl rfl (R_move rfl) ?_; refine HL_r rfl rfl rfl rfl (R_pure rfl rfl rfl) ?_; refine HL_as (show _ = Value.bool true from bool_eq' (ieqT rfl)) ?_; refine HL_r rfl rfl rfl rfl (R_pickT rfl rfl) ?_; refine HL_r rfl rfl rfl rfl (R_move rfl) ?_; refine HL_r rfl rfl rfl rfl (R_move rfl) ?_; refine HL_r rfl rfl rfl rfl (R_pure rfl rfl rfl) ?_; refine HL_as (show _ = Value.bool true from bool_eq' (ieqT rfl)) ?_; refine HL_r rfl rfl rfl rfl (R_pickT rfl rfl) ?_; refine HL_r rfl rfl rfl rfl (R_move rfl) ?_; refine HL_r rfl rfl rfl rfl (R_move rfl) ?_; refine HL_r rfl rfl rfl rfl (R_pure rfl rfl rfl) ?_; refine HL_as (show _ = Value.bool true from bool_eq' (ieqT rfl)) ?_; refine HL_r rfl rfl rfl rfl (R_pickT rfl rfl) ?_; refine HL_r rfl rfl rfl rfl (R_move rfl) ?_; refine HL_r rfl rfl rfl rfl (R_move rfl) ?_; refine HL_r rfl rfl rfl rfl (R_move rfl) ?_; refine HL_r rfl rfl rfl rfl (R_strEq rfl rfl) ?_; refine HL_as (show _ = Value.bool true from bool_eq' (decide_eq_true rfl)) ?_; refine HL_r rfl rfl rfl rfl (R_pickT rfl rfl) ?_; refine HL_r rfl rfl rfl rfl (R_assign rfl) ?_; refine HL_nil ?_; refine HQ_then ?_; refine hK28 _ _ _ _ ?_; clear hK28 K28; refine HC_ret ?_; refine HQ_post rfl rfl (.cons (res_tmp rfl) .nil) (fun w1 hs1 => ?_); exact ⟨rfl, hs1.keep⟩
        skip)
     skip)
end Go.Proofs.YtlcbfphioeppaaaGreatDoor
