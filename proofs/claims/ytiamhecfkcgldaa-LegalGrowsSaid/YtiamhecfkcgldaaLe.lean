import Derived.Test.YtiamhecfkcgldaaLd
import Derived.Test.YtiamhecfkcgldaaShelf
namespace Go.Proofs.Ytiamhecfkcgldaa
set_option linter.all false
open Go.SL Go.RowKit Go.Shelf
theorem P_bits_Len : Pure Try.prog 24 [.int .u64 0].toArray (.int .i64 0) := ⟨fun w => (Try.bits_Len 0 w (by decide) (by decide)).mono fun _ _ ⟨h1, h2⟩ => ⟨h1, h2 ▸ Keep.refl _ _⟩⟩
set_option maxRecDepth 10000 in
theorem P_ins : Pure Try.prog 25 [.slice none 0 0, .int .i64 0, .int .i64 0].toArray (.tuple #[]) := by
  refine pure_of_HC Try.func25 rfl rfl fun w => ?_
  refine HC_seq fun K1 hK1 => ?_
  refine HC_region ?_
  all_goals refine HL_r rfl rfl rfl rfl (R_move rfl) ?_
  all_goals first
    | (refine HL_r rfl rfl rfl rfl (R_pure rfl rfl rfl) ?_; refine HL_wrap_i64 (by omega) (by omega) ?_)
    | (refine HL_r rfl rfl rfl rfl (R_pure rfl rfl rfl) ?_)
  all_goals refine HL_r rfl rfl rfl rfl (R_assign rfl) ?_
  all_goals refine HL_nil ?_
  all_goals (
    refine HQ_then ?_
    refine hK1 _ _ _ _ ?_; clear hK1 K1
    refine HC_block ?_
    refine HC_loop (σ := Unit) (fun _ => True) (fun _ => [(2, .int .i64 0), (6, .int .i64 1)]) (fun _ => []) (fun _ _ _ => True) (fun _ => 0) () trivial (.cons rfl (.cons rfl .nil)) (List.nil_sublist _) (fun _ _ h => h) ?_
    rintro ⟨⟩ -
    refine HC_seq fun K2 hK2 => ?_
    refine HC_seq fun K3 hK3 => ?_
    refine HC_region ?_
    all_goals refine HL_r rfl rfl rfl rfl (R_move rfl) ?_
    all_goals refine HL_r rfl rfl rfl rfl (R_move rfl) ?_
    all_goals refine HL_r rfl rfl rfl rfl (R_pure rfl rfl rfl) ?_
    all_goals refine HL_nil ?_
    all_goals (
      refine HQ_then ?_
      refine hK3 _ _ _ _ ?_; clear hK3 K3
      refine HC_cond rfl (fun h4 => ?_) (fun h4 => ?_)
      · exact absurd h4 (by decide)
      · try exact Bool.noConfusion h4
        all_goals try simp only [decide_eq_true_eq, decide_eq_false_iff_not, beq_iff_eq, beq_eq_false_iff_ne, bne_iff_ne, bne_eq_false_iff_eq, Bool.not_eq_true', Bool.not_eq_false', ne_eq, Int.not_lt, Int.not_le, ge_iff_le, gt_iff_lt] at h4
        all_goals (
          refine HC_exit ?_
          refine HQ_thenE ?_; clear hK2 K2
          refine HQ_thenE ?_
          refine HQ_blockE ?_
          refine HQ_postN rfl rfl .nil (fun w1 hs1 => ?_)
          exact ⟨rfl, hs1.keep⟩
          skip)
      skip)
    skip)
set_option maxRecDepth 10000 in
theorem P_pdq : Pure Try.prog 23 [.slice none 0 0, .int .i64 0, .int .i64 0, .int .i64 0].toArray (.tuple #[]) := by
  refine pure_of_HC Try.func23 rfl rfl fun w => ?_
  refine HC_seq fun K1 hK1 => ?_
  refine HC_region ?_
  all_goals refine HL_r rfl rfl rfl rfl (R_assign rfl) ?_
  all_goals refine HL_nil ?_
  all_goals (
    refine HQ_then ?_
    refine hK1 _ _ _ _ ?_; clear hK1 K1
    refine HC_seq fun K2 hK2 => ?_
    refine HC_region ?_
    all_goals refine HL_r rfl rfl rfl rfl (R_assign rfl) ?_
    all_goals refine HL_nil ?_
    all_goals (
      refine HQ_then ?_
      refine hK2 _ _ _ _ ?_; clear hK2 K2
      refine HC_block ?_
      refine HC_loop (σ := Unit) (fun _ => True) (fun _ => [(0, .slice none 0 0), (1, .int .i64 0), (2, .int .i64 0)]) (fun _ => []) (fun _ _ _ => True) (fun _ => 0) () trivial (.cons rfl (.cons rfl (.cons rfl .nil))) (List.nil_sublist _) (fun _ _ h => h) ?_
      rintro ⟨⟩ -
      refine HC_block ?_
      refine HC_seq fun K3 hK3 => ?_
      refine HC_region ?_
      all_goals refine HL_r rfl rfl rfl rfl (R_move rfl) ?_
      all_goals refine HL_r rfl rfl rfl rfl (R_move rfl) ?_
      all_goals first
        | (refine HL_r rfl rfl rfl rfl (R_pure rfl rfl rfl) ?_; refine HL_wrap_i64 (by omega) (by omega) ?_)
        | (refine HL_r rfl rfl rfl rfl (R_pure rfl rfl rfl) ?_)
      all_goals refine HL_r rfl rfl rfl rfl (R_assign rfl) ?_
      all_goals refine HL_nil ?_
      all_goals (
        refine HQ_then ?_
        refine hK3 _ _ _ _ ?_; clear hK3 K3
        refine HC_seq fun K4 hK4 => ?_
        refine HC_seq fun K5 hK5 => ?_
        refine HC_region ?_
        all_goals refine HL_r rfl rfl rfl rfl (R_move rfl) ?_
        all_goals refine HL_r rfl rfl rfl rfl (R_pure rfl rfl rfl) ?_
        all_goals refine HL_nil ?_
        all_goals (
          refine HQ_then ?_
          refine hK5 _ _ _ _ ?_; clear hK5 K5
          refine HC_cond rfl (fun h6 => ?_) (fun h6 => ?_)
          · try exact Bool.noConfusion h6
            all_goals try simp only [decide_eq_true_eq, decide_eq_false_iff_not, beq_iff_eq, beq_eq_false_iff_ne, bne_iff_ne, bne_eq_false_iff_eq, Bool.not_eq_true', Bool.not_eq_false', ne_eq, Int.not_lt, Int.not_le, ge_iff_le, gt_iff_lt] at h6
            all_goals (
              refine HC_seq fun K7 hK7 => ?_
              refine HC_region ?_
              all_goals refine HL_r rfl rfl rfl rfl (R_move rfl) ?_
              all_goals refine HL_r rfl rfl rfl rfl (R_move rfl) ?_
              all_goals refine HL_r rfl rfl rfl rfl (R_move rfl) ?_
              all_goals refine HL_callP rfl rfl rfl (enters_of Try.func25 (by kernel_rfl) rfl) P_ins ?_
              all_goals refine HL_nil ?_
              all_goals (
                refine HQ_then ?_
                refine hK7 _ _ _ _ ?_; clear hK7 K7
                refine HC_ret ?_
                refine HQ_thenR ?_; clear hK4 K4
                refine HQ_blockR ?_
                refine HQ_thenR ?_
                refine HQ_blockR ?_
                refine HQ_post rfl rfl .nil (fun w1 hs1 => ?_)
                exact ⟨rfl, hs1.keep⟩
                skip)
              skip)
          · exact absurd h6 (by decide)
          skip)
        skip)
      skip)
    skip)
set_option maxRecDepth 10000 in
theorem P_sort_nil : Pure Try.prog 20 [.slice none 0 0].toArray (.tuple #[]) := by
  refine pure_of_HC Try.func20 rfl rfl fun w => ?_
  refine HC_seq fun K1 hK1 => ?_
  refine HC_region ?_
  all_goals refine HL_r rfl rfl rfl rfl (R_move rfl) ?_
  all_goals first
    | (refine HL_r rfl rfl rfl rfl (R_lenSl rfl rfl) ?_)
    | (refine HL_r rfl rfl rfl rfl (R_lenStr rfl rfl rfl) ?_)
    | (refine HL_r rfl rfl rfl rfl (R_pure rfl rfl rfl) ?_)
  all_goals refine HL_r rfl rfl rfl rfl (R_assign rfl) ?_
  all_goals refine HL_nil ?_
  all_goals (
    refine HQ_then ?_
    refine hK1 _ _ _ _ ?_; clear hK1 K1
    refine HC_region ?_
    all_goals refine HL_r rfl rfl rfl rfl (R_move rfl) ?_
    all_goals refine HL_r rfl rfl rfl rfl (R_move rfl) ?_
    all_goals refine HL_r rfl rfl rfl rfl (R_move rfl) ?_
    all_goals first
      | (refine HL_r rfl rfl rfl rfl (R_pure rfl rfl rfl) ?_; refine HL_wrap_u64 (by omega) (by omega) ?_)
      | (refine HL_r rfl rfl rfl rfl (R_pure rfl rfl rfl) ?_)
    all_goals refine HL_callP rfl rfl rfl (enters_of Try.func24 (by kernel_rfl) rfl) P_bits_Len ?_
    all_goals refine HL_callP rfl rfl rfl (enters_of Try.func23 (by kernel_rfl) rfl) P_pdq ?_
    all_goals refine HL_nil ?_
    all_goals (
      refine HQ_postN rfl rfl .nil (fun w1 hs1 => ?_)
      exact ⟨rfl, hs1.keep⟩
      skip)
    skip)
def sortI (xs : List Int) : List Int := xs.mergeSort fun x y => decide (x ≤ y)
theorem S_sort {c : Cx} {L : List (Nat × Obj)} {X : XP} {k blk cap : Nat} {xs : List Int} {sp : List Value} (hP : c.P = Try.prog) (hk : L[k]? = some (blk, .cells (xs.map (Value.int .i64) ++ sp).toArray 3 (0, 0))) (hlen : xs.length < 4611686018427387904) :
    ∀ w, St c L X w → Calls c.P 20 [.slice (some ⟨blk, 0, none⟩) xs.length cap].toArray w fun e w' => ∃ _ : Unit, e = .returned (.tuple #[]) ∧ St c (L.set k (blk, .cells ((sortI xs).map (Value.int .i64) ++ sp).toArray 3 (0, 0))) X w' := fun w hs => by
  rw [hP]
  have hb := hs.get hk
  refine (Try.slices_Sort_int blk 0 cap xs w (holds_row hb) (lt_of_some hb) hlen).mono ?_
  rintro e w' ⟨rfl, n, os, hw⟩
  obtain ⟨h1, h2⟩ := sorted_row (ys := sortI xs) (by unfold sortI; rw [List.length_mergeSort]) hw hb
  exact ⟨(), rfl, hs.set hk h1 h2⟩
set_option maxRecDepth 10000 in
theorem E_versions (k : Int) : PureE (α := Nat) Try.prog 19 [.int .i64 k].toArray (fun r => .func (.func 22) #[] #[.pointer (some ⟨r, 0, none⟩)]) (fun r => [(r, .cells #[.int .i64 k] 3 (0, 0))]) := by
  refine pureE_of_HC Try.func19 rfl rfl fun w => ?_
  refine HC_seq fun K1 hK1 => ?_
  refine HC_region ?_
  all_goals refine HL_box (cs := #[_]) rfl rfl rfl rfl fun r1 => ?_
  all_goals refine HL_r rfl rfl rfl rfl (R_assign rfl) ?_
  all_goals refine HL_nil ?_
  all_goals (
    refine HQ_then ?_
    refine hK1 _ _ _ _ ?_; clear hK1 K1
    refine HC_seq fun K2 hK2 => ?_
    refine HC_region ?_
    all_goals refine HL_r rfl rfl rfl rfl (R_makeFunc rfl rfl) ?_
    all_goals refine HL_r rfl rfl rfl rfl (R_assign rfl) ?_
    all_goals refine HL_nil ?_
    all_goals (
      refine HQ_then ?_
      refine hK2 _ _ _ _ ?_; clear hK2 K2
      refine HC_ret ?_
      refine HQ_post rfl rfl (.cons (res_tmp rfl) .nil) (fun w1 hs1 => ?_)
      exact ⟨_, rfl, hs1⟩
      skip)
    skip)
end Go.Proofs.Ytiamhecfkcgldaa
