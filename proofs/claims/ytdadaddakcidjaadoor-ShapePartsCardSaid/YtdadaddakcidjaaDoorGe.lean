import Derived.Test.YtdadaddakcidjaaDoorGd
namespace Go.Proofs.YtdadaddakcidjaaDoor
set_option linter.all false
open Go.SL Go.RowKit Go.Shelf
set_option maxRecDepth 10000 in
theorem P_Same1 (x y : Bool) : Pure Tryd.prog 28 [.bool x, .bool y].toArray (.bool (x == y)) := by
  refine pure_of_HC Tryd.func28 rfl rfl fun w => ?_
  refine HC_seq fun K1 hK1 => ?_
  refine HC_region ?_
  all_goals refine HL_r rfl rfl rfl rfl (R_assign rfl) ?_
  all_goals refine HL_nil ?_
  all_goals (
    refine HQ_then ?_
    refine hK1 _ _ _ _ ?_; clear hK1 K1
    refine HC_seq fun K2 hK2 => ?_
    refine HC_region ?_
    all_goals refine HL_r rfl rfl rfl rfl (R_move rfl) ?_
    all_goals refine HL_r rfl rfl rfl rfl (R_move rfl) ?_
    all_goals refine HL_r rfl rfl rfl rfl (R_pure rfl rfl rfl) ?_
    all_goals refine HL_r rfl rfl rfl rfl (R_assign rfl) ?_
    all_goals refine HL_nil ?_
    all_goals (
      refine HQ_then ?_
      refine hK2 _ _ _ _ ?_; clear hK2 K2
      refine HC_ret ?_
      refine HQ_post rfl rfl (.cons (res_tmp rfl) .nil) (fun w1 hs1 => ?_)
      exact ⟨rfl, hs1.keep⟩
      skip)
    skip)
def fV (f : FuncId) : Value := .func (.func f) #[] #[]
set_option maxRecDepth 10000 in
theorem S_eqBits {R : List (Nat × Obj)} {bits bits' : List Bool} {p p' : Pl} (hl : bits.length ≤ 9223372036854775807) (hl' : bits'.length ≤ 9223372036854775807) (hs : Seg R bits.length (bitsC bits) p) (hs' : Seg R bits'.length (bitsC bits') p') :
    PureR Tryd.prog 37 [plV bits.length p, plV bits'.length p', fV 28].toArray (.bool (decide (bits = bits'))) R := by
  refine pureR_of_HC Tryd.func37 rfl rfl fun w => ?_
  refine HC_seq fun K1 hK1 => ?_
  refine HC_region ?_
  all_goals refine HL_r rfl rfl rfl rfl (R_assign rfl) ?_
  all_goals refine HL_nil ?_
  all_goals (
    refine HQ_then ?_
    refine hK1 _ _ _ _ ?_; clear hK1 K1
    refine HC_seq fun K2 hK2 => ?_
    refine HC_seq fun K3 hK3 => ?_
    refine HC_region ?_
    all_goals refine HL_r rfl rfl rfl rfl (R_move rfl) ?_
    all_goals (refine HL_r rfl rfl rfl rfl (R_lenPl rfl hs rfl) ?_)
    all_goals refine HL_r rfl rfl rfl rfl (R_move rfl) ?_
    all_goals (refine HL_r rfl rfl rfl rfl (R_lenPl rfl hs' rfl) ?_)
    all_goals refine HL_r rfl rfl rfl rfl (R_pure rfl rfl rfl) ?_
    all_goals refine HL_nil ?_
    all_goals (
      refine HQ_then ?_
      refine hK3 _ _ _ _ ?_; clear hK3 K3
      refine HC_cond rfl (fun h4 => ?_) (fun h4 => ?_)
      · try exact Bool.noConfusion h4
        all_goals try simp only [decide_eq_true_eq, decide_eq_false_iff_not, beq_iff_eq, beq_eq_false_iff_ne, bne_iff_ne, bne_eq_false_iff_eq, Bool.not_eq_true', Bool.not_eq_false', ne_eq, Int.not_lt, Int.not_le, ge_iff_le, gt_iff_lt] at h4
        all_goals (
          refine HC_seq fun K5 hK5 => ?_
          refine HC_region ?_
          all_goals refine HL_r rfl rfl rfl rfl (R_assign rfl) ?_
          all_goals refine HL_nil ?_
          all_goals (
            refine HQ_then ?_
            refine hK5 _ _ _ _ ?_; clear hK5 K5
            refine HC_ret ?_
            refine HQ_thenR ?_; clear hK2 K2
            refine HQ_post rfl rfl (.cons (res_tmp rfl) .nil) (fun w1 hs1 => ?_)
            refine ⟨?_, hs1.keep⟩
            first
              | (have hse : bits = bits' := bits_eq hlb2 (by omega) hinv
                 simp [resVal, hse]; done)
              | (have hse : bits ≠ bits' := bits_ne hx hy (by simp_all)
                 simp [resVal, hse]; done)
              | (have hse : bits ≠ bits' := fun e => by subst e; omega
                 simp [resVal, hse]; done)
            skip)
          skip)
      · try exact Bool.noConfusion h4
        all_goals try simp only [decide_eq_true_eq, decide_eq_false_iff_not, beq_iff_eq, beq_eq_false_iff_ne, bne_iff_ne, bne_eq_false_iff_eq, Bool.not_eq_true', Bool.not_eq_false', ne_eq, Int.not_lt, Int.not_le, ge_iff_le, gt_iff_lt] at h4
        all_goals (
          refine HC_skip ?_
          refine HQ_then ?_
          refine hK2 _ _ _ _ ?_; clear hK2 K2
          refine HC_seq fun K6 hK6 => ?_
          refine HC_seq fun K7 hK7 => ?_
          refine HC_region ?_
          all_goals refine HL_r rfl rfl rfl rfl (R_move rfl) ?_
          all_goals (refine HL_r rfl rfl rfl rfl (R_lenPl rfl hs rfl) ?_)
          all_goals refine HL_r rfl rfl rfl rfl (R_move rfl) ?_
          all_goals refine HL_nil ?_
          all_goals (
            refine HQ_then ?_
            refine hK7 _ _ _ _ ?_; clear hK7 K7
            refine HC_block ?_
            have hlb2 : bits.length = bits'.length := by omega
            refine HC_loop (σ := Nat) (fun i => i ≤ bits.length ∧ ∀ j, j < i → bits[j]? = bits'[j]?) (fun i => [(1, plV bits'.length p'), (2, fV 28), (15, plV bits.length p), (16, .int .i64 (bits.length : Int)), (17, .int .i64 (i : Int))]) (fun _ => []) (fun _ _ _ => True) (fun i => bits.length - i) 0 ⟨by omega, fun j hj => absurd hj (by omega)⟩ (.cons rfl (.cons rfl (.cons rfl (.cons rfl (.cons rfl .nil))))) (List.nil_sublist _) (fun _ _ h => h) ?_
            rintro i ⟨hi1, hinv⟩
            refine HC_seq fun K8 hK8 => ?_
            refine HC_region ?_
            all_goals refine HL_r rfl rfl rfl rfl (R_pure rfl rfl rfl) ?_
            all_goals refine HL_nil ?_
            all_goals (
              refine HQ_then ?_
              refine hK8 _ _ _ _ ?_; clear hK8 K8
              refine HC_seq fun K9 hK9 => ?_
              refine HC_cond rfl (fun h10 => ?_) (fun h10 => ?_)
              · try exact Bool.noConfusion h10
                all_goals try simp only [decide_eq_true_eq, decide_eq_false_iff_not, beq_iff_eq, beq_eq_false_iff_ne, bne_iff_ne, bne_eq_false_iff_eq, Bool.not_eq_true', Bool.not_eq_false', ne_eq, Int.not_lt, Int.not_le, ge_iff_le, gt_iff_lt] at h10
                all_goals (
                  refine HC_skip ?_
                  refine HQ_then ?_
                  refine hK9 _ _ _ _ ?_; clear hK9 K9
                  refine HC_seq fun K11 hK11 => ?_
                  refine HC_block ?_
                  refine HC_seq fun K12 hK12 => ?_
                  obtain ⟨x, hx, hmx⟩ := getI (show i < bits.length by omega)
                  obtain ⟨y, hy, hmy⟩ := getI (show i < bits'.length by omega)
                  refine HC_region ?_
                  all_goals refine HL_r rfl rfl rfl rfl (R_move rfl) ?_
                  all_goals refine HL_r rfl rfl rfl rfl (R_indexPl (j := i) rfl hs rfl rfl rfl rfl (by omega)) ?_
                  all_goals refine HL_r rfl rfl rfl rfl (R_loadBit (fun q hq => Or.inr hq) rfl hs hx rfl) ?_
                  all_goals refine HL_r rfl rfl rfl rfl (R_assign rfl) ?_
                  all_goals refine HL_r rfl rfl rfl rfl (R_assign rfl) ?_
                  all_goals refine HL_nil ?_
                  all_goals (
                    refine HQ_then ?_
                    refine hK12 _ _ _ _ ?_; clear hK12 K12
                    refine HC_seq fun K13 hK13 => ?_
                    refine HC_region ?_
                    all_goals refine HL_r rfl rfl rfl rfl (R_move rfl) ?_
                    all_goals refine HL_r rfl rfl rfl rfl (R_move rfl) ?_
                    all_goals refine HL_r rfl rfl rfl rfl (R_indexPl (j := i) rfl hs' rfl rfl rfl rfl (by omega)) ?_
                    all_goals refine HL_r rfl rfl rfl rfl (R_loadBit (fun q hq => Or.inr hq) rfl hs' hy rfl) ?_
                    all_goals refine HL_r rfl rfl rfl rfl (R_assign rfl) ?_
                    all_goals refine HL_nil ?_
                    all_goals (
                      refine HQ_then ?_
                      refine hK13 _ _ _ _ ?_; clear hK13 K13
                      refine HC_seq fun K14 hK14 => ?_
                      refine HC_region ?_
                      all_goals refine HL_r rfl rfl rfl rfl (R_move rfl) ?_
                      all_goals refine HL_r rfl rfl rfl rfl (R_move rfl) ?_
                      all_goals refine HL_r rfl rfl rfl rfl (R_move rfl) ?_
                      all_goals refine HL_callP rfl rfl rfl (enters_of Tryd.func28 (by kernel_rfl) rfl) (P_Same1 x y) ?_
                      all_goals refine HL_r rfl rfl rfl rfl (R_pure rfl rfl rfl) ?_
                      all_goals refine HL_nil ?_
                      all_goals (
                        refine HQ_then ?_
                        refine hK14 _ _ _ _ ?_; clear hK14 K14
                        refine HC_cond rfl (fun h15 => ?_) (fun h15 => ?_)
                        · try exact Bool.noConfusion h15
                          all_goals try simp only [decide_eq_true_eq, decide_eq_false_iff_not, beq_iff_eq, beq_eq_false_iff_ne, bne_iff_ne, bne_eq_false_iff_eq, Bool.not_eq_true', Bool.not_eq_false', ne_eq, Int.not_lt, Int.not_le, ge_iff_le, gt_iff_lt] at h15
                          all_goals (
                            refine HC_seq fun K16 hK16 => ?_
                            refine HC_region ?_
                            all_goals refine HL_r rfl rfl rfl rfl (R_assign rfl) ?_
                            all_goals refine HL_nil ?_
                            all_goals (
                              refine HQ_then ?_
                              refine hK16 _ _ _ _ ?_; clear hK16 K16
                              refine HC_ret ?_
                              refine HQ_blockR ?_
                              refine HQ_thenR ?_; clear hK11 K11
                              refine HQ_thenR ?_
                              refine HQ_blockR ?_
                              refine HQ_thenR ?_; clear hK6 K6
                              refine HQ_post rfl rfl (.cons (res_tmp rfl) .nil) (fun w1 hs1 => ?_)
                              refine ⟨?_, hs1.keep⟩
                              first
                                | (have hse : bits = bits' := bits_eq hlb2 (by omega) hinv
                                   simp [resVal, hse]; done)
                                | (have hse : bits ≠ bits' := bits_ne hx hy (by simp_all)
                                   simp [resVal, hse]; done)
                                | (have hse : bits ≠ bits' := fun e => by subst e; omega
                                   simp [resVal, hse]; done)
                              skip)
                            skip)
                        · try exact Bool.noConfusion h15
                          all_goals try simp only [decide_eq_true_eq, decide_eq_false_iff_not, beq_iff_eq, beq_eq_false_iff_ne, bne_iff_ne, bne_eq_false_iff_eq, Bool.not_eq_true', Bool.not_eq_false', ne_eq, Int.not_lt, Int.not_le, ge_iff_le, gt_iff_lt] at h15
                          all_goals (
                            refine HC_skip ?_
                            refine HQ_blockN ?_
                            refine HQ_then ?_
                            refine hK11 _ _ _ _ ?_; clear hK11 K11
                            refine HC_region ?_
                            all_goals (refine HL_r rfl rfl rfl rfl (R_pure rfl rfl rfl) ?_; refine HL_wrap_i64 (by omega) (by omega) ?_)
                            all_goals refine HL_r rfl rfl rfl rfl (R_move rfl) ?_
                            all_goals refine HL_nil ?_
                            all_goals (
                              refine HQ_then ?_
                              exact HQ_again (i + 1) ⟨by omega, fun j hj => by
                                rcases Nat.lt_succ_iff_lt_or_eq.1 hj with hj | rfl
                                · exact hinv j hj
                                · rw [hx, hy]; simp_all⟩ (by omega) (.cons rfl (.cons rfl (.cons rfl (.cons rfl (.cons rfl .nil))))) (List.nil_sublist _) (fun _ _ h => h)
                              skip)
                            skip)
                        skip)
                      skip)
                    skip)
                  skip)
              · try exact Bool.noConfusion h10
                all_goals try simp only [decide_eq_true_eq, decide_eq_false_iff_not, beq_iff_eq, beq_eq_false_iff_ne, bne_iff_ne, bne_eq_false_iff_eq, Bool.not_eq_true', Bool.not_eq_false', ne_eq, Int.not_lt, Int.not_le, ge_iff_le, gt_iff_lt] at h10
                all_goals (
                  refine HC_exit ?_
                  refine HQ_thenE ?_; clear hK9 K9
                  refine HQ_thenE ?_
                  refine HQ_blockE ?_
                  refine HQ_then ?_
                  refine hK6 _ _ _ _ ?_; clear hK6 K6
                  refine HC_seq fun K17 hK17 => ?_
                  refine HC_region ?_
                  all_goals refine HL_r rfl rfl rfl rfl (R_assign rfl) ?_
                  all_goals refine HL_nil ?_
                  all_goals (
                    refine HQ_then ?_
                    refine hK17 _ _ _ _ ?_; clear hK17 K17
                    refine HC_ret ?_
                    refine HQ_post rfl rfl (.cons (res_tmp rfl) .nil) (fun w1 hs1 => ?_)
                    refine ⟨?_, hs1.keep⟩
                    first
                      | (have hse : bits = bits' := bits_eq hlb2 (by omega) hinv
                         simp [resVal, hse]; done)
                      | (have hse : bits ≠ bits' := bits_ne hx hy (by simp_all)
                         simp [resVal, hse]; done)
                      | (have hse : bits ≠ bits' := fun e => by subst e; omega
                         simp [resVal, hse]; done)
                    skip)
                  skip)
              skip)
            skip)
          skip)
      skip)
    skip)
set_option maxRecDepth 10000 in
theorem S_eqVals {R : List (Nat × Obj)} {items items' : List Vl} {p p' : Pl} {g : FuncId} (eg : Enters Tryd.prog g) (hg : ∀ x ∈ items, ∀ y ∈ items', PureR Tryd.prog g [x.val, y.val].toArray (.bool (sameV x y)) R) (hl : items.length ≤ 9223372036854775807) (hl' : items'.length ≤ 9223372036854775807) (hs : Seg R items.length (vlsC items) p) (hs' : Seg R items'.length (vlsC items') p') :
    PureR Tryd.prog 38 [plV items.length p, plV items'.length p', fV g].toArray (.bool (sameL items items')) R := by
  refine pureR_of_HC Tryd.func38 rfl rfl fun w => ?_
  refine HC_seq fun K1 hK1 => ?_
  refine HC_region ?_
  all_goals refine HL_r rfl rfl rfl rfl (R_assign rfl) ?_
  all_goals refine HL_nil ?_
  all_goals (
    refine HQ_then ?_
    refine hK1 _ _ _ _ ?_; clear hK1 K1
    refine HC_seq fun K2 hK2 => ?_
    refine HC_seq fun K3 hK3 => ?_
    refine HC_region ?_
    all_goals refine HL_r rfl rfl rfl rfl (R_move rfl) ?_
    all_goals (refine HL_r rfl rfl rfl rfl (R_lenPl rfl hs rfl) ?_)
    all_goals refine HL_r rfl rfl rfl rfl (R_move rfl) ?_
    all_goals (refine HL_r rfl rfl rfl rfl (R_lenPl rfl hs' rfl) ?_)
    all_goals refine HL_r rfl rfl rfl rfl (R_pure rfl rfl rfl) ?_
    all_goals refine HL_nil ?_
    all_goals (
      refine HQ_then ?_
      refine hK3 _ _ _ _ ?_; clear hK3 K3
      refine HC_cond rfl (fun h4 => ?_) (fun h4 => ?_)
      · try exact Bool.noConfusion h4
        all_goals try simp only [decide_eq_true_eq, decide_eq_false_iff_not, beq_iff_eq, beq_eq_false_iff_ne, bne_iff_ne, bne_eq_false_iff_eq, Bool.not_eq_true', Bool.not_eq_false', ne_eq, Int.not_lt, Int.not_le, ge_iff_le, gt_iff_lt] at h4
        all_goals (
          refine HC_seq fun K5 hK5 => ?_
          refine HC_region ?_
          all_goals refine HL_r rfl rfl rfl rfl (R_assign rfl) ?_
          all_goals refine HL_nil ?_
          all_goals (
            refine HQ_then ?_
            refine hK5 _ _ _ _ ?_; clear hK5 K5
            refine HC_ret ?_
            refine HQ_thenR ?_; clear hK2 K2
            refine HQ_post rfl rfl (.cons (res_tmp rfl) .nil) (fun w1 hs1 => ?_)
            refine ⟨?_, hs1.keep⟩
            first
              | (have hse : sameL items items' = true := sameL_spec.2 ⟨hl2, fun q x y hx hy => hinv q (by have := (List.getElem?_eq_some_iff.1 hx).1; omega) x y hx hy⟩
                 simp [resVal, hse]; done)
              | (have hse : sameL items items' = false := same_ne hx hy (by assumption)
                 simp [resVal, hse]; done)
              | (have hse : sameL items items' = false := same_ln (by omega)
                 simp [resVal, hse]; done)
            skip)
          skip)
      · try exact Bool.noConfusion h4
        all_goals try simp only [decide_eq_true_eq, decide_eq_false_iff_not, beq_iff_eq, beq_eq_false_iff_ne, bne_iff_ne, bne_eq_false_iff_eq, Bool.not_eq_true', Bool.not_eq_false', ne_eq, Int.not_lt, Int.not_le, ge_iff_le, gt_iff_lt] at h4
        all_goals (
          refine HC_skip ?_
          refine HQ_then ?_
          refine hK2 _ _ _ _ ?_; clear hK2 K2
          refine HC_seq fun K6 hK6 => ?_
          refine HC_seq fun K7 hK7 => ?_
          refine HC_region ?_
          all_goals refine HL_r rfl rfl rfl rfl (R_move rfl) ?_
          all_goals (refine HL_r rfl rfl rfl rfl (R_lenPl rfl hs rfl) ?_)
          all_goals refine HL_r rfl rfl rfl rfl (R_move rfl) ?_
          all_goals refine HL_nil ?_
          all_goals (
            refine HQ_then ?_
            refine hK7 _ _ _ _ ?_; clear hK7 K7
            refine HC_block ?_
            have hl2 : items.length = items'.length := by omega
            refine HC_loop (σ := Nat) (fun i => i ≤ items.length ∧ ∀ q, q < i → ∀ x y, items[q]? = some x → items'[q]? = some y → sameV x y = true) (fun i => [(1, plV items'.length p'), (2, fV g), (15, plV items.length p), (16, .int .i64 (items.length : Int)), (17, .int .i64 (i : Int))]) (fun _ => []) (fun _ _ _ => True) (fun i => items.length - i) 0 ⟨by omega, fun j hj => absurd hj (by omega)⟩ (.cons rfl (.cons rfl (.cons rfl (.cons rfl (.cons rfl .nil))))) (List.nil_sublist _) (fun _ _ h => h) ?_
            rintro i ⟨hi1, hinv⟩
            refine HC_seq fun K8 hK8 => ?_
            refine HC_region ?_
            all_goals refine HL_r rfl rfl rfl rfl (R_pure rfl rfl rfl) ?_
            all_goals refine HL_nil ?_
            all_goals (
              refine HQ_then ?_
              refine hK8 _ _ _ _ ?_; clear hK8 K8
              refine HC_seq fun K9 hK9 => ?_
              refine HC_cond rfl (fun h10 => ?_) (fun h10 => ?_)
              · try exact Bool.noConfusion h10
                all_goals try simp only [decide_eq_true_eq, decide_eq_false_iff_not, beq_iff_eq, beq_eq_false_iff_ne, bne_iff_ne, bne_eq_false_iff_eq, Bool.not_eq_true', Bool.not_eq_false', ne_eq, Int.not_lt, Int.not_le, ge_iff_le, gt_iff_lt] at h10
                all_goals (
                  refine HC_skip ?_
                  refine HQ_then ?_
                  refine hK9 _ _ _ _ ?_; clear hK9 K9
                  refine HC_seq fun K11 hK11 => ?_
                  refine HC_block ?_
                  refine HC_seq fun K12 hK12 => ?_
                  obtain ⟨x, hx, hmx⟩ := getI (show i < items.length by omega)
                  obtain ⟨y, hy, hmy⟩ := getI (show i < items'.length by omega)
                  refine HC_region ?_
                  all_goals refine HL_r rfl rfl rfl rfl (R_move rfl) ?_
                  all_goals refine HL_r rfl rfl rfl rfl (R_indexPl (j := i) rfl hs rfl rfl rfl rfl (by omega)) ?_
                  all_goals refine HL_r rfl rfl rfl rfl (R_loadVl (fun q hq => Or.inr hq) rfl hs hx rfl rfl) ?_
                  all_goals refine HL_alloc (cs := #[_, _, _, _, _, _, _]) rfl rfl rfl rfl fun r1 => ?_
                  all_goals refine HL_r rfl rfl rfl rfl (R_assign rfl) ?_
                  all_goals refine HL_storeArr (k := 0) (n := 7) (ys := x.cells) rfl rfl rfl rfl rfl x.len rfl x.one rfl ?_
                  all_goals refine HL_nil ?_
                  all_goals (
                    refine HQ_then ?_
                    refine hK12 _ _ _ _ ?_; clear hK12 K12
                    refine HC_seq fun K13 hK13 => ?_
                    refine HC_region ?_
                    all_goals refine HL_r rfl rfl rfl rfl (R_move rfl) ?_
                    all_goals refine HL_r rfl rfl rfl rfl (R_move rfl) ?_
                    all_goals refine HL_r rfl rfl rfl rfl (R_indexPl (j := i) rfl hs' rfl rfl rfl rfl (by omega)) ?_
                    all_goals refine HL_r rfl rfl rfl rfl (R_loadVl (fun q hq => Or.inr hq) rfl hs' hy rfl rfl) ?_
                    all_goals refine HL_alloc (cs := #[_, _, _, _, _, _, _]) rfl rfl rfl rfl fun r2 => ?_
                    all_goals refine HL_storeArr (k := 0) (n := 7) (ys := y.cells) rfl rfl rfl rfl rfl y.len rfl y.one rfl ?_
                    all_goals refine HL_nil ?_
                    all_goals (
                      refine HQ_then ?_
                      refine hK13 _ _ _ _ ?_; clear hK13 K13
                      refine HC_seq fun K14 hK14 => ?_
                      refine HC_region ?_
                      all_goals refine HL_r rfl rfl rfl rfl (R_move rfl) ?_
                      all_goals refine HL_r rfl rfl rfl rfl (R_loadArr (xs := x.cells) (n := 7) rfl (known_L (k := 1) rfl) rfl rfl x.len) ?_
                      all_goals refine HL_r rfl rfl rfl rfl (R_loadArr (xs := y.cells) (n := 7) rfl (known_L (k := 0) rfl) rfl rfl y.len) ?_
                      all_goals refine HL_callR rfl rfl rfl eg (hg x hmx y hmy) (fun q hq => Or.inr hq) ?_
                      all_goals refine HL_r rfl rfl rfl rfl (R_pure rfl rfl rfl) ?_
                      all_goals refine HL_nil ?_
                      all_goals (
                        refine HQ_then ?_
                        refine hK14 _ _ _ _ ?_; clear hK14 K14
                        refine HC_cond rfl (fun h15 => ?_) (fun h15 => ?_)
                        · try exact Bool.noConfusion h15
                          all_goals try simp only [decide_eq_true_eq, decide_eq_false_iff_not, beq_iff_eq, beq_eq_false_iff_ne, bne_iff_ne, bne_eq_false_iff_eq, Bool.not_eq_true', Bool.not_eq_false', ne_eq, Int.not_lt, Int.not_le, ge_iff_le, gt_iff_lt] at h15
                          all_goals (
                            refine HC_seq fun K16 hK16 => ?_
                            refine HC_region ?_
                            all_goals refine HL_r rfl rfl rfl rfl (R_assign rfl) ?_
                            all_goals refine HL_nil ?_
                            all_goals (
                              refine HQ_then ?_
                              refine hK16 _ _ _ _ ?_; clear hK16 K16
                              refine HC_ret ?_
                              refine HQ_blockR ?_
                              refine HQ_thenR ?_; clear hK11 K11
                              refine HQ_thenR ?_
                              refine HQ_blockR ?_
                              refine HQ_thenR ?_; clear hK6 K6
                              refine HQ_post rfl rfl (.cons (res_tmp rfl) .nil) (fun w1 hs1 => ?_)
                              refine ⟨?_, hs1.keep⟩
                              first
                                | (have hse : sameL items items' = true := sameL_spec.2 ⟨hl2, fun q x y hx hy => hinv q (by have := (List.getElem?_eq_some_iff.1 hx).1; omega) x y hx hy⟩
                                   simp [resVal, hse]; done)
                                | (have hse : sameL items items' = false := same_ne hx hy (by assumption)
                                   simp [resVal, hse]; done)
                                | (have hse : sameL items items' = false := same_ln (by omega)
                                   simp [resVal, hse]; done)
                              skip)
                            skip)
                        · try exact Bool.noConfusion h15
                          all_goals try simp only [decide_eq_true_eq, decide_eq_false_iff_not, beq_iff_eq, beq_eq_false_iff_ne, bne_iff_ne, bne_eq_false_iff_eq, Bool.not_eq_true', Bool.not_eq_false', ne_eq, Int.not_lt, Int.not_le, ge_iff_le, gt_iff_lt] at h15
                          all_goals (
                            refine HC_skip ?_
                            refine HQ_blockN ?_
                            refine HQ_then ?_
                            refine hK11 _ _ _ _ ?_; clear hK11 K11
                            refine HC_region ?_
                            all_goals (refine HL_r rfl rfl rfl rfl (R_pure rfl rfl rfl) ?_; refine HL_wrap_i64 (by omega) (by omega) ?_)
                            all_goals refine HL_r rfl rfl rfl rfl (R_move rfl) ?_
                            all_goals refine HL_nil ?_
                            all_goals (
                              refine HQ_then ?_
                              exact HQ_again (i + 1) ⟨by omega, fun q hq u v hu hv => by
                                rcases Nat.lt_succ_iff_lt_or_eq.1 hq with hq | rfl
                                · exact hinv q hq u v hu hv
                                · rw [hx] at hu; rw [hy] at hv; cases hu; cases hv; assumption⟩ (by omega) (.cons rfl (.cons rfl (.cons rfl (.cons rfl (.cons rfl .nil))))) (List.nil_sublist _) (fun _ _ h => h)
                              skip)
                            skip)
                        skip)
                      skip)
                    skip)
                  skip)
              · try exact Bool.noConfusion h10
                all_goals try simp only [decide_eq_true_eq, decide_eq_false_iff_not, beq_iff_eq, beq_eq_false_iff_ne, bne_iff_ne, bne_eq_false_iff_eq, Bool.not_eq_true', Bool.not_eq_false', ne_eq, Int.not_lt, Int.not_le, ge_iff_le, gt_iff_lt] at h10
                all_goals (
                  refine HC_exit ?_
                  refine HQ_thenE ?_; clear hK9 K9
                  refine HQ_thenE ?_
                  refine HQ_blockE ?_
                  refine HQ_then ?_
                  refine hK6 _ _ _ _ ?_; clear hK6 K6
                  refine HC_seq fun K17 hK17 => ?_
                  refine HC_region ?_
                  all_goals refine HL_r rfl rfl rfl rfl (R_assign rfl) ?_
                  all_goals refine HL_nil ?_
                  all_goals (
                    refine HQ_then ?_
                    refine hK17 _ _ _ _ ?_; clear hK17 K17
                    refine HC_ret ?_
                    refine HQ_post rfl rfl (.cons (res_tmp rfl) .nil) (fun w1 hs1 => ?_)
                    refine ⟨?_, hs1.keep⟩
                    first
                      | (have hse : sameL items items' = true := sameL_spec.2 ⟨hl2, fun q x y hx hy => hinv q (by have := (List.getElem?_eq_some_iff.1 hx).1; omega) x y hx hy⟩
                         simp [resVal, hse]; done)
                      | (have hse : sameL items items' = false := same_ne hx hy (by assumption)
                         simp [resVal, hse]; done)
                      | (have hse : sameL items items' = false := same_ln (by omega)
                         simp [resVal, hse]; done)
                    skip)
                  skip)
              skip)
            skip)
          skip)
      skip)
    skip)
set_option maxRecDepth 10000 in
theorem S_rowsB {R : List (Nat × Obj)} {v0 v1 v2 v : Value} (h : PureR Tryd.prog 37 [v0, v1, v2].toArray v R) : PureR Tryd.prog 29 [v0, v1, v2].toArray v R := by
  refine pureR_of_HC Tryd.func29 rfl rfl fun w => ?_
  refine HC_seq fun K1 hK1 => ?_
  refine HC_region ?_
  all_goals refine HL_r rfl rfl rfl rfl (R_assign rfl) ?_
  all_goals refine HL_nil ?_
  all_goals (
    refine HQ_then ?_
    refine hK1 _ _ _ _ ?_; clear hK1 K1
    refine HC_seq fun K2 hK2 => ?_
    refine HC_region ?_
    all_goals refine HL_r rfl rfl rfl rfl (R_move rfl) ?_
    all_goals refine HL_r rfl rfl rfl rfl (R_move rfl) ?_
    all_goals refine HL_r rfl rfl rfl rfl (R_move rfl) ?_
    all_goals refine HL_callR rfl rfl rfl (enters_of Tryd.func37 (by kernel_rfl) rfl) h (fun q hq => Or.inr hq) ?_
    all_goals refine HL_r rfl rfl rfl rfl (R_assign rfl) ?_
    all_goals refine HL_nil ?_
    all_goals (
      refine HQ_then ?_
      refine hK2 _ _ _ _ ?_; clear hK2 K2
      refine HC_ret ?_
      refine HQ_post rfl rfl (.cons (res_tmp rfl) .nil) (fun w1 hs1 => ?_)
      exact ⟨rfl, hs1.keep⟩
      skip)
    skip)
set_option maxRecDepth 10000 in
theorem S_rowsV {R : List (Nat × Obj)} {v0 v1 v2 v : Value} (h : PureR Tryd.prog 38 [v0, v1, v2].toArray v R) : PureR Tryd.prog 30 [v0, v1, v2].toArray v R := by
  refine pureR_of_HC Tryd.func30 rfl rfl fun w => ?_
  refine HC_seq fun K1 hK1 => ?_
  refine HC_region ?_
  all_goals refine HL_r rfl rfl rfl rfl (R_assign rfl) ?_
  all_goals refine HL_nil ?_
  all_goals (
    refine HQ_then ?_
    refine hK1 _ _ _ _ ?_; clear hK1 K1
    refine HC_seq fun K2 hK2 => ?_
    refine HC_region ?_
    all_goals refine HL_r rfl rfl rfl rfl (R_move rfl) ?_
    all_goals refine HL_r rfl rfl rfl rfl (R_move rfl) ?_
    all_goals refine HL_r rfl rfl rfl rfl (R_move rfl) ?_
    all_goals refine HL_callR rfl rfl rfl (enters_of Tryd.func38 (by kernel_rfl) rfl) h (fun q hq => Or.inr hq) ?_
    all_goals refine HL_r rfl rfl rfl rfl (R_assign rfl) ?_
    all_goals refine HL_nil ?_
    all_goals (
      refine HQ_then ?_
      refine hK2 _ _ _ _ ?_; clear hK2 K2
      refine HC_ret ?_
      refine HQ_post rfl rfl (.cons (res_tmp rfl) .nil) (fun w1 hs1 => ?_)
      exact ⟨rfl, hs1.keep⟩
      skip)
    skip)
set_option maxRecDepth 10000 in
theorem S_Same {R : List (Nat × Obj)} {u : Vl} (hu : u.In R) : ∀ v : Vl, v.In R → PureR Tryd.prog 17 [u.val, v.val].toArray (.bool (sameV u v)) R := by
  induction hu with
  | @mk a b c d bits pb items pi pick ha hb hc hd hlb hsb hl hs hp hi ih =>
  intro v hv
  cases hv with
  | @mk a' b' c' d' bits' pb' items' pi' pick' ha' hb' hc' hd' hlb' hsb' hl' hs' hp' hi' =>
  rw [sameV_mk]
  have h1 := S_rowsB (S_eqBits hlb hlb' hsb hsb')
  have h2 := S_rowsV (S_eqVals (enters_of Tryd.func17 (by kernel_rfl) rfl) (fun x hx y hy => ih x hx y (hi' y hy)) hl hl' hs hs')
  refine pureR_of_HC Tryd.func17 rfl rfl fun w => ?_
  refine HC_seq fun K1 hK1 => ?_
  refine HC_region ?_
  all_goals refine HL_box (cs := #[_, _, _, _, _, _, _]) rfl rfl rfl rfl fun r1 => ?_
  all_goals refine HL_box (cs := #[_, _, _, _, _, _, _]) rfl rfl rfl rfl fun r2 => ?_
  all_goals refine HL_r rfl rfl rfl rfl (R_assign rfl) ?_
  all_goals refine HL_nil ?_
  all_goals (
    refine HQ_then ?_
    refine hK1 _ _ _ _ ?_; clear hK1 K1
    refine HC_seq fun K2 hK2 => ?_
    refine HC_region ?_
    all_goals refine HL_r rfl rfl rfl rfl (R_assign rfl) ?_
    all_goals refine HL_nil ?_
    all_goals (
      refine HQ_then ?_
      refine hK2 _ _ _ _ ?_; clear hK2 K2
      refine HC_seq fun K3 hK3 => ?_
      refine HC_region ?_
      all_goals refine HL_r rfl rfl rfl rfl (R_fieldAddr rfl rfl (by first | (simp only [Nat.zero_add, Nat.reduceAdd, Nat.reduceMul, Nat.zero_mul, Nat.mul_one, Nat.add_zero]; exact rfl) | exact rfl)) ?_
      all_goals (refine HL_r rfl rfl rfl rfl (R_loadA (vs := [_, _, _, _]) rfl (known_L (k := 1) rfl) rfl rfl rfl rfl) ?_)
      all_goals refine HL_r rfl rfl rfl rfl (R_fieldAddr rfl rfl (by first | (simp only [Nat.zero_add, Nat.reduceAdd, Nat.reduceMul, Nat.zero_mul, Nat.mul_one, Nat.add_zero]; exact rfl) | exact rfl)) ?_
      all_goals (refine HL_r rfl rfl rfl rfl (R_loadA (vs := [_, _, _, _]) rfl (known_L (k := 0) rfl) rfl rfl rfl rfl) ?_)
      all_goals refine HL_r rfl rfl rfl rfl (R_eqArr rfl rfl rfl rfl rfl (by kernel_rfl) rfl rfl rfl rfl) ?_
      all_goals first | (refine HL_as (congrArg Value.bool (eq_mapU (a := [a, b, c, d]) (b := [a', b', c', d']) rfl)) ?_) | skip
      all_goals refine HL_r rfl rfl rfl rfl (R_move rfl) ?_
      all_goals (refine HL_case 11 rfl (fun hb4 => ?_) (fun hb4 => ?_) <;> (try simp only [decide_eq_true_eq, decide_eq_false_iff_not, beq_iff_eq, beq_eq_false_iff_ne, bne_iff_ne, bne_eq_false_iff_eq, Bool.not_eq_true', Bool.not_eq_false', ne_eq, Int.not_lt, Int.not_le, ge_iff_le, gt_iff_lt] at hb4) <;> first | (refine HL_r rfl rfl rfl rfl (R_fieldAddr rfl rfl (by first | (simp only [Nat.zero_add, Nat.reduceAdd, Nat.reduceMul, Nat.zero_mul, Nat.mul_one, Nat.add_zero]; exact rfl) | exact rfl)) ?_) | (refine HL_skip rfl rfl rfl ?_))
      all_goals first
        | (refine HL_r rfl rfl rfl rfl (R_load rfl (known_L (k := 1) rfl) rfl rfl) ?_)
        | (refine HL_skip rfl rfl rfl ?_)
      all_goals first
        | (refine HL_r rfl rfl rfl rfl (R_fieldAddr rfl rfl (by first | (simp only [Nat.zero_add, Nat.reduceAdd, Nat.reduceMul, Nat.zero_mul, Nat.mul_one, Nat.add_zero]; exact rfl) | exact rfl)) ?_)
        | (refine HL_skip rfl rfl rfl ?_)
      all_goals first
        | (refine HL_r rfl rfl rfl rfl (R_load rfl (known_L (k := 0) rfl) rfl rfl) ?_)
        | (refine HL_skip rfl rfl rfl ?_)
      all_goals first
        | (refine HL_r rfl rfl rfl rfl (R_pure rfl rfl rfl) ?_)
        | (refine HL_skip rfl rfl rfl ?_)
      all_goals first
        | (refine HL_r rfl rfl rfl rfl (R_pickT rfl rfl) ?_)
        | (refine HL_r rfl rfl rfl rfl (R_pickF rfl rfl) ?_)
      all_goals refine HL_r rfl rfl rfl rfl (R_move rfl) ?_
      all_goals first
        | (refine HL_skip rfl rfl rfl ?_)
        | (refine HL_case 18 rfl (fun hb9 => ?_) (fun hb9 => ?_) <;> (try simp only [decide_eq_true_eq, decide_eq_false_iff_not, beq_iff_eq, beq_eq_false_iff_ne, bne_iff_ne, bne_eq_false_iff_eq, Bool.not_eq_true', Bool.not_eq_false', ne_eq, Int.not_lt, Int.not_le, ge_iff_le, gt_iff_lt] at hb9) <;> first | (refine HL_r rfl rfl rfl rfl (R_fieldAddr rfl rfl (by first | (simp only [Nat.zero_add, Nat.reduceAdd, Nat.reduceMul, Nat.zero_mul, Nat.mul_one, Nat.add_zero]; exact rfl) | exact rfl)) ?_) | (refine HL_skip rfl rfl rfl ?_))
      all_goals first
        | (refine HL_r rfl rfl rfl rfl (R_load rfl (known_L (k := 1) rfl) rfl rfl) ?_)
        | (refine HL_skip rfl rfl rfl ?_)
      all_goals first
        | (refine HL_r rfl rfl rfl rfl (R_fieldAddr rfl rfl (by first | (simp only [Nat.zero_add, Nat.reduceAdd, Nat.reduceMul, Nat.zero_mul, Nat.mul_one, Nat.add_zero]; exact rfl) | exact rfl)) ?_)
        | (refine HL_skip rfl rfl rfl ?_)
      all_goals first
        | (refine HL_r rfl rfl rfl rfl (R_load rfl (known_L (k := 0) rfl) rfl rfl) ?_)
        | (refine HL_skip rfl rfl rfl ?_)
      all_goals first
        | (refine HL_r rfl rfl rfl rfl (R_move rfl) ?_)
        | (refine HL_skip rfl rfl rfl ?_)
      all_goals first
        | (refine HL_callR rfl rfl rfl (enters_of Tryd.func29 (by kernel_rfl) rfl) h1 (fun q hq => Or.inr hq) ?_)
        | (refine HL_skip rfl rfl rfl ?_)
      all_goals first
        | (refine HL_r rfl rfl rfl rfl (R_pickT rfl rfl) ?_)
        | (refine HL_r rfl rfl rfl rfl (R_pickF rfl rfl) ?_)
      all_goals refine HL_r rfl rfl rfl rfl (R_move rfl) ?_
      all_goals first
        | (refine HL_skip rfl rfl rfl ?_)
        | (refine HL_case 26 rfl (fun hb15 => ?_) (fun hb15 => ?_) <;> (try simp only [decide_eq_true_eq, decide_eq_false_iff_not, beq_iff_eq, beq_eq_false_iff_ne, bne_iff_ne, bne_eq_false_iff_eq, Bool.not_eq_true', Bool.not_eq_false', ne_eq, Int.not_lt, Int.not_le, ge_iff_le, gt_iff_lt] at hb15) <;> first | (refine HL_r rfl rfl rfl rfl (R_fieldAddr rfl rfl (by first | (simp only [Nat.zero_add, Nat.reduceAdd, Nat.reduceMul, Nat.zero_mul, Nat.mul_one, Nat.add_zero]; exact rfl) | exact rfl)) ?_) | (refine HL_skip rfl rfl rfl ?_))
      all_goals first
        | (refine HL_r rfl rfl rfl rfl (R_load rfl (known_L (k := 1) rfl) rfl rfl) ?_)
        | (refine HL_skip rfl rfl rfl ?_)
      all_goals first
        | (refine HL_r rfl rfl rfl rfl (R_fieldAddr rfl rfl (by first | (simp only [Nat.zero_add, Nat.reduceAdd, Nat.reduceMul, Nat.zero_mul, Nat.mul_one, Nat.add_zero]; exact rfl) | exact rfl)) ?_)
        | (refine HL_skip rfl rfl rfl ?_)
      all_goals first
        | (refine HL_r rfl rfl rfl rfl (R_load rfl (known_L (k := 0) rfl) rfl rfl) ?_)
        | (refine HL_skip rfl rfl rfl ?_)
      all_goals first
        | (refine HL_callR rfl rfl rfl (enters_of Tryd.func30 (by kernel_rfl) rfl) h2 (fun q hq => Or.inr hq) ?_)
        | (refine HL_skip rfl rfl rfl ?_)
      all_goals first
        | (refine HL_r rfl rfl rfl rfl (R_pickT rfl rfl) ?_)
        | (refine HL_r rfl rfl rfl rfl (R_pickF rfl rfl) ?_)
      all_goals refine HL_r rfl rfl rfl rfl (R_assign rfl) ?_
      all_goals refine HL_nil ?_
      all_goals (
        refine HQ_then ?_
        refine hK3 _ _ _ _ ?_; clear hK3 K3
        refine HC_ret ?_
        refine HQ_post rfl rfl (.cons (res_tmp rfl) .nil) (fun w1 hs1 => ?_)
        refine ⟨?_, hs1.keep⟩
        simp_all [resVal]
        all_goals first | done | rfl | omega
        skip)
      skip)
    skip)
end Go.Proofs.YtdadaddakcidjaaDoor
