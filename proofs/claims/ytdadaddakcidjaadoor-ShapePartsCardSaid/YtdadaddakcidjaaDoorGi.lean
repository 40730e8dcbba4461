import Derived.Test.YtdadaddakcidjaaDoorGh
namespace Go.Proofs.YtdadaddakcidjaaDoor
set_option linter.all false
open Go.SL Go.RowKit Go.Shelf
/-! values of some of their parts alone -/
def vBlk (r : Nat) (v : Vl) : Nat × Obj := (r, .cells v.cells.toArray 31 (0, 0))
def zVl : Vl := .mk 0 0 0 0 [] none [] none 0
def clV (f : FuncId) (r : Nat) : Value := .func (.func f) #[] #[.pointer (some ⟨r, 0, none⟩)]
/-- What a part that is kept owes. -/
def Keeps (f : FuncId) (v out : Vl) : Prop := ∀ r1 rr : Nat, r1 ≠ rr → PureMR Tryd.prog f [.pointer (some ⟨rr, 0, none⟩), .pointer (some ⟨r1, 0, none⟩)].toArray (.tuple #[]) rr (vBlk rr zVl).2 (vBlk rr out).2 [vBlk r1 v]
set_option maxRecDepth 10000 in
theorem K_number (a b c d : Nat) (bits : List Bool) (pb : Pl) (items : List Vl) (pi : Pl) (pick : Int) : Keeps 82 (.mk a b c d bits pb items pi pick) (.mk a b c d [] none [] none 0) := fun r1 rr hne => by
  refine pureMR_of_HC (fun p hp => by rw [List.mem_singleton.1 hp]; exact hne) Tryd.func82 rfl rfl fun w => ?_
  refine HC_region ?_
  all_goals refine HL_r rfl rfl rfl rfl (R_move rfl) ?_
  all_goals refine HL_r rfl rfl rfl rfl (R_fieldAddr rfl rfl (by first | (simp only [Nat.zero_add, Nat.reduceAdd, Nat.reduceMul, Nat.zero_mul, Nat.mul_one, Nat.add_zero]; exact rfl) | exact rfl)) ?_
  all_goals first
    | (refine HL_r rfl rfl rfl rfl (R_loadA (vs := [_, _, _, _]) rfl (known_L (k := 0) rfl) rfl rfl rfl rfl) ?_)
    | (refine HL_r rfl rfl rfl rfl (R_loadA (vs := [_, _, _, _]) rfl (known_R (k := 0) rfl) rfl rfl rfl rfl) ?_)
  all_goals refine HL_r rfl rfl rfl rfl (R_pure rfl rfl rfl) ?_
  all_goals refine HL_r rfl rfl rfl rfl (R_fieldAddr rfl rfl (by first | (simp only [Nat.zero_add, Nat.reduceAdd, Nat.reduceMul, Nat.zero_mul, Nat.mul_one, Nat.add_zero]; exact rfl) | exact rfl)) ?_
  all_goals first
    | (refine HL_storeA (k := 0) (n := 4) (cs' := #[_, _, _, _]) (vs := #[_, _, _, _]) rfl rfl rfl rfl rfl rfl rfl (by exact Nat.le_of_ble_eq_true rfl) rfl (by first | (simp only [List.set_cons_zero, List.set_cons_succ]; exact rfl) | exact rfl) ?_)
    | (refine HL_storeA (k := 0) (n := 4) (vs := #[_, _, _, _]) rfl rfl rfl rfl rfl rfl rfl (by exact Nat.le_of_ble_eq_true rfl) (by first | (simp only [List.take_zero, List.nil_append, Array.toList_toArray, List.drop_succ_cons, List.drop_zero, List.take_succ_cons, List.cons_append, Nat.zero_add, Nat.reduceAdd, List.append_nil, List.drop_nil]; exact rfl) | exact rfl) (by first | (simp only [List.set_cons_zero, List.set_cons_succ]; exact rfl) | exact rfl) ?_)
  all_goals refine HL_nil ?_
  all_goals (
    refine HQ_postN rfl rfl .nil (fun w1 hs1 => ?_)
    exact ⟨rfl, _, List.mem_cons_self, hs1⟩
    skip)
set_option maxRecDepth 10000 in
theorem K_items (a b c d : Nat) (bits : List Bool) (pb : Pl) (items : List Vl) (pi : Pl) (pick : Int) : Keeps 86 (.mk a b c d bits pb items pi pick) (.mk 0 0 0 0 [] none items pi 0) := fun r1 rr hne => by
  refine pureMR_of_HC (fun p hp => by rw [List.mem_singleton.1 hp]; exact hne) Tryd.func86 rfl rfl fun w => ?_
  refine HC_region ?_
  all_goals refine HL_r rfl rfl rfl rfl (R_move rfl) ?_
  all_goals refine HL_r rfl rfl rfl rfl (R_fieldAddr rfl rfl (by first | (simp only [Nat.zero_add, Nat.reduceAdd, Nat.reduceMul, Nat.zero_mul, Nat.mul_one, Nat.add_zero]; exact rfl) | exact rfl)) ?_
  all_goals first
    | (refine HL_r rfl rfl rfl rfl (R_load rfl (known_L (k := 0) rfl) rfl rfl) ?_)
    | (refine HL_r rfl rfl rfl rfl (R_load rfl (known_R (k := 0) rfl) rfl rfl) ?_)
  all_goals refine HL_r rfl rfl rfl rfl (R_pure rfl rfl rfl) ?_
  all_goals refine HL_r rfl rfl rfl rfl (R_fieldAddr rfl rfl (by first | (simp only [Nat.zero_add, Nat.reduceAdd, Nat.reduceMul, Nat.zero_mul, Nat.mul_one, Nat.add_zero]; exact rfl) | exact rfl)) ?_
  all_goals refine HL_store (k := 0) rfl rfl rfl rfl rfl rfl rfl rfl (by first | (simp only [List.setIfInBounds_toArray, List.set_cons_zero, List.set_cons_succ]; exact rfl) | exact rfl) (by first | (simp only [List.set_cons_zero, List.set_cons_succ]; exact rfl) | exact rfl) ?_
  all_goals refine HL_nil ?_
  all_goals (
    refine HQ_postN rfl rfl .nil (fun w1 hs1 => ?_)
    exact ⟨rfl, _, List.mem_cons_self, hs1⟩
    skip)
set_option maxRecDepth 10000 in
theorem K_bits (a b c d : Nat) (bits : List Bool) (pb : Pl) (items : List Vl) (pi : Pl) (pick : Int) : Keeps 87 (.mk a b c d bits pb items pi pick) (.mk 0 0 0 0 bits pb [] none 0) := fun r1 rr hne => by
  refine pureMR_of_HC (fun p hp => by rw [List.mem_singleton.1 hp]; exact hne) Tryd.func87 rfl rfl fun w => ?_
  refine HC_region ?_
  all_goals refine HL_r rfl rfl rfl rfl (R_move rfl) ?_
  all_goals refine HL_r rfl rfl rfl rfl (R_fieldAddr rfl rfl (by first | (simp only [Nat.zero_add, Nat.reduceAdd, Nat.reduceMul, Nat.zero_mul, Nat.mul_one, Nat.add_zero]; exact rfl) | exact rfl)) ?_
  all_goals first
    | (refine HL_r rfl rfl rfl rfl (R_load rfl (known_L (k := 0) rfl) rfl rfl) ?_)
    | (refine HL_r rfl rfl rfl rfl (R_load rfl (known_R (k := 0) rfl) rfl rfl) ?_)
  all_goals refine HL_r rfl rfl rfl rfl (R_pure rfl rfl rfl) ?_
  all_goals refine HL_r rfl rfl rfl rfl (R_fieldAddr rfl rfl (by first | (simp only [Nat.zero_add, Nat.reduceAdd, Nat.reduceMul, Nat.zero_mul, Nat.mul_one, Nat.add_zero]; exact rfl) | exact rfl)) ?_
  all_goals refine HL_store (k := 0) rfl rfl rfl rfl rfl rfl rfl rfl (by first | (simp only [List.setIfInBounds_toArray, List.set_cons_zero, List.set_cons_succ]; exact rfl) | exact rfl) (by first | (simp only [List.set_cons_zero, List.set_cons_succ]; exact rfl) | exact rfl) ?_
  all_goals refine HL_nil ?_
  all_goals (
    refine HQ_postN rfl rfl .nil (fun w1 hs1 => ?_)
    exact ⟨rfl, _, List.mem_cons_self, hs1⟩
    skip)
set_option maxRecDepth 10000 in
theorem K_pick (a b c d : Nat) (bits : List Bool) (pb : Pl) (items : List Vl) (pi : Pl) (pick : Int) : Keeps 88 (.mk a b c d bits pb items pi pick) (.mk 0 0 0 0 [] none items pi pick) := fun r1 rr hne => by
  refine pureMR_of_HC (fun p hp => by rw [List.mem_singleton.1 hp]; exact hne) Tryd.func88 rfl rfl fun w => ?_
  refine HC_drawB [] [(0, .pure), (1, .pure), (2, .pure), (3, .pure), (4, .pure), (5, .pure), (6, .pure), (7, .pure), (8, .turn), (9, .pure), (10, .pure), (11, .turn)] 12 [0, 1, 2, 3, 4, 5, 6, 7, 8, 9, 10, 11] (by kernel_rfl) (by kernel_rfl) (by first | exact (fun _ h => nomatch h) | simp [SubS]) ?_
  all_goals refine HB_p (k := 0) rfl rfl rfl rfl rfl (fun _ hS => (R_move rfl)) ?_
  all_goals refine HB_p (k := 1) rfl rfl rfl rfl rfl (fun _ hS => (R_move rfl)) ?_
  all_goals refine HB_p (k := 2) rfl rfl rfl rfl rfl (fun _ hS => (R_fieldAddr rfl rfl (by first | (simp only [Nat.zero_add, Nat.reduceAdd, Nat.reduceMul, Nat.zero_mul, Nat.mul_one, Nat.add_zero]; exact rfl) | exact rfl))) ?_
  all_goals refine HB_p (k := 3) rfl rfl rfl rfl rfl (fun _ hS => (R_load rfl (known_R (k := 0) rfl) rfl rfl)) ?_
  all_goals refine HB_p (k := 4) rfl rfl rfl rfl rfl (fun _ hS => (R_fieldAddr rfl rfl (by first | (simp only [Nat.zero_add, Nat.reduceAdd, Nat.reduceMul, Nat.zero_mul, Nat.mul_one, Nat.add_zero]; exact rfl) | exact rfl))) ?_
  all_goals refine HB_p (k := 5) rfl rfl rfl rfl rfl (fun _ hS => (R_load rfl (known_R (k := 0) rfl) rfl rfl)) ?_
  all_goals refine HB_p (k := 6) rfl rfl rfl rfl rfl (fun _ hS => (R_pure rfl rfl rfl)) ?_
  all_goals refine HB_p (k := 7) rfl rfl rfl rfl rfl (fun _ hS => (R_fieldAddr rfl rfl (by first | (simp only [Nat.zero_add, Nat.reduceAdd, Nat.reduceMul, Nat.zero_mul, Nat.mul_one, Nat.add_zero]; exact rfl) | exact rfl))) ?_
  all_goals refine HB_store (k := 8) (q := 0) rfl rfl rfl rfl rfl rfl rfl rfl rfl (by first | (simp only [List.setIfInBounds_toArray, List.set_cons_zero, List.set_cons_succ]; exact rfl) | exact rfl) (by first | (simp only [List.set_cons_zero, List.set_cons_succ]; exact rfl) | exact rfl) (by first | exact (fun _ h => nomatch h) | simp [SubS]) ?_
  all_goals refine HB_p (k := 9) rfl rfl rfl rfl rfl (fun _ hS => (R_pure rfl rfl rfl)) ?_
  all_goals refine HB_p (k := 10) rfl rfl rfl rfl rfl (fun _ hS => (R_fieldAddr rfl rfl (by first | (simp only [Nat.zero_add, Nat.reduceAdd, Nat.reduceMul, Nat.zero_mul, Nat.mul_one, Nat.add_zero]; exact rfl) | exact rfl))) ?_
  all_goals refine HB_store (k := 11) (q := 0) rfl rfl rfl rfl rfl rfl rfl rfl rfl (by first | (simp only [List.setIfInBounds_toArray, List.set_cons_zero, List.set_cons_succ]; exact rfl) | exact rfl) (by first | (simp only [List.set_cons_zero, List.set_cons_succ]; exact rfl) | exact rfl) (by first | exact (fun _ h => nomatch h) | simp [SubS]) ?_
  all_goals refine HB_end ?_
  all_goals refine HL_nil ?_
  all_goals (
    refine HQ_postN rfl rfl .nil (fun w1 hs1 => ?_)
    exact ⟨rfl, _, List.mem_cons_self, hs1⟩
    skip)
set_option maxRecDepth 10000 in
theorem S_bare {R : List (Nat × Obj)} {v out : Vl} {f : FuncId} {rv : Nat} (ef : Enters Tryd.prog f) (hv : v.In R) (ho : out.In R) (hk : Keeps f v out) (hr : vBlk rv v ∈ R) : PureR Tryd.prog 81 [v.val, clV f rv].toArray (.bool (sameV v out)) R := by
  have hsm := S_Same hv out ho
  obtain ⟨a, b, c, d, bits, pb, items, pi, pick⟩ := v
  obtain ⟨a', b', c', d', bits', pb', items', pi', pick'⟩ := out
  refine pureR_of_HC Tryd.func81 rfl rfl fun w => ?_
  refine HC_seq fun K1 hK1 => ?_
  refine HC_region ?_
  all_goals refine HL_box (cs := #[_, _, _, _, _, _, _]) rfl rfl rfl rfl fun r1 => ?_
  all_goals refine HL_r rfl rfl rfl rfl (R_assign rfl) ?_
  all_goals refine HL_nil ?_
  all_goals (
    refine HQ_then ?_
    refine hK1 _ _ _ _ ?_; clear hK1 K1
    refine HC_seq fun K2 hK2 => ?_
    refine HC_region ?_
    all_goals refine HL_alloc (cs := #[_, _, _, _, _, _, _]) rfl rfl rfl rfl fun r2 => ?_
    all_goals refine HL_nil ?_
    all_goals (
      refine HQ_then ?_
      refine hK2 _ _ _ _ ?_; clear hK2 K2
      refine HC_seq fun K3 hK3 => ?_
      refine HC_region ?_
      all_goals refine HL_r rfl rfl rfl rfl (R_move rfl) ?_
      all_goals refine HL_callMR (k := 0) rfl rfl rfl ef rfl (fun hne => hk rv r2 (hne _ List.mem_cons_self)) (fun q hq => by rw [List.mem_singleton.1 hq]; exact hr) rfl ?_
      all_goals refine HL_nil ?_
      all_goals (
        refine HQ_then ?_
        refine hK3 _ _ _ _ ?_; clear hK3 K3
        refine HC_seq fun K4 hK4 => ?_
        refine HC_region ?_
        all_goals first
          | (refine HL_r rfl rfl rfl rfl (R_loadA (vs := [_, _, _, _, _, _, _]) rfl (known_L (k := 0) rfl) rfl rfl rfl rfl) ?_)
          | (refine HL_r rfl rfl rfl rfl (R_loadA (vs := [_, _, _, _, _, _, _]) rfl (known_L (k := 1) rfl) rfl rfl rfl rfl) ?_)
        all_goals first
          | (refine HL_r rfl rfl rfl rfl (R_loadA (vs := [_, _, _, _, _, _, _]) rfl (known_L (k := 0) rfl) rfl rfl rfl rfl) ?_)
          | (refine HL_r rfl rfl rfl rfl (R_loadA (vs := [_, _, _, _, _, _, _]) rfl (known_L (k := 1) rfl) rfl rfl rfl rfl) ?_)
        all_goals refine HL_callR rfl rfl rfl (enters_of Tryd.func17 (by kernel_rfl) rfl) hsm (fun q hq => Or.inr hq) ?_
        all_goals refine HL_r rfl rfl rfl rfl (R_assign rfl) ?_
        all_goals refine HL_nil ?_
        all_goals (
          refine HQ_then ?_
          refine hK4 _ _ _ _ ?_; clear hK4 K4
          refine HC_ret ?_
          refine HQ_post rfl rfl (.cons (res_tmp rfl) .nil) (fun w1 hs1 => ?_)
          exact ⟨rfl, hs1.keep⟩
          skip)
        skip)
      skip)
    skip)
theorem In_bits {R : List (Nat × Obj)} {a b c d : Nat} {bits : List Bool} {pb : Pl} {items : List Vl} {pi : Pl} {pick : Int} (h : Vl.In R (.mk a b c d bits pb items pi pick)) : Vl.In R (.mk a b c d [] none [] none 0) ∧ Vl.In R (.mk 0 0 0 0 [] none items pi 0) ∧ Vl.In R (.mk 0 0 0 0 bits pb [] none 0) ∧ Vl.In R (.mk 0 0 0 0 [] none items pi pick) := by
  cases h with
  | mk ha hb hc hd hlb hsb hl hs hp hi =>
  have z : U64 0 := by unfold U64; omega
  have i0 : I64 0 := by unfold I64; omega
  refine ⟨.mk ha hb hc hd (by simp) rfl (by simp) rfl i0 (by simp), .mk z z z z (by simp) rfl hl hs i0 hi, .mk z z z z hlb hsb (by simp) rfl i0 (by simp), .mk z z z z (by simp) rfl hl hs hp hi⟩
theorem sameL_refl (l : List Vl) : sameL l l = true := sameL_spec.2 ⟨rfl, fun i x y hx hy => by rw [hx] at hy; cases hy; exact sameV_refl x⟩
theorem sameL_nil (l : List Vl) : sameL l [] = decide (l.length = 0) := by cases l <;> simp [sameL]
theorem bare_number {a b c d : Nat} {bits : List Bool} {pb : Pl} {items : List Vl} {pi : Pl} {pick : Int} : sameV (.mk a b c d bits pb items pi pick) (.mk a b c d [] none [] none 0) = onlyB (.mk a b c d bits pb items pi pick) true false false false := by
  rw [sameV_mk, onlyB_mk, sameL_nil]
  by_cases h1 : bits = [] <;> by_cases h2 : items = [] <;> by_cases h3 : pick = 0 <;> simp [h1, h2, h3]
theorem bare_items {a b c d : Nat} {bits : List Bool} {pb : Pl} {items : List Vl} {pi : Pl} {pick : Int} : sameV (.mk a b c d bits pb items pi pick) (.mk 0 0 0 0 [] none items pi 0) = onlyB (.mk a b c d bits pb items pi pick) false false true false := by
  rw [sameV_mk, onlyB_mk, sameL_refl]
  by_cases h1 : bits = [] <;> by_cases h3 : pick = 0 <;> simp [h1, h3]
theorem bare_bits {a b c d : Nat} {bits : List Bool} {pb : Pl} {items : List Vl} {pi : Pl} {pick : Int} : sameV (.mk a b c d bits pb items pi pick) (.mk 0 0 0 0 bits pb [] none 0) = onlyB (.mk a b c d bits pb items pi pick) false true false false := by
  rw [sameV_mk, onlyB_mk, sameL_nil]
  by_cases h2 : items = [] <;> by_cases h3 : pick = 0 <;> simp [h2, h3]
theorem bare_pick {a b c d : Nat} {bits : List Bool} {pb : Pl} {items : List Vl} {pi : Pl} {pick : Int} : sameV (.mk a b c d bits pb items pi pick) (.mk 0 0 0 0 [] none items pi pick) = onlyB (.mk a b c d bits pb items pi pick) false false true true := by
  rw [sameV_mk, onlyB_mk, sameL_refl]
  by_cases h1 : bits = [] <;> simp [h1]
set_option maxRecDepth 10000 in
theorem S_number {R : List (Nat × Obj)} {v : Vl} (hv : v.In R) : PureR Tryd.prog 46 [v.val].toArray (.bool (onlyB v true false false false)) R := by
  obtain ⟨a, b, c, d, bits, pb, items, pi, pick⟩ := v
  have hb4 := In_bits hv
  refine pureR_of_HC Tryd.func46 rfl rfl fun w => ?_
  rw [← bare_number (pb := pb) (pi := pi)]
  refine HC_seq fun K1 hK1 => ?_
  refine HC_region ?_
  all_goals refine HL_box (cs := #[_, _, _, _, _, _, _]) rfl rfl rfl rfl fun r1 => ?_
  all_goals refine HL_r rfl rfl rfl rfl (R_assign rfl) ?_
  all_goals refine HL_nil ?_
  all_goals (
    refine HQ_then ?_
    refine hK1 _ _ _ _ ?_; clear hK1 K1
    refine HC_seq fun K2 hK2 => ?_
    refine HC_region ?_
    all_goals refine HL_r rfl rfl rfl rfl (R_loadA (vs := [_, _, _, _, _, _, _]) rfl (known_L (k := 0) rfl) rfl rfl rfl rfl) ?_
    all_goals refine HL_r rfl rfl rfl rfl (R_makeFunc rfl rfl) ?_
    all_goals refine HL_callR (Rl := vBlk r1 (.mk a b c d bits pb items pi pick) :: R) rfl rfl rfl (enters_of Tryd.func81 (by kernel_rfl) rfl) (S_bare (enters_of Tryd.func82 (by kernel_rfl) rfl) (hv.mono fun q hq => List.mem_cons_of_mem _ hq) (hb4.1.mono fun q hq => List.mem_cons_of_mem _ hq) (K_number a b c d bits pb items pi pick) List.mem_cons_self) (fun q hq => by rcases List.mem_cons.1 hq with rfl | hq; exact .inl List.mem_cons_self; exact .inr hq) ?_
    all_goals refine HL_r rfl rfl rfl rfl (R_assign rfl) ?_
    all_goals refine HL_nil ?_
    all_goals (
      refine HQ_then ?_
      refine hK2 _ _ _ _ ?_; clear hK2 K2
      refine HC_ret ?_
      refine HQ_post rfl rfl (.cons (res_tmp rfl) .nil) (fun w1 hs1 => ?_)
      exact ⟨rfl, hs1.keep⟩
      skip)
    skip)
set_option maxRecDepth 10000 in
theorem S_items {R : List (Nat × Obj)} {v : Vl} (hv : v.In R) : PureR Tryd.prog 59 [v.val].toArray (.bool (onlyB v false false true false)) R := by
  obtain ⟨a, b, c, d, bits, pb, items, pi, pick⟩ := v
  have hb4 := In_bits hv
  refine pureR_of_HC Tryd.func59 rfl rfl fun w => ?_
  rw [← bare_items (pb := pb) (pi := pi)]
  refine HC_seq fun K1 hK1 => ?_
  refine HC_region ?_
  all_goals refine HL_box (cs := #[_, _, _, _, _, _, _]) rfl rfl rfl rfl fun r1 => ?_
  all_goals refine HL_r rfl rfl rfl rfl (R_assign rfl) ?_
  all_goals refine HL_nil ?_
  all_goals (
    refine HQ_then ?_
    refine hK1 _ _ _ _ ?_; clear hK1 K1
    refine HC_seq fun K2 hK2 => ?_
    refine HC_region ?_
    all_goals refine HL_r rfl rfl rfl rfl (R_loadA (vs := [_, _, _, _, _, _, _]) rfl (known_L (k := 0) rfl) rfl rfl rfl rfl) ?_
    all_goals refine HL_r rfl rfl rfl rfl (R_makeFunc rfl rfl) ?_
    all_goals refine HL_callR (Rl := vBlk r1 (.mk a b c d bits pb items pi pick) :: R) rfl rfl rfl (enters_of Tryd.func81 (by kernel_rfl) rfl) (S_bare (enters_of Tryd.func86 (by kernel_rfl) rfl) (hv.mono fun q hq => List.mem_cons_of_mem _ hq) (hb4.2.1.mono fun q hq => List.mem_cons_of_mem _ hq) (K_items a b c d bits pb items pi pick) List.mem_cons_self) (fun q hq => by rcases List.mem_cons.1 hq with rfl | hq; exact .inl List.mem_cons_self; exact .inr hq) ?_
    all_goals refine HL_r rfl rfl rfl rfl (R_assign rfl) ?_
    all_goals refine HL_nil ?_
    all_goals (
      refine HQ_then ?_
      refine hK2 _ _ _ _ ?_; clear hK2 K2
      refine HC_ret ?_
      refine HQ_post rfl rfl (.cons (res_tmp rfl) .nil) (fun w1 hs1 => ?_)
      exact ⟨rfl, hs1.keep⟩
      skip)
    skip)
set_option maxRecDepth 10000 in
theorem S_bits {R : List (Nat × Obj)} {v : Vl} (hv : v.In R) : PureR Tryd.prog 66 [v.val].toArray (.bool (onlyB v false true false false)) R := by
  obtain ⟨a, b, c, d, bits, pb, items, pi, pick⟩ := v
  have hb4 := In_bits hv
  refine pureR_of_HC Tryd.func66 rfl rfl fun w => ?_
  rw [← bare_bits (pb := pb) (pi := pi)]
  refine HC_seq fun K1 hK1 => ?_
  refine HC_region ?_
  all_goals refine HL_box (cs := #[_, _, _, _, _, _, _]) rfl rfl rfl rfl fun r1 => ?_
  all_goals refine HL_r rfl rfl rfl rfl (R_assign rfl) ?_
  all_goals refine HL_nil ?_
  all_goals (
    refine HQ_then ?_
    refine hK1 _ _ _ _ ?_; clear hK1 K1
    refine HC_seq fun K2 hK2 => ?_
    refine HC_region ?_
    all_goals refine HL_r rfl rfl rfl rfl (R_loadA (vs := [_, _, _, _, _, _, _]) rfl (known_L (k := 0) rfl) rfl rfl rfl rfl) ?_
    all_goals refine HL_r rfl rfl rfl rfl (R_makeFunc rfl rfl) ?_
    all_goals refine HL_callR (Rl := vBlk r1 (.mk a b c d bits pb items pi pick) :: R) rfl rfl rfl (enters_of Tryd.func81 (by kernel_rfl) rfl) (S_bare (enters_of Tryd.func87 (by kernel_rfl) rfl) (hv.mono fun q hq => List.mem_cons_of_mem _ hq) (hb4.2.2.1.mono fun q hq => List.mem_cons_of_mem _ hq) (K_bits a b c d bits pb items pi pick) List.mem_cons_self) (fun q hq => by rcases List.mem_cons.1 hq with rfl | hq; exact .inl List.mem_cons_self; exact .inr hq) ?_
    all_goals refine HL_r rfl rfl rfl rfl (R_assign rfl) ?_
    all_goals refine HL_nil ?_
    all_goals (
      refine HQ_then ?_
      refine hK2 _ _ _ _ ?_; clear hK2 K2
      refine HC_ret ?_
      refine HQ_post rfl rfl (.cons (res_tmp rfl) .nil) (fun w1 hs1 => ?_)
      exact ⟨rfl, hs1.keep⟩
      skip)
    skip)
set_option maxRecDepth 10000 in
theorem S_pick {R : List (Nat × Obj)} {v : Vl} (hv : v.In R) : PureR Tryd.prog 75 [v.val].toArray (.bool (onlyB v false false true true)) R := by
  obtain ⟨a, b, c, d, bits, pb, items, pi, pick⟩ := v
  have hb4 := In_bits hv
  refine pureR_of_HC Tryd.func75 rfl rfl fun w => ?_
  rw [← bare_pick (pb := pb) (pi := pi)]
  refine HC_seq fun K1 hK1 => ?_
  refine HC_region ?_
  all_goals refine HL_box (cs := #[_, _, _, _, _, _, _]) rfl rfl rfl rfl fun r1 => ?_
  all_goals refine HL_r rfl rfl rfl rfl (R_assign rfl) ?_
  all_goals refine HL_nil ?_
  all_goals (
    refine HQ_then ?_
    refine hK1 _ _ _ _ ?_; clear hK1 K1
    refine HC_seq fun K2 hK2 => ?_
    refine HC_region ?_
    all_goals refine HL_r rfl rfl rfl rfl (R_loadA (vs := [_, _, _, _, _, _, _]) rfl (known_L (k := 0) rfl) rfl rfl rfl rfl) ?_
    all_goals refine HL_r rfl rfl rfl rfl (R_makeFunc rfl rfl) ?_
    all_goals refine HL_callR (Rl := vBlk r1 (.mk a b c d bits pb items pi pick) :: R) rfl rfl rfl (enters_of Tryd.func81 (by kernel_rfl) rfl) (S_bare (enters_of Tryd.func88 (by kernel_rfl) rfl) (hv.mono fun q hq => List.mem_cons_of_mem _ hq) (hb4.2.2.2.mono fun q hq => List.mem_cons_of_mem _ hq) (K_pick a b c d bits pb items pi pick) List.mem_cons_self) (fun q hq => by rcases List.mem_cons.1 hq with rfl | hq; exact .inl List.mem_cons_self; exact .inr hq) ?_
    all_goals refine HL_r rfl rfl rfl rfl (R_assign rfl) ?_
    all_goals refine HL_nil ?_
    all_goals (
      refine HQ_then ?_
      refine hK2 _ _ _ _ ?_; clear hK2 K2
      refine HC_ret ?_
      refine HQ_post rfl rfl (.cons (res_tmp rfl) .nil) (fun w1 hs1 => ?_)
      exact ⟨rfl, hs1.keep⟩
      skip)
    skip)
end Go.Proofs.YtdadaddakcidjaaDoor
