import Derived.Test.YtlcbfphioeppaaaGreatDoorQgd
namespace Go.Proofs.YtlcbfphioeppaaaGreatDoor
set_option linter.all false
open Go.SL Go.RowKit Go.Shelf
open Go.Proofs (Enters enters_of)
/-! ### get -/
section
variable {c : Cx} {X : XP} {S : List (Nat × Obj)} {ops : Array Oper} {l : List (Nat × Value)} {E : List (Nat × Obj)} {d : List Deferred} {tb : Kbs} {rest : List Nat} {T : List (Nat × Obj) → Act → Prop} {i k : Nat} {v : Value}
/-- A row that is laid anew, once all that is ready ahead of it is so by an edge. -/
theorem HB_buildSliceT {t ty : TypeId} {ps : String} {af : Array Edge} {gd : Option (Nat × Bool)} {n e sz : Nat} {pa : List (Nat × Operand)} {vs : List (Nat × Value)} {r zs : List Value} {z : Value} (hk : nth ops.toList k = some ⟨some i, .buildSlice t n pa.toArray, ty, ps, af, gd⟩) (hg : goes l ops ⟨some i, .buildSlice t n pa.toArray, ty, ps, af, gd⟩ = some true) (hi : Nat.ble (i + 1) c.n = true)
    (hA : tb k = .turn) (hS : SubS S E)
    (hp : partsOf l pa = some vs) (ht : sliceOf c.P t = some e) (hz : zeroOf c.P e = some z) (hs : szOf c.P e = some sz) (hzs : z.cells.size = sz) (hb : Nat.ble (n * sz) 16777216 = true) (h0 : Nat.ble 1 (n * sz) = true)
    (hmk : (madeCells z.cells (n * sz)).toList = zs) (hf : fillL (fun i => some (i * sz, sz)) zs (cellsOfParts vs) = some r)
    (h : ∀ q, HB c d ((i, .slice (some ⟨q, 0, none⟩) n n) :: l) ((q, .cells r.toArray e (0, 0)) :: E) X S ops tb rest T) : HB c d l E X S ops tb (k :: rest) T := fun a hfr => by
  refine ⟨_, nth_arr hk, ?_⟩; rw [hA]; refine .inl ⟨Nat, slV n, fun q => (q, .cells r.toArray e (0, 0)) :: E, ⟨goes_wanted hfr hg, fun w hst => ?_⟩, fun q => ⟨fun p hp => List.mem_cons_of_mem _ (hS p hp), h q _ (hfr.put (Nat.le_of_ble_eq_true hi))⟩⟩
  have h1 := partsOf_eval hfr hp
  have h2 : (pa.toArray.map fun (p : Nat × Operand) => (p.1, a.eval p.2)) = vs.toArray := by
    apply Array.toList_inj.1; rw [Array.toList_map]; simpa using h1
  rw [cellsOfParts_eq] at hf; subst hmk
  have h3 := run_fill_slice ht hz hs hzs (Nat.le_of_ble_eq_true hb) (Nat.le_of_ble_eq_true h0) hf w
  rw [← h2] at h3
  have h4 : (Instr.buildSlice t n (pa.toArray.map fun (i, x) => (i, a.eval x))).run c.P w = .ok (.slice (some ⟨w.heap.size, 0, none⟩) n n) (w.alloc (.cells r.toArray e)) := h3
  refine act_run (v := .slice (some ⟨w.heap.size, 0, none⟩) n n) (w' := w.alloc (.cells r.toArray e)) ?_ ⟨w.heap.size, rfl, hst.alloc _⟩; simp only [execOp, Sem.run_bind]; rw [h4]; rfl
end
open Classical in
theorem perm_g {α : Type} (a b c d e : α) (Y A P E : List α) : (a :: (Y ++ (b :: c :: d :: e :: (A ++ (P ++ E))))).Perm (A ++ (a :: b :: c :: d :: e :: (Y ++ (P ++ E)))) := by
  rw [List.perm_iff_count]; intro x; simp only [List.count_append, List.count_cons]; omega
open Classical in
theorem perm_h {α : Type} (a b c d e f : α) (Y P E : List α) : (a :: b :: c :: d :: e :: f :: (Y ++ (P ++ E))).Perm (b :: c :: d :: e :: f :: (a :: (P ++ (Y ++ E)))) := by
  rw [List.perm_iff_count]; intro x; simp only [List.count_append, List.count_cons]; omega
theorem HQ_perm' {c : Cx} {d : List Deferred} {l : List (Nat × Value)} {L L' : List (Nat × Obj)} {X : XP} {K : Act → World → Prop} (hp : L.Perm L') (h : HQ c d l L' X K) : HQ c d l L X K := fun a w hf hs => h a w hf (hs.perm hp)
theorem any_tail {s : BS} {N j : Nat} (h : N + j < 8 * s.length) (hb : bitAt s (N + j) = true) : ((unpackB s (8 * s.length)).drop N).any id = true :=
  List.any_eq_true.2 ⟨_, List.mem_iff_getElem?.2 ⟨j, by rw [List.getElem?_drop]; exact unpackB_get s h⟩, by simpa using hb⟩
theorem any_no {s : BS} {N : Nat} (h : ∀ j, j < 8 * s.length - N → bitAt s (N + j) = false) : ((unpackB s (8 * s.length)).drop N).any id = false := by
  rw [List.any_eq_false]; intro b hb
  obtain ⟨j, hj⟩ := List.getElem?_of_mem hb
  rw [List.getElem?_drop] at hj
  have hlt := (List.getElem?_eq_some_iff.1 hj).1
  rw [unpackB_len] at hlt; rw [unpackB_get s hlt] at hj
  cases hj
  rw [h j (by omega)]; simp
theorem X_partsP {R : List (Nat × Obj)} {k n : Int} {p : Pl} {ins : List Ty} {s : BS} (ht : Ty.In R (.mk k n p ins)) (hc : chk (.mk k n p ins) 0 = 0) (hk3 : k = 3 ∨ k = 4 ∨ k = 7) (hl : s.length ≤ 100000) :
    PureX (α := { row : Row // rowOk 5 (psT k n ins s).length (prsC (psT k n ins s)) row }) Tryz.prog 84 [Ty.val (.mk k n p ins), strV s].toArray ((partsT k n ins s).2 = 0) (fun v => (partsT k n ins s).2 ≠ 0 ∧ v = wrV (partsT k n ins s).2) (fun x => plV (psT k n ins s).length (rowP x.1)) (fun x => rowL 95 (prsC (psT k n ins s)) x.1) R :=
  (X_parts ht hc hk3 hl).map id (fun x => (rowP_V _ _ (fun h => by have := x.2; rw [h] at this; exact this.1)).symm) fun x => List.Sublist.refl _
theorem ps_get {k n : Int} {ins : List Ty} {s : BS} (hX : ∀ i, i < (manyT k n ins s).1 → inX k 0 i < ins.length) {i : Nat} {q : Ty × Nat × Nat} (h : (psT k n ins s)[i]? = some q) : q.1 ∈ ins := by
  have h1 : ((psT k n ins s).map Prod.fst)[i]? = some q.1 := by rw [List.getElem?_map, h]; rfl
  unfold psT at h1
  rw [pairL_tys] at h1
  unfold tysN at h1
  rw [List.getElem?_map] at h1
  obtain ⟨j, hj, e⟩ := Option.map_eq_some_iff.1 h1
  have hj2 := List.mem_range.1 (List.mem_of_getElem? hj)
  rw [← e]; exact (inTy_get (hX j hj2)).2
theorem ps_ok {k n : Int} {ins : List Ty} {s : BS} (h0 : (partsT k n ins s).2 = 0) {q : Ty × Nat × Nat} (hq : q ∈ psT k n ins s) : (manyT k n ins s).2 = 0 ∧ q.2.1 ≤ q.2.2 ∧ q.2.2 ≤ s.length := by
  by_cases hm : (manyT k n ins s).2 ≠ 0
  · rw [parts_m hm] at h0; exact absurd h0 hm
  have hm0 := Decidable.not_not.1 hm
  refine ⟨hm0, ?_⟩
  have hb0 := begL_nn (tysN k ins (manyT k n ins s).1)
  obtain ⟨H, hH⟩ : ∃ H : Nat, begL (tysN k ins (manyT k n ins s).1) = (H : Int) := ⟨_, (Int.toNat_of_nonneg hb0).symm⟩
  by_cases hl : s.length < H
  · rw [parts_h hm0 rfl hH hl] at h0; cases h0
  have ho := parts_o hm0 rfl hH (by omega)
  cases e : offL s H (tysN k ins (manyT k n ins s).1) 0 H false with
  | none => rw [e] at ho; rw [ho] at h0; cases h0
  | some os =>
    rw [e] at ho
    unfold psT at hq
    rw [ho] at hq; exact pairs_ok (by omega) e (by omega) (fun _ => rfl) (fun x _ hx => by have := fix_siz hx; omega) (by rw [hH]; simp) q hq
set_option maxRecDepth 20000 in
set_option maxHeartbeats 4000000 in
theorem X_get {R : List (Nat × Obj)} {t : Ty} (ht : t.In R) : chk t 0 = 0 → ∀ s : BS, s.length ≤ 100000 → PureX (α := VR (getT t s).1) Tryz.prog 43 [t.val, strV s].toArray ((getT t s).2 = 0) (fun v => (getT t s).2 ≠ 0 ∧ v = wrV (getT t s).2) (fun y => y.x.val) (fun y => y.L) R := by
  induction ht with
  | @mk k n p ins hk hn hil hs hi ih =>
  intro hc s hl
  have ht : Ty.In R (.mk k n p ins) := .mk hk hn hil hs hi
  obtain ⟨hk8, ho, _, _⟩ := chk_mk hc
  have hsub := chk_sub hc
  have hF := S_Fixed ht
  have hZ := S_Size ht
  unfold sizeT at hZ
  have hbl := X_bitlist (k := k) (p := p) (ins := ins) hl hn
  have hT := T_bits (s := s) (n := 8 * s.length) (Nat.le_refl _) hl
  have hpl : ¬ (isFix (.mk k n p ins) = true ∧ (s.length : Int) ≠ sizT (.mk k n p ins)) → k = 1 ∨ k = 2 ∨ k = 5 → (s.length : Int) = if k = 1 then n else if k = 2 then 1 else (n + 7) / 8 := fun hnf h => by
    have hi0 : ins = [] := by
      unfold okForm at ho
      rcases h with rfl | rfl | rfl <;> simp at ho <;> first | exact ho.1 | exact ho.1.1
    have hx : isFix (.mk k n p ins) = true := by
      rw [fix_of hc, fixT, hi0, fixL]
      rcases h with rfl | rfl | rfl <;> rfl
    have e : (s.length : Int) = sizT (.mk k n p ins) := Decidable.byContradiction fun h2 => hnf ⟨hx, h2⟩
    rw [e, sizT]
    rcases h with rfl | rfl | rfl <;> simp
  have hn1 : k = 1 → 1 ≤ n ∧ n ≤ 32 := fun e => by subst e; unfold okForm at ho; simp at ho; omega
  have hn5 : k = 5 → 1 ≤ n ∧ n ≤ 512 := fun e => by subst e; unfold okForm at ho; simp at ho; omega
  have h16 : k = 8 → ins.length ≤ 8 := fun e => by subst e; unfold okForm at ho; simp at ho; omega
  refine pureX_of_HC Tryz.func43 rfl rfl fun w => ?_; refine HC_seq fun K1 hK1 => HC_region ?_; refine HL_box (cs := #[_, _, _]) rfl rfl rfl rfl fun r1 => ?_; refine HL_alloc (cs := #[_, _, _, _, _, _, _]) rfl rfl rfl rfl fun r2 => ?_; refine HL_nil (hK1 _ _ _ _ ?_); refine HC_seq fun K2 hK2 => HC_region ?_; refine HL_r rfl rfl rfl rfl (R_loadA (vs := [_, _, _]) rfl (known_L (k := 1) rfl) rfl rfl rfl rfl) ?_; refine HL_callR rfl rfl rfl (enters_of Tryz.func24 (by kernel_rfl) rfl) hF (fun q hq => Or.inr hq) ?_; refine HLp rfl (HLm rfl ?_)
  refine HL_case 15 rfl (fun hb3 => ?_) (fun hb3 => ?_) <;> (try simp only [ZZ] at hb3) <;> first | (refine HLm rfl ?_) | (refine HL_skip rfl rfl rfl ?_)
  all_goals first
    | (refine HL_r rfl rfl rfl rfl (R_lenBs rfl rfl) ?_)
    | (refine HL_skip rfl rfl rfl ?_)
  all_goals first
    | (refine HL_r rfl rfl rfl rfl (R_loadA (vs := [_, _, _]) rfl (known_L (k := 1) rfl) rfl rfl rfl rfl) ?_)
    | (refine HL_skip rfl rfl rfl ?_)
  all_goals first
    | (refine HL_callR rfl rfl rfl (enters_of Tryz.func25 (by kernel_rfl) rfl) hZ (fun q hq => Or.inr hq) ?_)
    | (refine HL_skip rfl rfl rfl ?_)
  all_goals first
    | (refine HLp rfl ?_)
    | (refine HL_skip rfl rfl rfl ?_)
  all_goals first
    | (refine HL_r rfl rfl rfl rfl (R_pickT rfl rfl) ?_)
    | (refine HL_r rfl rfl rfl rfl (R_pickF rfl rfl) ?_)
  all_goals refine HL_callX rfl rfl rfl (enters_of Tryz.func42 (by kernel_rfl) rfl) (X_need (_) 2) (fun q hq => nomatch hq) (fun hok _ => ?_) (fun v hv => by first | exact Bool.noConfusion hv.1 | exact HQ_panX rfl rfl (bad_of (by rw [g_w ⟨‹isFix _ = true›, fun e => absurd hv.1 (by rw [if_pos ‹isFix _ = true›, e, beq_self_eq_true]; decide)⟩]) (by decide) hv))
  all_goals refine HL_nil ?_
  all_goals (
   refine hK2 _ _ _ _ ?_; refine HC_seq fun K8 hK8 => ?_; refine HC_seq fun K9 hK9 => ?_
   have hnf : ¬ (isFix (.mk k n p ins) = true ∧ (s.length : Int) ≠ sizT (.mk k n p ins)) := by
     rintro ⟨hA, hB⟩
     first
     | (have e := Z3.1 hok; rw [if_pos hA] at e; exact hB e)
     | (have e : isFix (.mk k n p ins) = false := ‹_›; rw [e] at hA; cases hA)
   clear hok; refine HC_region ?_
   refine HL_r rfl rfl rfl rfl (R_fieldAddr rfl rfl (by first | (simp only [Nat.zero_add, Nat.reduceAdd, Nat.reduceMul, Nat.zero_mul, Nat.mul_one, Nat.add_zero]; exact rfl) | exact rfl)) ?_; refine HL_r rfl rfl rfl rfl (R_load rfl (known_L (k := 1) rfl) rfl rfl) ?_; refine HL_nil (hK9 _ _ _ _ ?_); refine HC_block (HC_seq fun K10 hK10 => HC_region ?_); refine HLp rfl (HLm rfl ?_); refine HL_nil (hK10 _ _ _ _ ?_); refine HC_cond rfl (fun h11 => ?_) (fun h11 => ?_)
   · try exact Bool.noConfusion h11
     try simp only [ZZ] at h11
     refine HC_seq fun K12 hK12 => ?_
     have hln := hpl hnf (.inl ‹k = 1›)
     rw [if_pos ‹k = 1›] at hln
     have hnn := hn1 ‹_›
     obtain ⟨a, b, c, d, hnm⟩ := numD_4 s
     have hnu := P_snumber (s := s) (by omega)
     rw [hnm] at hnu; refine HC_region (HLm rfl (HL_callP rfl rfl rfl (enters_of Tryz.func81 (by kernel_rfl) rfl) hnu ?_)); refine HL_r rfl rfl rfl rfl (R_build (r := [_, _, _, _, _, _, _]) rfl rfl) ?_
     refine HL_storeA (k := 0) (n := 7) (cs' := #[_, _, _, _, _, _, _]) (vs := #[_, _, _, _, _, _, _]) rfl rfl rfl rfl rfl rfl rfl (by exact Nat.le_of_ble_eq_true rfl) rfl (by first | (simp only [List.set_cons_zero, List.set_cons_succ]; exact rfl) | exact rfl) ?_; refine HL_nil (hK12 _ _ _ _ ?_); refine HC_ret (HQ_blockR (HQ_thenR ?_)); refine HQ_post rfl rfl (.cons (res_cellA (vs := [_, _, _, _, _, _, _]) rfl (known_L (k := 0) rfl) rfl rfl) .nil) (fun w1 hs1 => ?_)
     (have e1 := g_1 hnf (s := s) ‹k = 1›
      refine .inl ⟨by rw [e1], ⟨.mk a b c d [] none [] none 0, [], num_in hnm, by rw [e1, erV_mk, erL, hnm]; rfl⟩, rfl, hs1.weakL (List.nil_sublist _)⟩)
   · try exact Bool.noConfusion h11
     try simp only [ZZ] at h11
     refine HC_seq fun K13 hK13 => HC_region ?_; refine HLp rfl (HLm rfl ?_); refine HL_nil (hK13 _ _ _ _ ?_); refine HC_cond rfl (fun h14 => ?_) (fun h14 => ?_)
     · try exact Bool.noConfusion h14
       try simp only [ZZ] at h14
       refine HC_seq fun K15 hK15 => ?_
       have hln := hpl hnf (.inr (.inl ‹k = 2›))
       rw [if_neg ‹k ≠ 1›, if_pos ‹k = 2›] at hln
       obtain ⟨a, b, c, d, hnm⟩ := numD_4 s
       have hnu := P_snumber (s := s) (by omega)
       rw [hnm] at hnu; refine HC_region (HLm rfl (HL_r rfl rfl rfl rfl (R_indexBs (j := 0) rfl rfl rfl rfl (by omega) rfl) ?_)); refine HLp rfl ?_; refine HL_callX rfl rfl rfl (enters_of Tryz.func42 (by kernel_rfl) rfl) (X_need (_) 2) (fun q hq => nomatch hq) (fun hok _ => ?_) (fun v hv => HQ_panX rfl rfl (bad_of (by rw [g_2 hnf ‹k ≠ 1› ‹k = 2›, if_pos (by have := Z2.1 hv.1; omega)]) (by decide) hv)); refine HL_nil (hK15 _ _ _ _ ?_); refine HC_seq fun K16 hK16 => HC_region ?_; refine HLm rfl (HL_callP rfl rfl rfl (enters_of Tryz.func81 (by kernel_rfl) rfl) hnu (HL_r rfl rfl rfl rfl (R_build (r := [_, _, _, _, _, _, _]) rfl rfl) ?_))
       refine HL_storeA (k := 0) (n := 7) (cs' := #[_, _, _, _, _, _, _]) (vs := #[_, _, _, _, _, _, _]) rfl rfl rfl rfl rfl rfl rfl (by exact Nat.le_of_ble_eq_true rfl) rfl (by first | (simp only [List.set_cons_zero, List.set_cons_succ]; exact rfl) | exact rfl) ?_; refine HL_nil (hK16 _ _ _ _ ?_); refine HC_ret (HQ_blockR (HQ_thenR ?_)); refine HQ_post rfl rfl (.cons (res_cellA (vs := [_, _, _, _, _, _, _]) rfl (known_L (k := 0) rfl) rfl rfl) .nil) (fun w1 hs1 => ?_)
       (have e1 := g_2 hnf (s := s) ‹k ≠ 1› ‹k = 2›
        rw [if_neg (by have := Z1.mp hok; omega)] at e1
        refine .inl ⟨by rw [e1], ⟨.mk a b c d [] none [] none 0, [], num_in hnm, by rw [e1, erV_mk, erL, hnm]; rfl⟩, rfl, hs1.weakL (List.nil_sublist _)⟩)
     · try exact Bool.noConfusion h14
       try simp only [ZZ] at h14
       refine HC_seq fun K17 hK17 => HC_region ?_; refine HLp rfl (HLm rfl ?_); refine HL_nil (hK17 _ _ _ _ ?_); refine HC_cond rfl (fun h18 => ?_) (fun h18 => ?_)
       · try exact Bool.noConfusion h18
         try simp only [ZZ] at h18
         refine HC_seq fun K19 hK19 => ?_
         have hln := hpl hnf (.inr (.inr ‹k = 5›))
         rw [if_neg ‹k ≠ 1›, if_neg ‹k ≠ 2›] at hln
         have hnn := hn5 ‹_›
         obtain ⟨N, hN⟩ : ∃ N, N = n.toNat := ⟨_, rfl⟩
         refine HC_region (HLm rfl ?_); refine HLm rfl (HL_r rfl rfl rfl rfl (R_lenBs rfl rfl) (HLp rfl ?_)); refine HL_as (show _ = Value.int .i64 ((8 * s.length : Nat)) from congrArg (Value.int .i64) (by rw [wrap_i64 (by omega) (by omega)]; omega)) ?_; refine HL_callRE rfl rfl rfl (enters_of Tryz.func82 (by kernel_rfl) rfl) hT (fun q hq => nomatch hq) fun x => ?_
         obtain ⟨row, hrow⟩ := x
         match row, hrow with | none, hrow => ?_ | some (ra, cap, sp), hrow => ?_
         all_goals first | exact absurd hrow.1 (by omega) | skip
         refine HLm rfl ?_; refine HL_nil (hK19 _ _ _ _ ?_); refine HC_seq fun K20 hK20 => ?_; refine HC_seq fun K21 hK21 => ?_
         have hcap : 8 * s.length ≤ cap := by have := hrow.2; omega
         obtain ⟨off1, hoff⟩ : ∃ o, (if cap = N then 0 else 0 + N * 1) = o := ⟨_, rfl⟩
         refine HC_region (HLm rfl ?_)
         refine HL_r rfl rfl rfl rfl (R_fieldAddr rfl rfl (by first | (simp only [Nat.zero_add, Nat.reduceAdd, Nat.reduceMul, Nat.zero_mul, Nat.mul_one, Nat.add_zero]; exact rfl) | exact rfl)) ?_; refine HL_r rfl rfl rfl rfl (R_load rfl (known_L (k := 2) rfl) rfl rfl) ?_; refine HL_as (show _ = Value.int .i64 ((N : Nat) : Int) from congrArg (Value.int .i64) (by omega)) ?_; refine HL_r rfl rfl rfl rfl (R_sliceSl (kl := some N) (kh := none) (km := none) (sz := 1) (m := N) (q := 8 * s.length) (z := cap) (off' := off1) rfl rfl rfl ⟨_, rfl⟩ trivial trivial rfl rfl rfl (by omega) (by omega) (Nat.le_refl _) (fun _ => rfl) hoff) ?_; refine HL_r rfl rfl rfl rfl (R_lenSl rfl rfl) ?_; refine HLm rfl ?_; refine HL_nil (hK21 _ _ _ _ ?_); refine HC_block (HC_loop (σ := Nat) (fun j => j ≤ 8 * s.length - N ∧ ∀ i, i < j → bitAt s (N + i) = false) (fun j => [(1, strV s), (2, pt0 r1), (4, pt0 r2), (5, .slice (some ⟨ra, 0, none⟩) (8 * s.length) cap), (49, .slice (some ⟨ra, off1, none⟩) (8 * s.length - N) (cap - N)), (50, .int .i64 ((8 * s.length - N : Nat) : Int)), (51, .int .i64 (j : Int))]) (fun _ => [(ra, .cells (bitsC (unpackB s (8 * s.length)) ++ sp).toArray 4 (0, 0)), vBlk r2 v0L, tBlk r1 (.mk k n p ins)]) (fun _ _ _ => True) (fun j => 8 * s.length - N - j) 0 ⟨Nat.zero_le _, fun i h => by omega⟩ (.cons rfl (.cons rfl (.cons rfl (.cons rfl (.cons rfl (.cons rfl (.cons rfl .nil))))))) (List.Sublist.refl _) (fun _ _ h => h) ?_); rintro j ⟨hj1, hbits⟩; change HC _ _ _ ((ra, _) :: (r2, _) :: (r1, _) :: []) _ _ _; refine HC_seq fun K22 hK22 => HC_region ?_; refine HLp rfl ?_; refine HL_nil (hK22 _ _ _ _ ?_); refine HC_seq fun K23 hK23 => ?_; refine HC_cond rfl (fun h24 => ?_) (fun h24 => ?_)
         · try exact Bool.noConfusion h24
           try simp only [ZZ] at h24
           refine HC_skip (hK23 _ _ _ _ ?_); refine HC_seq fun K25 hK25 => HC_block ?_; refine HC_seq fun K26 hK26 => HC_region ?_; refine HL_r rfl rfl rfl rfl (R_indexS (j := j) (m := 1) (off' := N + j) rfl rfl rfl rfl (by omega) (by omega) (by rw [← hoff, if_neg (by omega)]; omega)) ?_; refine HL_r rfl rfl rfl rfl (R_load rfl (known_L (k := 0) rfl) rfl (bits_at s (i := N + j) (by omega) sp)) ?_; refine HLm rfl ?_; refine HL_nil (hK26 _ _ _ _ ?_); refine HC_region (HLm rfl (HLp rfl ?_)); refine HL_callX rfl rfl rfl (enters_of Tryz.func42 (by kernel_rfl) rfl) (X_need (_) 8) (fun q hq => nomatch hq) (fun hok _ => ?_) (fun v hv => HQ_panX rfl rfl (bad_of (by rw [g_5 hnf ‹k ≠ 1› ‹k ≠ 2› ‹k = 5›, ← hN, if_pos (any_tail (by omega) (Z8.mp hv.1))]) (by decide) hv)); refine HL_nil ?_; refine HQ_blockN (hK25 _ _ _ _ ?_); refine HC_region (HLp rfl (HL_wrap_i64 (by omega) (by omega) ?_)); refine HLm rfl (HL_nil (HQ_then ?_)); exact HQ_again (j + 1) ⟨by omega, fun i hi => by by_cases e : i = j; (subst e; exact Z7.mp hok); exact hbits i (by omega)⟩ (by omega) (.cons rfl (.cons rfl (.cons rfl (.cons rfl (.cons rfl (.cons rfl (.cons rfl .nil))))))) (List.Sublist.refl _) (fun _ _ h => h)
         · try exact Bool.noConfusion h24
           try simp only [ZZ] at h24
           refine HC_exit (HQ_thenE ?_); refine HQ_thenE (HQ_blockE (hK20 _ _ _ _ ?_)); refine HC_seq fun K27 hK27 => ?_
           have hany := any_no (s := s) (N := N) (fun i hi => hbits i (by omega))
           refine HC_region (HLm rfl ?_)
           refine HL_r rfl rfl rfl rfl (R_fieldAddr rfl rfl (by first | (simp only [Nat.zero_add, Nat.reduceAdd, Nat.reduceMul, Nat.zero_mul, Nat.mul_one, Nat.add_zero]; exact rfl) | exact rfl)) ?_; refine HL_r rfl rfl rfl rfl (R_load rfl (known_L (k := 2) rfl) rfl rfl) ?_; refine HL_as (show _ = Value.int .i64 ((N : Nat) : Int) from congrArg (Value.int .i64) (by omega)) ?_
           refine HL_r rfl rfl rfl rfl (R_sliceSl (kl := none) (kh := some N) (km := none) (m := 0) (q := N) (z := cap) (off' := 0) (sz := 1) rfl rfl rfl trivial ⟨_, rfl⟩ trivial rfl rfl rfl (by omega) (by omega) (Nat.le_refl _) (fun e => nomatch e) (by split <;> omega)) ?_; refine HL_r rfl rfl rfl rfl (R_build (r := [_, _, _, _, _, _, _]) rfl rfl) ?_
           refine HL_storeA (k := 1) (n := 7) (cs' := #[_, _, _, _, _, _, _]) (vs := #[_, _, _, _, _, _, _]) rfl rfl rfl rfl rfl rfl rfl (by exact Nat.le_of_ble_eq_true rfl) rfl (by first | (simp only [List.set_cons_zero, List.set_cons_succ]; exact rfl) | exact rfl) ?_; refine HL_nil (hK27 _ _ _ _ ?_); refine HC_ret (HQ_blockR (HQ_thenR ?_)); refine HQ_post rfl rfl (.cons (res_cellA (vs := [_, _, _, _, _, _, _]) rfl (known_L (k := 1) rfl) rfl rfl) .nil) (fun w1 hs1 => ?_)
           (have e1 := g_5 hnf (s := s) ‹k ≠ 1› ‹k ≠ 2› ‹k = 5›
            rw [← hN, hany, if_neg (by decide)] at e1
            refine .inl ⟨by rw [e1], ⟨.mk 0 0 0 0 (unpackB s N) (some (⟨ra, 0, none⟩, cap)) [] none 0, [(ra, .cells (bitsC (unpackB s (8 * s.length)) ++ sp).toArray 4 (0, 0))], bits_in' (by omega) (by omega) (by omega), by rw [e1, erV_mk, erL]; rfl⟩, congrArg Ending.returned (bitsVal s N ra cap).symm, hs1.weakL ((List.cons_sublist_cons).2 (List.nil_sublist _))⟩)
       · try exact Bool.noConfusion h18
         try simp only [ZZ] at h18
         refine HC_seq fun K28 hK28 => HC_region ?_; refine HLp rfl (HLm rfl ?_); refine HL_nil (hK28 _ _ _ _ ?_); refine HC_cond rfl (fun h29 => ?_) (fun h29 => ?_)
         · try exact Bool.noConfusion h29
           try simp only [ZZ] at h29
           refine HC_seq fun K30 hK30 => HC_region ?_; refine HL_r rfl rfl rfl rfl (R_loadA (vs := [_, _, _]) rfl (known_L (k := 1) rfl) rfl rfl rfl rfl) ?_; refine HLm rfl ?_; refine HL_callX rfl rfl rfl (enters_of Tryz.func83 (by kernel_rfl) rfl) hbl (fun q hq => nomatch hq) (fun hok y => ?_) (fun v hv => HQ_panX rfl rfl (by rw [g_6 hnf ‹k ≠ 1› ‹k ≠ 2› ‹k ≠ 5› ‹k = 6›]; exact hv))
           obtain ⟨⟨ya, yb, yc, yd, ybits, ypb, yitems, ypi, ypick⟩, yL, yok, yer⟩ := y
           refine HL_perm List.perm_append_comm ?_
           refine HL_storeA (k := 0) (n := 7) (cs' := #[_, _, _, _, _, _, _]) (vs := #[_, _, _, _, _, _, _]) rfl rfl rfl rfl rfl rfl rfl (by exact Nat.le_of_ble_eq_true rfl) rfl (by first | (simp only [List.set_cons_zero, List.set_cons_succ]; exact rfl) | exact rfl) ?_; refine HL_nil (hK30 _ _ _ _ ?_); refine HC_ret (HQ_blockR (HQ_thenR ?_)); refine HQ_post rfl rfl (.cons (res_cellA (vs := [_, _, _, _, _, _, _]) rfl (known_L (k := 0) rfl) rfl rfl) .nil) (fun w1 hs1 => ?_)
           (have e1 := g_6 hnf (s := s) ‹k ≠ 1› ‹k ≠ 2› ‹k ≠ 5› ‹k = 6›
            refine .inl ⟨by rw [e1]; exact hok, ⟨.mk ya yb yc yd ybits ypb yitems ypi ypick, yL, yok, by rw [e1]; exact yer⟩, rfl, hs1.weakL (.cons _ (.cons _ (List.Sublist.refl _)))⟩)
         · try exact Bool.noConfusion h29
           try simp only [ZZ] at h29
           refine HC_seq fun K31 hK31 => HC_region ?_; refine HLp rfl (HLm rfl ?_); refine HL_nil (hK31 _ _ _ _ ?_); refine HC_cond rfl (fun h32 => ?_) (fun h32 => ?_)
           · try exact Bool.noConfusion h32
             try simp only [ZZ] at h32
             refine HC_seq fun K33 hK33 => HC_region ?_; refine HLm rfl (HL_r rfl rfl rfl rfl (R_strNe rfl rfl) ?_); refine HL_callX rfl rfl rfl (enters_of Tryz.func42 (by kernel_rfl) rfl) (X_need (_) 2) (fun q hq => nomatch hq) (fun hok _ => ?_) (fun v hv => HQ_panX rfl rfl (bad_of (by rw [g_8n hnf ‹k ≠ 1› ‹k ≠ 2› ‹k ≠ 5› ‹k ≠ 6› ‹k = 8› (of_decide_eq_true (Z8.mp hv.1))]) (by decide) hv)); refine HL_nil (hK33 _ _ _ _ ?_); refine HC_seq fun K34 hK34 => ?_
             have hsne : s ≠ [] := of_decide_eq_false (Z7.mp hok)
             have hpos : 0 < s.length := List.length_pos_iff.2 hsne
             refine HC_region (HLm rfl (HL_r rfl rfl rfl rfl (R_indexBs (j := 0) rfl rfl rfl rfl (by omega) rfl) ?_)); refine HLp rfl ?_; refine HL_as (show _ = Value.int .i64 (((s.getD 0 0).toNat : Nat)) from congrArg (Value.int .i64) (wrap_i64 (by omega) (by have := u8_lt (s.getD 0 0); omega))) ?_; refine HLm rfl ?_; refine HL_nil (hK34 _ _ _ _ ?_); refine HC_seq fun K35 hK35 => HC_region ?_; refine HLm rfl ?_
             refine HL_r rfl rfl rfl rfl (R_fieldAddr rfl rfl (by first | (simp only [Nat.zero_add, Nat.reduceAdd, Nat.reduceMul, Nat.zero_mul, Nat.mul_one, Nat.add_zero]; exact rfl) | exact rfl)) ?_; refine HL_r rfl rfl rfl rfl (R_load rfl (known_L (k := 1) rfl) rfl rfl) ?_; refine HL_r rfl rfl rfl rfl (R_lenPl rfl hs rfl) ?_; refine HLp rfl ?_; refine HL_callX rfl rfl rfl (enters_of Tryz.func42 (by kernel_rfl) rfl) (X_need (_) 9) (fun q hq => nomatch hq) (fun hok _ => ?_) (fun v hv => HQ_panX rfl rfl (bad_of (by rw [g_8k hnf ‹k ≠ 1› ‹k ≠ 2› ‹k ≠ 5› ‹k ≠ 6› ‹k = 8› hsne (by have := Z2.1 hv.1; omega)]) (by decide) hv)); refine HL_nil (hK35 _ _ _ _ ?_); refine HC_seq fun K36 hK36 => ?_
             obtain ⟨x, hx⟩ : ∃ x, ins[(s.getD 0 0).toNat]? = some x := ⟨_, List.getElem?_eq_getElem (by have := Z1.mp hok; omega)⟩
             have hxm := List.mem_of_getElem? hx
             have ihx := ih x hxm (hsub x hxm) (s.drop 1) (by rw [List.length_drop]; omega)
             by_cases hgo : (getT x (s.drop 1)).2 = 0 ∧ Nonempty (VR (getT x (s.drop 1)).1)
             rotate_left
             · have hlt : (s.getD 0 0).toNat < ins.length := (List.getElem?_eq_some_iff.1 hx).1
               have hbadx : ∀ {v : Value}, (getT x (s.drop 1)).2 ≠ 0 ∧ v = wrV (getT x (s.drop 1)).2 → (getT (.mk k n p ins) s).2 ≠ 0 ∧ v = wrV (getT (.mk k n p ins) s).2 := fun hv => by rw [g_8 hnf ‹k ≠ 1› ‹k ≠ 2› ‹k ≠ 5› ‹k ≠ 6› ‹k = 8› hsne hx, if_pos hv.1]; exact hv
               exact HC_boom [(0, .int .i64 ((s.getD 0 0).toNat : Int)), (1, .pointer (some ⟨r1, 2, none⟩)), (2, plV ins.length p), (3, .int .i64 ((s.getD 0 0).toNat : Int)), (4, .pointer (some ⟨plB p, plO p + (s.getD 0 0).toNat * 3, none⟩)), (5, x.val), (6, strV s), (7, strV (s.drop 1))] 8 (by kernel_rfl) rfl (by kernel_rfl) rfl (.cons rfl rfl (R_move rfl) <| .cons rfl rfl (R_fieldAddr rfl rfl rfl) <| .cons rfl rfl (R_load rfl (known_L (k := 1) rfl) rfl rfl) <| .cons rfl rfl (R_move rfl) <| .cons rfl rfl (R_indexPl (j := (s.getD 0 0).toNat) rfl hs rfl rfl rfl rfl hlt) <| .cons rfl rfl (R_loadTy (fun q hq => Or.inr hq) rfl hs hx rfl rfl) <| .cons rfl rfl (R_move rfl) <| .cons rfl rfl (R_sliceBs (kl := some (.i64, 1)) (kh := none) (m := 1) (n := s.length) rfl rfl rfl rfl rfl rfl (by omega) (by omega) (show _ = s.drop 1 from by rw [List.take_length])) .nil) rfl rfl (boom_callX rfl (enters_of Tryz.func43 (by kernel_rfl) rfl) ihx (fun h y => hgo ⟨h, ⟨y⟩⟩) (fun q hq => Or.inr hq) (fun v hv => HQ_panX rfl rfl (hbadx hv)))
             obtain ⟨hg0, ⟨x0⟩⟩ := hgo
             have hlt : (s.getD 0 0).toNat < ins.length := (List.getElem?_eq_some_iff.1 hx).1
             refine HC_drawB [tBlk r1 (.mk k n p ins)] [(0, .pure), (1, .pure), (2, .pure), (3, .pure), (4, .pure), (5, .pure), (6, .pure), (7, .pure), (8, .grow (geCall x0 (fun y => y.x.val) (fun y => y.L))), (9, .turn)] 10 [0, 1, 2, 3, 4, 5, 6, 7, 8, 9] (by kernel_rfl) (by kernel_rfl) (fun q hq => List.mem_cons_of_mem _ hq) ?_; refine HB_p (k := 0) rfl rfl rfl rfl rfl (fun _ hS => (R_move rfl)) ?_
             refine HB_p (k := 1) rfl rfl rfl rfl rfl (fun _ hS => (R_fieldAddr rfl rfl (by first | (simp only [Nat.zero_add, Nat.reduceAdd, Nat.reduceMul, Nat.zero_mul, Nat.mul_one, Nat.add_zero]; exact rfl) | exact rfl))) ?_; refine HB_p (k := 2) rfl rfl rfl rfl rfl (fun _ hS => (R_load rfl (.inl (hS _ (mem_nth (n := 0) rfl))) rfl rfl)) ?_; refine HB_p (k := 3) rfl rfl rfl rfl rfl (fun _ hS => (R_move rfl)) ?_; refine HB_p (k := 4) rfl rfl rfl rfl rfl (fun _ _ => R_indexPl (j := (s.getD 0 0).toNat) rfl hs rfl rfl rfl rfl hlt) ?_; refine HB_p (k := 5) rfl rfl rfl rfl rfl (fun _ _ => R_loadTy (fun q hq => Or.inr hq) rfl hs hx rfl rfl) ?_; refine HB_p (k := 6) rfl rfl rfl rfl rfl (fun _ hS => (R_move rfl)) ?_; refine HB_p (k := 7) rfl rfl rfl rfl rfl (fun _ _ => R_sliceBs (kl := some (.i64, 1)) (kh := none) (m := 1) (n := s.length) rfl rfl rfl rfl rfl rfl (by omega) (by omega) (show _ = s.drop 1 from by rw [List.take_length])) ?_; refine HB_callRE (k := 8) rfl rfl rfl rfl rfl (enters_of Tryz.func43 (by kernel_rfl) rfl) (ihx.toT (fun v hv => hv.1 hg0)) (fun q hq => Or.inr hq) fun y => ?_; obtain ⟨⟨ya, yb, yc, yd, ybits, ypb, yitems, ypi, ypick⟩, yL, yok, yer⟩ := y; refine HB_buildSliceT (k := 9) (n := 1) (sz := 7) (vs := [_]) (zs := [_, _, _, _, _, _, _]) (r := [_, _, _, _, _, _, _]) rfl rfl rfl rfl (fun q hq => List.mem_append_right _ (List.mem_cons_of_mem _ hq)) rfl rfl rfl rfl rfl rfl rfl (by rw [made_list]; exact rfl) rfl fun rv => ?_; refine HB_end ?_; refine HL_perm (List.Perm.cons _ List.perm_append_comm) ?_; refine HL_r rfl rfl rfl rfl (R_build (r := [_, _, _, _, _, _, _]) rfl rfl) ?_
             refine HL_storeA (k := 1) (n := 7) (cs' := #[_, _, _, _, _, _, _]) (vs := #[_, _, _, _, _, _, _]) rfl rfl rfl rfl rfl rfl rfl (by exact Nat.le_of_ble_eq_true rfl) rfl (by first | (simp only [List.set_cons_zero, List.set_cons_succ]; exact rfl) | exact rfl) ?_; refine HL_nil (hK36 _ _ _ _ ?_); refine HC_ret (HQ_blockR (HQ_thenR ?_)); refine HQ_post rfl rfl (.cons (res_cellA (vs := [_, _, _, _, _, _, _]) rfl (known_L (k := 1) rfl) rfl rfl) .nil) (fun w1 hs1 => ?_)
             (have e1 := g_8 hnf (s := s) ‹k ≠ 1› ‹k ≠ 2› ‹k ≠ 5› ‹k ≠ 6› ‹k = 8› hsne hx
              rw [if_neg (by rw [hg0]; decide)] at e1
              refine .inl ⟨by rw [e1], ⟨.mk 0 0 0 0 [] none [.mk ya yb yc yd ybits ypb yitems ypi ypick] (some (⟨rv, 0, none⟩, 1)) ((s.getD 0 0).toNat : Int), [(rv, _)] ++ yL, items_in (by simp) ⟨Nat.le_refl _, fun _ => ⟨rfl, _, _, _, List.mem_singleton_self _, rfl⟩⟩ (fun z hz => by rw [List.mem_singleton.1 hz]; exact yok) (by have := u8_lt (s.getD 0 0); unfold I64; omega), by rw [e1, erV_mk, erL, erL, yer]; rfl⟩, rfl, hs1.weakL ((List.cons_sublist_cons).2 (.cons _ (.cons _ (List.Sublist.refl _))))⟩)
           · try exact Bool.noConfusion h32
             try simp only [ZZ] at h32
             refine HC_skip (HQ_blockN (hK8 _ _ _ _ ?_)); refine HC_seq fun K37 hK37 => HC_region ?_; refine HL_alloc (cs := #[_, _, _, _, _, _, _]) rfl rfl rfl rfl fun r3 => ?_; refine HL_nil (hK37 _ _ _ _ ?_); refine HC_seq fun K38 hK38 => ?_; refine HC_seq fun K39 hK39 => ?_
             have hk3 : k = 3 ∨ k = 4 ∨ k = 7 := by have h1 : k ≠ 1 := ‹_›; have h2 : k ≠ 2 := ‹_›; have h5 : k ≠ 5 := ‹_›; have h6 : k ≠ 6 := ‹_›; have h8 : k ≠ 8 := ‹_›; omega
             have hmX := inX_many (s := s) hk8 ho hk3
             have hgr := (g_r (s := s) hnf ‹k ≠ 1› ‹k ≠ 2› ‹k ≠ 5› ‹k ≠ 6› ‹k ≠ 8›).trans (rowT_eq hmX)
             have hpp := X_partsP (s := s) ht hc hk3 hl
             refine HC_region (HL_r rfl rfl rfl rfl (R_loadA (vs := [_, _, _]) rfl (known_L (k := 2) rfl) rfl rfl rfl rfl) (HLm rfl ?_)); refine HL_callX rfl rfl rfl (enters_of Tryz.func84 (by kernel_rfl) rfl) hpp (fun q hq => Or.inr hq) (fun hp0 x => ?_) (fun v hv => HQ_panX rfl rfl (by rw [hgr, if_pos hv.1]; exact hv))
             obtain ⟨prow, hprow⟩ := x
             refine HL_perm List.perm_append_comm ?_
             have hsg := rowP_seg (e := 95) hprow (by decide)
             have hmm0 : (manyT k n ins s).2 = 0 := Decidable.byContradiction fun hm => hm (by rw [← parts_m hm]; exact hp0)
             have hPl : (psT k n ins s).length ≤ 512 := by unfold psT; rw [pairL_len, tysN_len]; exact (many_ok hk8 ho hk3 hmm0).1
             refine HL_r rfl rfl rfl rfl (R_lenPl rfl hsg rfl) ?_; refine HLm rfl ?_; refine HL_nil (hK39 _ _ _ _ ?_); refine HC_block ?_; rw [if_neg (by rw [hp0]; decide)] at hgr; refine HC_loop (σ := Nat × List Vl × Row × List (Nat × Obj)) (fun q => q.1 = q.2.1.length ∧ q.1 ≤ (psT k n ins s).length ∧ rowOk 7 q.1 (vlsC q.2.1) q.2.2.1 ∧ (∀ x ∈ q.2.1, Vl.In q.2.2.2 x) ∧ runG (((psT k n ins s).take q.1).map (gq s)) = (q.2.1.map erV, 0)) (fun q => [(1, strV s), (2, pt0 r1), (4, pt0 r2), (9, pt0 r3), (96, plV (psT k n ins s).length (rowP prow)), (97, .int .i64 ((psT k n ins s).length : Int)), (98, .int .i64 (q.1 : Int))]) (fun q => (r3, .cells #[.int .u64 0, .int .u64 0, .int .u64 0, .int .u64 0, .slice none 0 0, rowV q.1 q.2.2.1, .int .i64 0] 31 (0, 0)) :: vBlk r2 v0L :: tBlk r1 (.mk k n p ins) :: (rowL 31 (vlsC q.2.1) q.2.2.1 ++ (rowL 95 (prsC (psT k n ins s)) prow ++ q.2.2.2))) (fun _ _ _ => True) (fun q => (psT k n ins s).length - q.1) (0, [], none, []) ⟨rfl, Nat.zero_le _, ⟨rfl, rfl⟩, fun x hx => (nomatch hx), rfl⟩ (.cons rfl (.cons rfl (.cons rfl (.cons rfl (.cons rfl (.cons rfl (.cons rfl .nil))))))) (by simp only [rowL, List.nil_append, List.append_nil]; exact List.Sublist.refl _) (fun _ _ h => h) ?_; rintro ⟨i, vs, row, E⟩ ⟨hvl, him, hrow, hin, hrun⟩; simp only at hvl him hrow hin hrun; refine HC_seq fun K40 hK40 => HC_region ?_; refine HLp rfl ?_; refine HL_nil (hK40 _ _ _ _ ?_); refine HC_seq fun K41 hK41 => ?_; refine HC_cond rfl (fun h42 => ?_) (fun h42 => ?_)
             · try exact Bool.noConfusion h42
               try simp only [ZZ] at h42
               refine HC_skip (hK41 _ _ _ _ ?_); refine HC_seq fun K43 hK43 => HC_block ?_; refine HC_seq fun K44 hK44 => ?_
               obtain ⟨⟨x, f, f2⟩, hq⟩ : ∃ q, (psT k n ins s)[i]? = some q := ⟨_, List.getElem?_eq_getElem (by omega)⟩
               obtain ⟨hmm, hft, htl⟩ := ps_ok hp0 (List.mem_of_getElem? hq)
               have hxm := ps_get (hmX hmm) hq
               simp only at hft htl hxm
               have ihx := ih x hxm (hsub x hxm) ((s.take f2).drop f) (by rw [List.length_drop, List.length_take]; omega)
               obtain ⟨xk, xn, xp, xi⟩ := x
               refine HC_region ?_
               refine HL_r rfl rfl rfl rfl (R_indexPl (j := i) rfl hsg rfl rfl rfl (by first | rfl | omega) (by omega)) ?_; refine HL_r rfl rfl rfl rfl (R_loadPlA (vs := prC (.mk xk xn xp xi, f, f2)) (fun q hq => Or.inl (List.mem_cons_of_mem _ (List.mem_cons_of_mem _ (List.mem_cons_of_mem _ (List.mem_append_right _ (List.mem_append_left _ hq)))))) rfl hsg (by omega) rfl rfl (cat_get prC_len hq) (prC_len _)) ?_; refine HL_alloc (cs := #[_, _, _, _, _]) rfl rfl rfl rfl fun r4 => ?_
               refine HL_storeA (k := 0) (n := 5) (cs' := #[_, _, _, _, _]) (vs := #[_, _, _, _, _]) rfl rfl rfl rfl rfl rfl rfl (by exact Nat.le_of_ble_eq_true rfl) rfl (by first | (simp only [List.set_cons_zero, List.set_cons_succ]; exact rfl) | exact rfl) ?_; refine HL_nil (hK44 _ _ _ _ ?_)
               by_cases hgo : (getT (.mk xk xn xp xi) ((s.take f2).drop f)).2 = 0 ∧ Nonempty (VR (getT (.mk xk xn xp xi) ((s.take f2).drop f)).1)
               rotate_left
               · have hbadx : ∀ {v : Value}, (getT (.mk xk xn xp xi) ((s.take f2).drop f)).2 ≠ 0 ∧ v = wrV (getT (.mk xk xn xp xi) ((s.take f2).drop f)).2 → (getT (.mk k n p ins) s).2 ≠ 0 ∧ v = wrV (getT (.mk k n p ins) s).2 := fun hv => by
                   have e1 : (psT k n ins s).map (gq s) = ((psT k n ins s).take i).map (gq s) ++ gq s (.mk xk xn xp xi, f, f2) :: ((psT k n ins s).drop (i + 1)).map (gq s) := by
                     rw [← List.map_cons, ← drop_cons' hq, ← List.map_append, List.take_append_drop]
                   have e2 := runG_bad (r := ((psT k n ins s).drop (i + 1)).map (gq s)) (f := getT (.mk xk xn xp xi)) (s := (s.take f2).drop f) hrun hv.1
                   have e3 : (runG ((psT k n ins s).map (gq s))).2 = (getT (.mk xk xn xp xi) ((s.take f2).drop f)).2 := by rw [e1]; exact e2
                   rw [hgr, if_pos (by rw [e3]; exact hv.1)]; exact ⟨by rw [e3]; exact hv.1, by rw [e3]; exact hv.2⟩
                 exact HC_boom [(0, .pointer (some ⟨r3, 5, none⟩)), (1, rowV i row), (2, .pointer (some ⟨r4, 0, none⟩)), (3, Ty.val (.mk xk xn xp xi)), (4, strV s), (5, .pointer (some ⟨r4, 3, none⟩)), (6, .int .i64 (f : Int)), (7, .pointer (some ⟨r4, 4, none⟩)), (8, .int .i64 (f2 : Int)), (9, strV ((s.take f2).drop f))] 10 (by kernel_rfl) rfl (by kernel_rfl) rfl (.cons rfl rfl (R_fieldAddr rfl rfl rfl) <| .cons rfl rfl (R_load rfl (known_L (k := 1) rfl) rfl rfl) <| .cons rfl rfl (R_fieldAddr rfl rfl rfl) <| .cons rfl rfl (R_loadA (vs := [_, _, _]) rfl (known_L (k := 0) rfl) rfl rfl rfl rfl) <| .cons rfl rfl (R_move rfl) <| .cons rfl rfl (R_fieldAddr rfl rfl rfl) <| .cons rfl rfl (R_load rfl (known_L (k := 0) rfl) rfl rfl) <| .cons rfl rfl (R_fieldAddr rfl rfl rfl) <| .cons rfl rfl (R_load rfl (known_L (k := 0) rfl) rfl rfl) <| .cons rfl rfl (R_sliceBs (kl := some (.i64, (f : Int))) (kh := some (.i64, (f2 : Int))) (m := f) (n := f2) rfl rfl rfl rfl rfl rfl hft htl rfl) .nil) rfl rfl (boom_callX rfl (enters_of Tryz.func43 (by kernel_rfl) rfl) ihx (fun h y => hgo ⟨h, ⟨y⟩⟩) (fun q hq => Or.inr hq) (fun v hv => HQ_panX rfl rfl (hbadx hv)))
               obtain ⟨hg0, ⟨x0⟩⟩ := hgo
               refine HC_drawB [(r3, .cells #[.int .u64 0, .int .u64 0, .int .u64 0, .int .u64 0, .slice none 0 0, rowV i row, .int .i64 0] 31 (0, 0)), (r4, .cells (prC (.mk xk xn xp xi, f, f2)).toArray 95 (0, 0))] [(0, .pure), (1, .pure), (2, .pure), (3, .pure), (4, .pure), (5, .pure), (6, .pure), (7, .pure), (8, .pure), (9, .pure), (10, .grow (geCall x0 (fun y => y.x.val) (fun y => y.L))), (11, .turn)] 12 [0, 1, 2, 3, 4, 5, 6, 7, 8, 9, 10, 11] (by kernel_rfl) (by kernel_rfl) (fun q hq => by rcases List.mem_cons.1 hq with rfl | hq; exact List.mem_cons_of_mem _ List.mem_cons_self; rw [List.mem_singleton.1 hq]; exact List.mem_cons_self) ?_
               refine HB_p (k := 0) rfl rfl rfl rfl rfl (fun _ hS => (R_fieldAddr rfl rfl (by first | (simp only [Nat.zero_add, Nat.reduceAdd, Nat.reduceMul, Nat.zero_mul, Nat.mul_one, Nat.add_zero]; exact rfl) | exact rfl))) ?_; refine HB_p (k := 1) rfl rfl rfl rfl rfl (fun _ hS => (R_load rfl (.inl (hS _ (mem_nth (n := 0) rfl))) rfl rfl)) ?_
               refine HB_p (k := 2) rfl rfl rfl rfl rfl (fun _ hS => (R_fieldAddr rfl rfl (by first | (simp only [Nat.zero_add, Nat.reduceAdd, Nat.reduceMul, Nat.zero_mul, Nat.mul_one, Nat.add_zero]; exact rfl) | exact rfl))) ?_; refine HB_p (k := 3) rfl rfl rfl rfl rfl (fun _ hS => (R_loadA (vs := [_, _, _]) rfl (.inl (hS _ (mem_nth (n := 1) rfl))) rfl rfl rfl rfl)) ?_; refine HB_p (k := 4) rfl rfl rfl rfl rfl (fun _ hS => (R_move rfl)) ?_
               refine HB_p (k := 5) rfl rfl rfl rfl rfl (fun _ hS => (R_fieldAddr rfl rfl (by first | (simp only [Nat.zero_add, Nat.reduceAdd, Nat.reduceMul, Nat.zero_mul, Nat.mul_one, Nat.add_zero]; exact rfl) | exact rfl))) ?_; refine HB_p (k := 6) rfl rfl rfl rfl rfl (fun _ hS => (R_load rfl (.inl (hS _ (mem_nth (n := 1) rfl))) rfl rfl)) ?_
               refine HB_p (k := 7) rfl rfl rfl rfl rfl (fun _ hS => (R_fieldAddr rfl rfl (by first | (simp only [Nat.zero_add, Nat.reduceAdd, Nat.reduceMul, Nat.zero_mul, Nat.mul_one, Nat.add_zero]; exact rfl) | exact rfl))) ?_; refine HB_p (k := 8) rfl rfl rfl rfl rfl (fun _ hS => (R_load rfl (.inl (hS _ (mem_nth (n := 1) rfl))) rfl rfl)) ?_; refine HB_p (k := 9) rfl rfl rfl rfl rfl (fun _ _ => R_sliceBs (kl := some (.i64, (f : Int))) (kh := some (.i64, (f2 : Int))) (m := f) (n := f2) rfl rfl rfl rfl rfl rfl hft htl rfl) ?_; refine HB_callRE (k := 10) rfl rfl rfl rfl rfl (enters_of Tryz.func43 (by kernel_rfl) rfl) (ihx.toT (fun v hv => hv.1 hg0)) (fun q hq => Or.inr hq) fun y => ?_; obtain ⟨⟨ya, yb, yc, yd, ybits, ypb, yitems, ypi, ypick⟩, yL, yok, yer⟩ := y
               refine HB_buildSliceT (k := 11) (n := 1) (sz := 7) (vs := [_]) (zs := [_, _, _, _, _, _, _]) (r := [_, _, _, _, _, _, _]) rfl rfl rfl rfl (fun q hq => List.mem_append_right _ (by rcases List.mem_cons.1 hq with rfl | hq; exact List.mem_cons_of_mem _ List.mem_cons_self; rw [List.mem_singleton.1 hq]; exact List.mem_cons_self)) rfl rfl rfl rfl rfl rfl rfl (by rw [made_list]; exact rfl) rfl fun rv => ?_; refine HB_end ?_; refine HL_perm (perm_g ..) ?_; refine HL_appendRow (L0 := _ :: _ :: _ :: _ :: _ :: (yL ++ (rowL 95 (prsC (psT k n ins s)) prow ++ E))) (xs := vlsC vs) (row := row) (n := i) (sz := 7) (b := 88) (news := [_, _, _, _, _, _, _]) (List.Perm.refl _) rfl rfl rfl rfl (known_L (k := 0) rfl) rfl rfl rfl rfl rfl (by decide) rfl rfl rfl (by decide) hrow (by omega) (by omega) fun ra cap sp hra => ?_
               refine HL_r rfl rfl rfl rfl (R_fieldAddr rfl rfl (by first | (simp only [Nat.zero_add, Nat.reduceAdd, Nat.reduceMul, Nat.zero_mul, Nat.mul_one, Nat.add_zero]; exact rfl) | exact rfl)) ?_; refine HL_store (k := 3) (cs' := #[.int .u64 0, .int .u64 0, .int .u64 0, .int .u64 0, .slice none 0 0, rowV (i + 1) (some (ra, cap, sp)), .int .i64 0]) rfl rfl rfl rfl rfl rfl rfl rfl rfl rfl ?_; refine HL_nil ?_; refine HQ_blockN (hK43 _ _ _ _ ?_); refine HC_region ?_
               refine HLp rfl ?_; refine HL_as (show _ = Value.int .i64 ((i + 1 : Nat) : Int) from by rw [wrap_i64 (by omega) (by omega)]; congr 1 <;> omega) ?_; refine HLm rfl (HL_nil (HQ_then ?_))
               have hsn : ((psT k n ins s).take (i + 1)).map (gq s) = ((psT k n ins s).take i).map (gq s) ++ [gq s (.mk xk xn xp xi, f, f2)] := by rw [take_snoc' hq, List.map_append]; rfl
               have hgy : getT (.mk xk xn xp xi) ((s.take f2).drop f) = (erV (.mk ya yb yc yd ybits ypb yitems ypi ypick), 0) := Prod.ext yer.symm hg0
               have hvc : vlsC vs ++ Vl.cells (.mk ya yb yc yd ybits ypb yitems ypi ypick) = vlsC (vs ++ [.mk ya yb yc yd ybits ypb yitems ypi ypick]) := by unfold vlsC; rw [List.flatMap_append]; simp
               refine HQ_perm' (perm_h ..) ?_
               exact HQ_again (i + 1, vs ++ [.mk ya yb yc yd ybits ypb yitems ypi ypick], some (ra, cap, sp), yL ++ E) ⟨by simp only [List.length_append, List.length_singleton]; omega, by simp only; omega, by simp only; rw [← hvc]; exact hra, fun z hz => by rcases List.mem_append.1 hz with hz | hz; exact (hin z hz).mono (fun q hq => List.mem_append_right _ hq); rw [List.mem_singleton.1 hz]; exact yok.mono (fun q hq => List.mem_append_left _ hq), by simp only; rw [hsn, List.map_append]; exact runG_snoc hrun hgy⟩ (by simp only; omega) (.cons rfl (.cons rfl (.cons rfl (.cons rfl (.cons rfl (.cons rfl (.cons rfl .nil))))))) (by simp only; rw [← hvc]; exact .cons _ (.cons _ (List.Sublist.refl _))) (fun _ _ h => h)
             · try exact Bool.noConfusion h42
               try simp only [ZZ] at h42
               refine HC_exit (HQ_thenE ?_); refine HQ_thenE (HQ_blockE (hK38 _ _ _ _ ?_)); refine HC_seq fun K45 hK45 => ?_
               have honeV : ([.int .u64 0, .int .u64 0, .int .u64 0, .int .u64 0, .slice none 0 0, rowV i row, .int .i64 0] : List Value).all oneB = true := by cases row <;> rfl
               refine HC_region (HL_r rfl rfl rfl rfl (R_loadArr (xs := [.int .u64 0, .int .u64 0, .int .u64 0, .int .u64 0, .slice none 0 0, rowV i row, .int .i64 0]) (n := 7) rfl (known_L (k := 0) rfl) rfl rfl rfl) (HL_storeArr (k := 1) (n := 7) (ys := [.int .u64 0, .int .u64 0, .int .u64 0, .int .u64 0, .slice none 0 0, rowV i row, .int .i64 0]) rfl rfl rfl rfl rfl rfl rfl honeV rfl ?_)); refine HL_nil (hK45 _ _ _ _ ?_); refine HC_ret ?_; refine HQ_post rfl rfl (.cons (res_cellA (vs := [_, _, _, _, _, _, _]) rfl (known_L (k := 1) rfl) rfl rfl) .nil) (fun w1 hs1 => ?_)
               (have e1 := hgr
                have hiM : i = (psT k n ins s).length := by omega
                rw [hiM, List.take_length] at hrun; rw [hrun, if_neg (by simp)] at e1; rw [hiM] at hvl hrow; rw [hvl] at hrow
                have hvr : rowV i row = plV vs.length (rowP row) := by rw [hiM, hvl]; exact (rowP_V _ _ (fun h => by rw [h] at hrow; exact hrow.1)).symm
                refine .inl ⟨by rw [e1], ⟨.mk 0 0 0 0 [] none vs (rowP row) 0, rowL 31 (vlsC vs) row ++ E, items_in (by omega) (rowP_seg hrow (by decide)) hin i0, by rw [e1, erV_mk, erL_map]; rfl⟩, congrArg (fun z => Ending.returned (Value.agg #[.int .u64 0, .int .u64 0, .int .u64 0, .int .u64 0, .slice none 0 0, z, .int .i64 0])) hvr, hs1.weakL (.cons _ (.cons _ (.cons _ ((List.Sublist.refl _).append (List.sublist_append_right _ _)))))⟩)
   skip)
end Go.Proofs.YtlcbfphioeppaaaGreatDoor
namespace Go.Proofs.YtlcbfphioeppaaaGreatDoor
set_option linter.all false
open Go.SL Go.RowKit Go.Shelf
open Go.Proofs (Enters enters_of)
/-! ### Get: what is wrong is recovered -/
section
variable {c : Cx} {l : List (Nat × Value)} {L : List (Nat × Obj)} {X : XP} {Q : Exit → Act → List Frame → World → Prop} {d : List Deferred} {cs : List Frame}
variable {ops : Array Oper} {rest : List Nat} {k : Nat} {o : Oper}
theorem HS_cont (h : HS c d l L X ops rest cs Q) : HQ c d l L X ((fun e a w => e = Exit.normal ∧ wpOpsSIn (FW none) 0 c.P ops Q rest a cs w) .normal) := fun a w hf hs => ⟨rfl, h a w hf hs⟩
theorem HS_one (ho : nth ops.toList k = some o) (hp : ∀ (ρ : Operand → Value) w x w', (execOp ρ o).run c.P w = .ok x w' → (∃ v, x = .value v) ∨ x = .skip) (hn : noDefer o.op = true) (hro : c.ro = none) (h : HL c d l L X ops [o] (fun e a w => e = Exit.normal ∧ wpOpsSIn (FW none) 0 c.P ops Q rest a cs w)) : HS c d l L X ops (k :: rest) cs Q := fun a w hf hs => by
  have hk : ops[k]? = some o := by rw [← nth_arr ho]
  have h1 := h a w hf hs
  unfold wpListIn at h1
  simp only [wpOpsSIn, hk]; refine ⟨wide_about, ?_⟩
  by_cases hw : Region.wanted o (yielded ops a.tmps) = true
  · rw [if_pos hw] at h1 ⊢
    obtain ⟨_, h2⟩ := h1
    rw [Oper.semAt_eq _ _ _ (noDefer_d hn)] at h2
    cases e : (execOp a.eval o).run c.P w with
    | ok x w' =>
      rw [e] at h2
      rcases hp a.eval w x w' e with ⟨v, rfl⟩ | rfl
      · exact h2.2
      · exact h2.2
    | halt x w' =>
      rw [e] at h2
      cases x with
      | panic v => exact absurd h2.1 (by simp)
      | _ => exact h2.elim
  · rw [if_neg hw] at h1 ⊢
    exact h1.2.2
theorem plain_alloc {P : Program} {dst : Option Nat} {t ty : TypeId} {ps : String} {af : Array Edge} {gd : Option (Nat × Bool)} (ρ : Operand → Value) (w : World) (x : Next) (w' : World) (h : (execOp ρ ⟨dst, .alloc t, ty, ps, af, gd⟩).run P w = .ok x w') : (∃ v, x = .value v) ∨ x = .skip := by
  simp only [execOp, Sem.run_bind] at h
  cases e : (Instr.alloc t true (.tuple #[])).run P w with
  | ok v w2 => rw [e] at h; simp [Result.andThen] at h; exact .inl ⟨v, h.1.symm⟩
  | halt v w2 => rw [e] at h; simp [Result.andThen] at h
theorem plain_store {P : Program} {dst : Option Nat} {t ty : TypeId} {a b : Operand} {ps : String} {af : Array Edge} {gd : Option (Nat × Bool)} (ρ : Operand → Value) (w : World) (x : Next) (w' : World) (h : (execOp ρ ⟨dst, .store t a b, ty, ps, af, gd⟩).run P w = .ok x w') : (∃ v, x = .value v) ∨ x = .skip := by
  simp only [execOp, Sem.run_bind] at h
  cases e : (Instr.storeAt t (ρ a) (ρ b)).run P w with
  | ok v w2 => rw [e] at h; simp [Result.andThen] at h; exact .inr h.1.symm
  | halt v w2 => rw [e] at h; simp [Result.andThen] at h
end
def gT (rv re : Nat) (V : Array Value) (e : Int) : List (Nat × Obj) := [(rv, .cells V 31 (0, 0)), (re, .cells #[.int .i64 e] 34 (0, 0))]
abbrev VZ0 : Array Value := #[.int .u64 0, .int .u64 0, .int .u64 0, .int .u64 0, .slice none 0 0, .slice none 0 0, .int .i64 0]
set_option maxRecDepth 10000 in
theorem D_ret (rv re : Nat) (hne : rv ≠ re) (V : Array Value) (hV : V.size = 7) (e0 : Int) (w : World) (hT : Has (gT rv re V e0) w) : CallsDIn (FW none) 0 Tryz.prog 40 [pt0 rv, pt0 re].toArray .returning w (fun e u' w' => (∃ x, e = .returned x) ∧ settle u' = .returning ∧ Keep [rv, re] w w' ∧ Has (gT rv re V e0) w') := by
  refine callsD_of_HS (cxT Tryz.prog w (gT rv re V e0) [] Tryz.f40.ntmps) Tryz.func40 rfl rfl rfl rfl (L := gT rv re V e0) (X := fun _ _ => True) (St.startT hT (fun p hp => nomatch hp) (List.pairwise_pair.2 hne) (fun p hp => nomatch hp)) fun c₀ cs hu => ?_
  obtain ⟨hrv, hrc⟩ := recV_ret (cs := cs) hu
  refine HCS_seq fun K hK => ?_; refine HCS_region ?_; change HS _ _ _ _ _ _ [0, 1, 2, 3, 4, 5, 6, 7] _ _; refine HS_recover rfl rfl rfl rfl (fun a w hf => rfl) hrv hrc ?_; refine HS_r rfl rfl rfl rfl (R_pure rfl rfl rfl) ?_; refine HS_r rfl rfl rfl rfl (R_move rfl) ?_; refine HS_r rfl rfl rfl rfl (R_extract rfl rfl) ?_; refine HS_r rfl rfl rfl rfl (R_extract rfl rfl) ?_; refine HS_one rfl plain_alloc rfl rfl (HL_alloc (cs := #[_]) rfl rfl rfl rfl fun r2 => HL_nil (HS_cont ?_)); refine HS_one rfl plain_store rfl rfl (HL_storeA (k := 0) (n := 1) (cs' := #[_]) (vs := #[_]) rfl rfl rfl rfl rfl rfl rfl (by exact Nat.le_of_ble_eq_true rfl) rfl rfl (HL_nil (HS_cont ?_))); refine HS_r rfl rfl rfl rfl (R_assign rfl) ?_; refine HS_nil ?_; refine hK _ _ _ _ _ (HCS_of rfl ?_); clear hK K; refine HC_seq fun K1 hK1 => HC_region ?_; refine HLm rfl ?_; refine HL_nil (hK1 _ _ _ _ ?_); refine HC_cond rfl (fun h2 => ?_) (fun h2 => ?_)
  · try exact Bool.noConfusion h2
  · try exact Bool.noConfusion h2
    try simp only [ZZ] at h2
    refine HC_skip ?_; refine HQ_postSN (u' := .returning) rfl rfl rfl .nil (fun w1 hs1 => ?_); refine ⟨⟨_, rfl⟩, rfl, by have := hs1.keep; simpa [cxT, gT] using this, fun p hp => ?_⟩; exact (hs1.own p (List.mem_cons_of_mem _ hp)).2.2
set_option maxRecDepth 10000 in
theorem D_pan (rv re : Nat) (hne : rv ≠ re) (V : Array Value) (hV : V.size = 7) (e0 : Int) (e1 : Int) (w : World) (hT : Has (gT rv re V e0) w) : CallsDIn (FW none) 0 Tryz.prog 40 [pt0 rv, pt0 re].toArray (.panicking (panE (wrV e1))) w (fun e u' w' => (∃ x, e = .returned x) ∧ settle u' = .returning ∧ Keep [rv, re] w w' ∧ Has (gT rv re VZ0 e1) w') := by
  refine callsD_of_HS (cxT Tryz.prog w (gT rv re V e0) [] Tryz.f40.ntmps) Tryz.func40 rfl rfl rfl rfl (L := gT rv re V e0) (X := fun _ _ => True) (St.startT hT (fun p hp => nomatch hp) (List.pairwise_pair.2 hne) (fun p hp => nomatch hp)) fun c₀ cs hu => ?_
  obtain ⟨hrv, hrc⟩ := recV_pan (cs := cs) hu
  refine HCS_seq fun K hK => ?_; refine HCS_region ?_; change HS _ _ _ _ _ _ [0, 1, 2, 3, 4, 5, 6, 7] _ _; refine HS_recover rfl rfl rfl rfl (fun a w hf => rfl) hrv hrc ?_; refine HS_r rfl rfl rfl rfl (R_pure rfl rfl rfl) ?_; refine HS_r rfl rfl rfl rfl (R_move rfl) ?_; refine HS_r rfl rfl rfl rfl (R_extract rfl rfl) ?_; refine HS_r rfl rfl rfl rfl (R_extract rfl rfl) ?_; refine HS_one rfl plain_alloc rfl rfl (HL_alloc (cs := #[_]) rfl rfl rfl rfl fun r2 => HL_nil (HS_cont ?_)); refine HS_one rfl plain_store rfl rfl (HL_storeA (k := 0) (n := 1) (cs' := #[_]) (vs := #[_]) rfl rfl rfl rfl rfl rfl rfl (by exact Nat.le_of_ble_eq_true rfl) rfl rfl (HL_nil (HS_cont ?_))); refine HS_r rfl rfl rfl rfl (R_assign rfl) ?_; refine HS_nil ?_; refine hK _ _ _ _ _ (HCS_of rfl ?_); clear hK K; refine HC_seq fun K1 hK1 => HC_region ?_; refine HLm rfl ?_; refine HL_nil (hK1 _ _ _ _ ?_); refine HC_cond rfl (fun h2 => ?_) (fun h2 => ?_)
  · try exact Bool.noConfusion h2
    try simp only [ZZ] at h2
    refine HC_drawB [(r2, .cells #[.int .i64 e1] 55 (0, 0))] [(0, .pure), (1, .pure), (2, .pure), (3, .turn), (4, .turn)] 5 [0, 1, 2, 3, 4] (by kernel_rfl) (by kernel_rfl) (by first | exact (fun _ h => absurd h List.not_mem_nil) | simp [SubS] | (intro p hp; simp [hp])) ?_; refine HB_p (k := 0) rfl rfl rfl rfl rfl (fun _ hS => (R_build (r := [_, _, _, _, _, _, _]) rfl rfl)) ?_
    refine HB_p (k := 1) rfl rfl rfl rfl rfl (fun _ hS => (R_fieldAddr rfl rfl (by first | (simp only [Nat.zero_add, Nat.reduceAdd, Nat.reduceMul, Nat.zero_mul, Nat.mul_one, Nat.add_zero]; exact rfl) | exact rfl))) ?_; refine HB_p (k := 2) rfl rfl rfl rfl rfl (fun _ hS => (R_load rfl (.inl (hS _ (mem_nth (n := 0) rfl))) rfl rfl)) ?_; refine HB_storeArr (k := 3) (q := 1) (n := 7) (ys := [.int .u64 0, .int .u64 0, .int .u64 0, .int .u64 0, .slice none 0 0, .slice none 0 0, .int .i64 0]) rfl rfl rfl rfl rfl rfl rfl rfl hV rfl rfl (by simp [SubS]) ?_
    refine HB_store (k := 4) (q := 2) rfl rfl rfl rfl rfl rfl rfl rfl rfl (by first | (simp only [List.setIfInBounds_toArray, List.set_cons_zero, List.set_cons_succ]; exact rfl) | exact rfl) (by first | (simp only [List.set_cons_zero, List.set_cons_succ]; exact rfl) | exact rfl) (by first | exact (fun _ h => absurd h List.not_mem_nil) | simp [SubS] | (intro p hp; simp [hp])) ?_; refine HB_end ?_; refine HL_nil ?_; refine HQ_postSN (u' := .panicking [{ v := wrV e1, recovered := true }]) rfl rfl rfl .nil (fun w1 hs1 => ?_); refine ⟨⟨_, rfl⟩, rfl, by have := hs1.keep; simpa [cxT, gT] using this, fun p hp => ?_⟩; exact (hs1.own p (List.mem_cons_of_mem _ hp)).2.2
  · try exact Bool.noConfusion h2
end Go.Proofs.YtlcbfphioeppaaaGreatDoor
namespace Go.Proofs.YtlcbfphioeppaaaGreatDoor
set_option linter.all false
open Go.SL Go.RowKit Go.Shelf
open Go.Proofs (Enters enters_of)
/-! ### Get -/
theorem getT_bad (t : Ty) (s : BS) : (getT t s).2 ≠ 0 → (getT t s).1 = v0L := by
  obtain ⟨k, n, p, ins⟩ := t
  rw [getT]
  unfold decT rowT
  dsimp only
  repeat' split
  all_goals first | (intro _; rfl) | (intro h; exact absurd rfl h)
def getR (t : Ty) (s : BS) : Vl × Int := if chk t 0 ≠ 0 then (v0L, chk t 0) else if 65536 < s.length then (v0L, 5) else getT t s
theorem v0_in : Vl.In [] v0L := .mk u0 u0 u0 u0 (by decide) rfl (by decide) rfl i0 (fun x hx => nomatch hx)
section
variable {c : Cx} {l : List (Nat × Value)} {L L0 : List (Nat × Obj)} {X : XP} {d : List Deferred} {fn : Func} {R : Ending → World → Prop} {rv re : Nat} {V : Array Value} {e0 e1 : Int}
theorem gT_has {w : World} (hs : St c (gT rv re V e0 ++ L0) X w) : Has (gT rv re V e0) w ∧ rv ≠ re := ⟨fun p hp => (hs.own p (List.mem_append_left _ hp)).2.2, by
  have := (List.pairwise_append.1 hs.distinct).1
  exact (List.pairwise_cons.1 this).1 _ (List.mem_singleton_self _)⟩
theorem gT_turn {V' : Array Value} {w w' : World} (hs : St c (gT rv re V e0 ++ L0) X w) (hk : Keep [rv, re] w w') (hT : Has (gT rv re V' e1) w') : St c (gT rv re V' e1 ++ L0) X w' := by
  obtain ⟨_, hne⟩ := gT_has hs
  refine hs.turnT (by simpa [gT] using hk) (fun p hp => ⟨.inl ?_, hT p hp⟩) (List.pairwise_pair.2 hne)
  rcases List.mem_cons.1 hp with rfl | hp
  · simp [gT]
  · rw [List.mem_singleton.1 hp]; simp [gT]
theorem G_ret (hP : c.P = Tryz.prog) (hp : L.Perm (gT rv re V e0 ++ L0)) (hV : V.size = 7) (h : HQ c d l (gT rv re V e0 ++ L0) X (bodyPostM (FW none) 0 Tryz.prog fn R .ret)) : HQ c (dF 40 [pt0 rv, pt0 re] :: d) l L X (bodyPostM (FW none) 0 Tryz.prog fn R .ret) :=
  HQ_perm' hp (HQ_dfr (enters_of Tryz.func40 (by kernel_rfl) rfl) (fun w hs => CallsDIn.mono (D_ret rv re (gT_has hs).2 V hV e0 w (gT_has hs).1) fun _ _ _ ⟨h1, h2, h3, h4⟩ => ⟨h1, h2, gT_turn hs h3 h4⟩) h)
theorem G_pan (hP : c.P = Tryz.prog) (hd : d = []) (hp : L.Perm (gT rv re V e0 ++ L0)) (hV : V.size = 7) (h : HQ c d l (gT rv re VZ0 e1 ++ L0) X (bodyPostM (FW none) 0 Tryz.prog fn R .ret)) : HQ c (dF 40 [pt0 rv, pt0 re] :: d) l L X (bodyPostM (FW none) 0 Tryz.prog fn R (.panic (panE (wrV e1)))) :=
  HQ_perm' hp (HQ_dfrP (enters_of Tryz.func40 (by kernel_rfl) rfl) (fun w hs => CallsDIn.mono (D_pan rv re (gT_has hs).2 V hV e0 e1 w (gT_has hs).1) fun _ _ _ ⟨h1, h2, h3, h4⟩ => ⟨h1, h2, gT_turn hs h3 h4⟩) h)
end
set_option maxRecDepth 20000 in
set_option maxHeartbeats 1000000 in
theorem T_Get {R : List (Nat × Obj)} {t : Ty} (ht : t.In R) (s : BS) : PureT (α := VR (getR t s).1) Tryz.prog 19 [t.val, strV s].toArray (fun y => .tuple #[y.x.val, .int .i64 (getR t s).2]) [] (fun y => y.L) R := by
  have hC := S_Check ht
  have hG := X_get ht (s := s)
  have hbd := getT_bad t s
  have hg0 : chk t 0 ≠ 0 → getR t s = (v0L, chk t 0) := fun h => by unfold getR; rw [if_pos h]
  have hg1 : chk t 0 = 0 → 65536 < s.length → getR t s = (v0L, 5) := fun h h2 => by unfold getR; rw [if_neg (by rw [h]; decide), if_pos h2]
  have hg2 : chk t 0 = 0 → ¬ 65536 < s.length → getR t s = getT t s := fun h h2 => by unfold getR; rw [if_neg (by rw [h]; decide), if_neg h2]
  generalize hcz : chk t 0 = z at hC hG hg0 hg1 hg2
  obtain ⟨k, n, p, ins⟩ := t
  refine pureT_of_HC Tryz.func19 rfl rfl fun w => ?_; refine HC_seq fun K1 hK1 => HC_region ?_; refine HL_box (cs := #[_, _, _]) rfl rfl rfl rfl fun r1 => ?_; refine HL_alloc (cs := #[_, _, _, _, _, _, _]) rfl rfl rfl rfl fun r2 => ?_; refine HL_alloc (cs := #[_]) rfl rfl rfl rfl fun r3 => ?_; refine HL_nil (hK1 _ _ _ _ ?_); refine HC_seq fun K2 hK2 => HC_region ?_; refine HL_r rfl rfl rfl rfl (R_makeFunc rfl rfl) ?_; refine HL_defer (caps := [pt0 r2, pt0 r3]) rfl rfl rfl ?_ rfl; refine HL_nil (hK2 _ _ _ _ ?_); refine HC_seq fun K3 hK3 => ?_; refine HC_seq fun K4 hK4 => HC_region ?_; refine HL_r rfl rfl rfl rfl (R_loadA (vs := [_, _, _]) rfl (known_L (k := 2) rfl) rfl rfl rfl rfl) ?_; refine HL_callR rfl rfl rfl (enters_of Tryz.func41 (by kernel_rfl) rfl) hC (fun q hq => Or.inr hq) ?_; refine HLm rfl ?_; refine HL_nil (hK4 _ _ _ _ ?_); refine HC_seq fun K5 hK5 => HC_region ?_; refine HLm rfl (HLp rfl ?_); refine HL_nil (hK5 _ _ _ _ ?_); refine HC_cond rfl (fun h6 => ?_) (fun h6 => ?_)
  · try exact Bool.noConfusion h6
    try simp only [ZZ] at h6
    refine HC_seq fun K7 hK7 => HC_region ?_; refine HL_r rfl rfl rfl rfl (R_build (r := [_, _, _, _, _, _, _]) rfl rfl) ?_; refine HLm rfl ?_
    refine HL_storeA (k := 1) (n := 7) (cs' := #[_, _, _, _, _, _, _]) (vs := #[_, _, _, _, _, _, _]) rfl rfl rfl rfl rfl rfl rfl (by exact Nat.le_of_ble_eq_true rfl) rfl (by first | (simp only [List.set_cons_zero, List.set_cons_succ]; exact rfl) | exact rfl) ?_
    refine HL_store (k := 0) rfl rfl rfl rfl rfl rfl rfl rfl (by first | (simp only [List.setIfInBounds_toArray, List.set_cons_zero, List.set_cons_succ]; exact rfl) | exact rfl) (by first | (simp only [List.set_cons_zero, List.set_cons_succ]; exact rfl) | exact rfl) ?_; refine HL_nil (hK7 _ _ _ _ ?_); refine HC_ret (HQ_thenR ?_)
    (refine G_ret (L0 := [_]) rfl (List.Perm.swap _ _ _) rfl ?_
     refine HQ_post rfl rfl (.cons (res_cellA (vs := [_, _, _, _, _, _, _]) rfl (known_L (k := 0) rfl) rfl rfl) (.cons (res_cell rfl (known_L (k := 1) rfl) rfl rfl) .nil)) (fun w1 hs1 => ?_)
     exact ⟨⟨v0L, [], v0_in, by rw [hg0 (by assumption)]; rfl⟩, congrArg (fun z => Ending.returned (Value.tuple #[v0L.val, .int .i64 z])) (congrArg Prod.snd (hg0 (by assumption))).symm, hs1.weakL (List.nil_sublist _)⟩)
  · try exact Bool.noConfusion h6
    try simp only [ZZ] at h6
    refine HC_skip (hK3 _ _ _ _ ?_); refine HC_seq fun K8 hK8 => ?_
    have hz : z = 0 := by assumption
    refine HC_region (HLm rfl (HL_r rfl rfl rfl rfl (R_lenBs rfl rfl) ?_)); refine HLp rfl ?_; refine HL_callX rfl rfl rfl (enters_of Tryz.func42 (by kernel_rfl) rfl) (X_need (_) 5) (fun q hq => nomatch hq) (fun hok _ => ?_) (fun v hv => by obtain ⟨hvb, rfl⟩ := hv; refine G_pan (e1 := 5) (L0 := [_]) rfl rfl (List.Perm.swap _ _ _) rfl ?_; refine HQ_post rfl rfl (.cons (res_cellA (vs := [_, _, _, _, _, _, _]) rfl (known_L (k := 0) rfl) rfl rfl) (.cons (res_cell rfl (known_L (k := 1) rfl) rfl rfl) .nil)) (fun w1 hs1 => ?_); exact ⟨⟨v0L, [], v0_in, by rw [hg1 hz (by have := Z2.1 hvb; omega)]; rfl⟩, congrArg (fun z => Ending.returned (Value.tuple #[v0L.val, .int .i64 z])) (congrArg Prod.snd (hg1 hz (by have := Z2.1 hvb; omega))).symm, hs1.weakL (List.nil_sublist _)⟩)
    have hl : ¬ 65536 < s.length := by have := Z1.mp hok; omega
    refine HL_nil (hK8 _ _ _ _ ?_); refine HC_seq fun K9 hK9 => HC_region ?_; refine HL_r rfl rfl rfl rfl (R_loadA (vs := [_, _, _]) rfl (known_L (k := 2) rfl) rfl rfl rfl rfl) ?_; refine HLm rfl ?_; refine HL_callX rfl rfl rfl (enters_of Tryz.func43 (by kernel_rfl) rfl) (hG hz (by omega)) (fun q hq => Or.inr hq) (fun hok y => ?_) (fun v hv => by obtain ⟨hvb, rfl⟩ := hv; refine G_pan (e1 := (getT (.mk k n p ins) s).2) (L0 := [_]) rfl rfl (List.Perm.swap _ _ _) rfl ?_; refine HQ_post rfl rfl (.cons (res_cellA (vs := [_, _, _, _, _, _, _]) rfl (known_L (k := 0) rfl) rfl rfl) (.cons (res_cell rfl (known_L (k := 1) rfl) rfl rfl) .nil)) (fun w1 hs1 => ?_); exact ⟨⟨v0L, [], v0_in, by rw [hg2 hz hl, hbd hvb]; rfl⟩, congrArg (fun z => Ending.returned (Value.tuple #[v0L.val, .int .i64 z])) (congrArg Prod.snd (hg2 hz hl)).symm, hs1.weakL (List.nil_sublist _)⟩)
    obtain ⟨⟨ya, yb, yc, yd, ybits, ypb, yitems, ypi, ypick⟩, yL, yok, yer⟩ := y
    refine HL_perm List.perm_append_comm ?_
    refine HL_storeA (k := 1) (n := 7) (cs' := #[_, _, _, _, _, _, _]) (vs := #[_, _, _, _, _, _, _]) rfl rfl rfl rfl rfl rfl rfl (by exact Nat.le_of_ble_eq_true rfl) rfl (by first | (simp only [List.set_cons_zero, List.set_cons_succ]; exact rfl) | exact rfl) ?_
    refine HL_store (k := 0) rfl rfl rfl rfl rfl rfl rfl rfl (by first | (simp only [List.setIfInBounds_toArray, List.set_cons_zero, List.set_cons_succ]; exact rfl) | exact rfl) (by first | (simp only [List.set_cons_zero, List.set_cons_succ]; exact rfl) | exact rfl) ?_; refine HL_nil (hK9 _ _ _ _ ?_); refine HC_ret ?_
    (refine G_ret (L0 := _ :: yL) rfl (List.Perm.swap _ _ _) rfl ?_
     refine HQ_post rfl rfl (.cons (res_cellA (vs := [_, _, _, _, _, _, _]) rfl (known_L (k := 0) rfl) rfl rfl) (.cons (res_cell rfl (known_L (k := 1) rfl) rfl rfl) .nil)) (fun w1 hs1 => ?_)
     exact ⟨⟨.mk ya yb yc yd ybits ypb yitems ypi ypick, yL, yok, by rw [hg2 hz hl]; exact yer⟩, congrArg (fun z => Ending.returned (Value.tuple #[Vl.val (.mk ya yb yc yd ybits ypb yitems ypi ypick), .int .i64 z])) ((congrArg Prod.snd (hg2 hz hl)).trans hok).symm, hs1.weakL (.cons _ (.cons _ (.cons _ (List.Sublist.refl _))))⟩)
end Go.Proofs.YtlcbfphioeppaaaGreatDoor
namespace Go.Proofs.YtlcbfphioeppaaaGreatDoor
set_option linter.all false
open Go.SL Go.RowKit Go.Shelf
section
variable {c : Cx} {l : List (Nat × Value)} {L E : List (Nat × Obj)} {X : XP} {Q : Exit → Act → World → Prop} {d : List Deferred}
variable {ops : Array Oper} {rest : List Nat} {i k : Nat} {v : Value} {o : Oper} {tb : Kbs} {S : List (Nat × Obj)} {T : List (Nat × Obj) → Act → Prop}
end
end Go.Proofs.YtlcbfphioeppaaaGreatDoor
namespace Go.Proofs.YtlcbfphioeppaaaGreatDoor
set_option linter.all false
open Go.SL Go.RowKit Go.Shelf
/-! ### Rows of chunks; whether a type is a number's; the root of bits -/
abbrev RowOf (l : List BS) : Type := { row : Row // rowOk 1 l.length (chC l) row }
abbrev rV {l : List BS} (x : RowOf l) : Value := plV l.length (rowP x.1)
abbrev rL {l : List BS} (x : RowOf l) : List (Nat × Obj) := rowL 9 (chC l) x.1
end Go.Proofs.YtlcbfphioeppaaaGreatDoor
namespace Go.Proofs.YtlcbfphioeppaaaGreatDoor
set_option linter.all false
open Go.SL Go.RowKit Go.Shelf
/-! ### The root of a row of one type -/
section
variable {c : Cx} {l : List (Nat × Value)} {L E : List (Nat × Obj)} {X : XP} {Q : Exit → Act → World → Prop} {d : List Deferred}
variable {ops : Array Oper} {rest : List Nat} {i k : Nat} {v : Value} {o : Oper} {tb : Kbs} {S : List (Nat × Obj)} {T : List (Nat × Obj) → Act → Prop}
end
end Go.Proofs.YtlcbfphioeppaaaGreatDoor
namespace Go.Proofs.YtlcbfphioeppaaaGreatDoor
set_option linter.all false
open Go.SL Go.RowKit Go.Shelf
/-! ### The root of a value -/
section
variable {R : List (Nat × Obj)} {k n : Int} {p : Pl} {ins : List Ty} {a b c d : Nat} {bits : List Bool} {pb : Pl} {items : List Vl} {pi : Pl} {pick : Int} {s : BS}
end
end Go.Proofs.YtlcbfphioeppaaaGreatDoor
namespace Go.Proofs.YtlcbfphioeppaaaGreatDoor
set_option linter.all false
open Go.SL Go.RowKit Go.Shelf
end Go.Proofs.YtlcbfphioeppaaaGreatDoor
namespace Go.Proofs.YtlcbfphioeppaaaGreatDoor
set_option linter.all false
open Go.SL Go.RowKit Go.Shelf
end Go.Proofs.YtlcbfphioeppaaaGreatDoor
namespace Go.Proofs.YtlcbfphioeppaaaGreatDoor
set_option linter.all false
open Go.SL Go.RowKit Go.Shelf
mutual
def nT : Ty → Nat
  | .mk _ _ _ ins => 1 + nTL ins
def nTL : List Ty → Nat
  | [] => 0
  | x :: xs => nT x + nTL xs
end
theorem typL_ge : ∀ (l : List Ty) (most deep n : Int), n ≤ typL l most deep n
  | [], _, _, n => by rw [typL]; exact Int.le_refl _
  | x :: xs, most, deep, n => by
    rw [typL]
    split
    · have h1 := (typN_le x (most - n) (deep - 1) (by omega)).1
      have h2 := typL_ge xs most deep (n + typN x (most - n) (deep - 1))
      omega
    · exact Int.le_refl _
theorem typN_n (t : Ty) : ∀ most deep : Int, typN t most deep ≤ most → typN t most deep = (nT t : Nat) := by
  induction t using Ty.ind with
  | h k n p ins ih =>
    intro most deep h; rw [typN] at h ⊢
    split at h
    · omega
    · rename_i h1
      rw [if_neg h1]
      have key : ∀ l : List Ty, (∀ x ∈ l, x ∈ ins) → ∀ n : Int, typL l most deep n ≤ most → typL l most deep n = n + (nTL l : Nat) := by
        intro l
        induction l with
        | nil => intro _ n _; rw [typL, nTL]; simp
        | cons x xs ihl =>
          intro hs n hn
          have hnm : n ≤ most := Int.le_trans (typL_ge (x :: xs) most deep n) hn
          rw [typL] at hn ⊢; rw [if_pos hnm] at hn ⊢
          have h3 := ihl (fun y hy => hs y (List.mem_cons_of_mem _ hy)) _ hn
          have h4 := typL_ge xs most deep (n + typN x (most - n) (deep - 1))
          have h5 := ih x (hs x List.mem_cons_self) (most - n) (deep - 1) (by omega)
          rw [h3, h5, nTL]
          first | omega | (push_cast; omega)
      rw [key ins (fun _ h => h) _ h, nT]
      first | omega | (push_cast; omega)
theorem few_n {t : Ty} {v : Vl} (h : fewB t v = true) : nT t ≤ 60 := by
  unfold fewB at h
  rw [Bool.and_eq_true, decide_eq_true_eq, decide_eq_true_eq] at h
  have := typN_n t 60 9 h.1
  omega
section
variable {c : Cx} {l : List (Nat × Value)} {L : List (Nat × Obj)} {X : XP} {d : List Deferred} {i : Nat} {ps : String} {af : Array Edge} {gd : Option (Nat × Bool)} {ty : TypeId}
end
theorem getTy {ins : List Ty} {i : Nat} (h : i < ins.length) : ∃ y, ins[i]? = some y ∧ y ∈ ins := ⟨ins[i], List.getElem?_eq_getElem h, List.getElem_mem h⟩
theorem dropTy {ins : List Ty} {i : Nat} {y : Ty} (h : ins[i]? = some y) : ins.drop i = y :: ins.drop (i + 1) := by
  obtain ⟨h1, h2⟩ := List.getElem?_eq_some_iff.1 h
  rw [List.drop_eq_getElem_cons h1, h2]
end Go.Proofs.YtlcbfphioeppaaaGreatDoor
namespace Go.Proofs.YtlcbfphioeppaaaGreatDoor
set_option linter.all false
open Go.SL Go.RowKit Go.Shelf
section
variable {a b c d : Nat} {bits : List Bool} {pb : Pl} {items : List Vl} {pi : Pl} {pick n : Int} {p : Pl} {ins : List Ty}
end
end Go.Proofs.YtlcbfphioeppaaaGreatDoor
namespace Go.Proofs.YtlcbfphioeppaaaGreatDoor
set_option linter.all false
open Go.SL Go.RowKit Go.Shelf
open Go.Proofs (Enters enters_of)
/-! ### What the laws look at; their fixed facts -/
theorem same_er (v : Vl) : ∀ w, sameV v w = true ↔ erV v = erV w := by
  induction v using Vl.ind with
  | h a b c d bits pb items pi pick ih =>
  intro w
  obtain ⟨a', b', c', d', bits', pb', items', pi', pick'⟩ := w
  have key : ∀ l : List Vl, (∀ x ∈ l, x ∈ items) → ∀ m : List Vl, sameL l m = true ↔ erL l = erL m := by
    intro l
    induction l with
    | nil => intro _ m; cases m with
      | nil => rw [sameL]; simp
      | cons y ys => rw [same_ln (by simp), erL, erL]; simp
    | cons x xs ihl =>
      intro hs m
      cases m with
      | nil => rw [same_ln (by simp), erL, erL]; simp
      | cons y ys =>
        rw [sameL, erL, erL, Bool.and_eq_true, ih x (hs x List.mem_cons_self) y, ihl (fun z hz => hs z (List.mem_cons_of_mem _ hz)) ys]
        simp
  rw [sameV_mk, erV_mk, erV_mk]; simp only [Bool.and_eq_true, decide_eq_true_eq, key items (fun _ h => h) items', Vl.mk.injEq, List.cons.injEq, and_true, true_and]
  constructor
  · rintro ⟨⟨⟨⟨h1, h2, h3, h4⟩, h5⟩, h6⟩, h7⟩; exact ⟨h1, h2, h3, h4, h6, h7, h5⟩
  · rintro ⟨h1, h2, h3, h4, h6, h7, h5⟩; exact ⟨⟨⟨⟨h1, h2, h3, h4⟩, h5⟩, h6⟩, h7⟩
mutual
def weightT : Ty → Int
  | .mk k n _ ins => (if k = 3 ∧ 0 < n ∧ n ≤ 512 ∧ weightL ins 0 ≤ 3000 then weightL ins 0 * n else weightL ins 0) + 1
def weightL : List Ty → Int → Int
  | [], m => m
  | x :: xs, m => if m ≤ 3000 then weightL xs (m + weightT x) else m
end
theorem weight_le (t : Ty) : 1 ≤ weightT t ∧ weightT t ≤ 1540000 + 3001 * (nT t : Nat) := by
  induction t using Ty.ind with
  | h k n p ins ih =>
    have key : ∀ l : List Ty, (∀ x ∈ l, x ∈ ins) → ∀ m : Int, 0 ≤ m → (m ≤ 3000 ∨ True) → 0 ≤ weightL l m ∧ (weightL l m ≤ max m 3000 + 1540000 + 3001 * (nTL l : Nat)) := by
      intro l
      induction l with
      | nil => intro _ m hm _; rw [weightL, nTL]; omega
      | cons x xs ihl =>
        intro hs m hm _
        have h1 := ih x (hs x List.mem_cons_self)
        rw [weightL, nTL]
        split
        · have h2 := ihl (fun y hy => hs y (List.mem_cons_of_mem _ hy)) (m + weightT x) (by omega) (.inr trivial)
          cases xs with
          | nil => rw [weightL, nTL] at *; omega
          | cons y ys =>
            by_cases h3 : m + weightT x ≤ 3000
            · omega
            · rw [weightL, if_neg h3]; omega
        · omega
    have h2 := key ins (fun _ h => h) 0 (by omega) (.inr trivial)
    rw [weightT, nT]
    split
    · rename_i h3
      have h4 : weightL ins 0 * n ≤ 3000 * 512 := Int.mul_le_mul h3.2.2.2 h3.2.2.1 (by omega) (by omega)
      have h5 : 0 ≤ weightL ins 0 * n := Int.mul_nonneg h2.1 (by omega)
      omega
    · omega
set_option maxRecDepth 10000 in
theorem S_weight {R : List (Nat × Obj)} {t : Ty} (ht : t.In R) : nT t ≤ 100000 → PureR Tryz.prog 36 [t.val].toArray (.int .i64 (weightT t)) R := by
  induction ht with
  | @mk k n p ins hk hn hl hs hi ih =>
  intro hnt
  have hwb := weight_le (.mk k n p ins)
  have hnt0 := hnt
  rw [nT] at hnt; refine pureR_of_HC Tryz.func36 rfl rfl fun w => ?_; refine HC_seq fun K1 hK1 => HC_region ?_; refine HL_box (cs := #[_, _, _]) rfl rfl rfl rfl fun r1 => ?_; refine HLm rfl ?_; refine HL_nil (hK1 _ _ _ _ ?_); refine HC_seq fun K2 hK2 => HC_region ?_; refine HLm rfl ?_; refine HL_nil (hK2 _ _ _ _ ?_); refine HC_seq fun K3 hK3 => ?_; refine HC_seq fun K4 hK4 => HC_region ?_; refine HLm rfl ?_; refine HL_nil (hK4 _ _ _ _ ?_); refine HC_block (HC_loop (σ := Nat × Int) (fun s => s.1 ≤ ins.length ∧ 0 ≤ s.2 ∧ nTL (ins.drop s.1) ≤ nTL ins ∧ s.2 ≤ 2000000000 ∧ weightL (ins.drop s.1) s.2 = weightL ins 0) (fun s => [(1, pt0 r1), (3, .int .i64 s.2), (4, .int .i64 (s.1 : Int))]) (fun _ => [tBlk r1 (.mk k n p ins)]) (fun _ _ _ => True) (fun s => ins.length - s.1) (0, 0) ⟨Nat.zero_le _, Int.le_refl _, Nat.le_refl _, by decide, rfl⟩ (.cons rfl (.cons rfl (.cons rfl .nil))) (List.Sublist.refl _) (fun _ _ h => h) ?_); rintro ⟨i, m⟩ ⟨hi1, hm2, hbd, hm3, hinv⟩; simp only at hi1 hm2 hbd hm3 hinv; change HC _ _ [(1, _), (3, .int .i64 m), (4, .int .i64 (i : Int))] ((r1, _) :: []) _ _ _; refine HC_seq fun K5 hK5 => ?_; refine HC_seq fun K6 hK6 => HC_region ?_; refine HLm rfl ?_
  refine HL_r rfl rfl rfl rfl (R_fieldAddr rfl rfl (by first | (simp only [Nat.zero_add, Nat.reduceAdd, Nat.reduceMul, Nat.zero_mul, Nat.mul_one, Nat.add_zero]; exact rfl) | exact rfl)) ?_; refine HL_r rfl rfl rfl rfl (R_load rfl (known_L (k := 0) rfl) rfl rfl) ?_; refine HL_r rfl rfl rfl rfl (R_lenPl rfl hs rfl) ?_; refine HLp rfl (HLm rfl ?_)
  refine HL_case 10 rfl (fun hb7 => ?_) (fun hb7 => ?_) <;> (try simp only [ZZ] at hb7) <;> first | (refine HLm rfl ?_) | (refine HL_skip rfl rfl rfl ?_)
  all_goals first
    | (refine HLp rfl ?_)
    | (refine HL_skip rfl rfl rfl ?_)
  all_goals first
    | (refine HL_r rfl rfl rfl rfl (R_pickT rfl rfl) ?_)
    | (refine HL_r rfl rfl rfl rfl (R_pickF rfl rfl) ?_)
  all_goals refine HL_nil ?_
  all_goals (
   refine hK6 _ _ _ _ ?_; refine HC_cond rfl (fun h9 => ?_) (fun h9 => ?_)
   · try exact Bool.noConfusion h9
     all_goals try simp only [ZZ] at h9
     all_goals (
      refine HC_skip (hK5 _ _ _ _ ?_); refine HC_seq fun K10 hK10 => HC_block ?_
      obtain ⟨y, hy, hmem⟩ := getTy (show i < ins.length by omega)
      have hyb := weight_le y
      rw [dropTy hy, weightL, if_pos (by omega)] at hinv; rw [dropTy hy, nTL] at hbd; refine HC_region (HLm rfl ?_)
      refine HL_r rfl rfl rfl rfl (R_fieldAddr rfl rfl (by first | (simp only [Nat.zero_add, Nat.reduceAdd, Nat.reduceMul, Nat.zero_mul, Nat.mul_one, Nat.add_zero]; exact rfl) | exact rfl)) ?_; refine HL_r rfl rfl rfl rfl (R_load rfl (known_L (k := 0) rfl) rfl rfl) ?_; refine HLm rfl ?_
      refine HL_r rfl rfl rfl rfl (R_indexPl (j := i) rfl hs rfl rfl rfl (by first | rfl | omega) (by omega)) ?_; refine HL_r rfl rfl rfl rfl (R_loadTy (fun q hq => Or.inr hq) rfl hs hy rfl rfl) ?_; refine HL_callR rfl rfl rfl (enters_of Tryz.func36 (by kernel_rfl) rfl) (ih y hmem (by omega)) (fun q hq => Or.inr hq) ?_; refine HLp rfl (HL_as (show _ = Value.int .i64 (m + weightT y) from congrArg (Value.int .i64) (wrap_i64 (by omega) (by omega))) ?_); refine HLm rfl (HL_nil ?_); refine HQ_blockN (hK10 _ _ _ _ ?_); refine HC_region (HLm rfl ?_)
      refine HLp rfl ?_; refine HL_as (show _ = Value.int .i64 ((i + 1 : Nat) : Int) from by rw [wrap_i64 (by omega) (by omega)]; congr 1 <;> omega) ?_; refine HLm rfl (HL_nil (HQ_then ?_)); exact HQ_again (i + 1, m + weightT y) ⟨by simp only; omega, by simp only; omega, by simp only; omega, by simp only; omega, hinv⟩ (by simp only; omega) (.cons rfl (.cons rfl (.cons rfl .nil))) (List.Sublist.refl _) (fun _ _ h => h)
      skip)
   · try exact Bool.noConfusion h9
     try simp only [ZZ] at h9
     refine HC_exit (HQ_thenE ?_); refine HQ_thenE (HQ_blockE (hK3 _ _ _ _ ?_)); refine HC_seq fun K11 hK11 => ?_; refine HC_seq fun K12 hK12 => ?_
     have hend : weightL ins 0 = m := by
       rw [← hinv]
       first
       | (rw [List.drop_of_length_le (by omega), weightL])
       | (obtain ⟨y, hy, _⟩ := getTy (show i < ins.length by omega); rw [dropTy hy, weightL, if_neg (by omega)])
       | (by_cases hq : ins.length ≤ i; (rw [List.drop_of_length_le hq, weightL]); (obtain ⟨y, hy, _⟩ := getTy (show i < ins.length by omega); rw [dropTy hy, weightL, if_neg (by omega)]))
     refine HC_region ?_
     refine HL_r rfl rfl rfl rfl (R_fieldAddr rfl rfl (by first | (simp only [Nat.zero_add, Nat.reduceAdd, Nat.reduceMul, Nat.zero_mul, Nat.mul_one, Nat.add_zero]; exact rfl) | exact rfl)) ?_; refine HL_r rfl rfl rfl rfl (R_load rfl (known_L (k := 0) rfl) rfl rfl) ?_; refine HLp rfl (HLm rfl ?_)
     refine HL_case 27 rfl (fun hb13 => ?_) (fun hb13 => ?_) <;> (try simp only [ZZ] at hb13) <;> first | (refine HL_r rfl rfl rfl rfl (R_fieldAddr rfl rfl (by first | (simp only [Nat.zero_add, Nat.reduceAdd, Nat.reduceMul, Nat.zero_mul, Nat.mul_one, Nat.add_zero]; exact rfl) | exact rfl)) ?_) | (refine HL_skip rfl rfl rfl ?_)
     all_goals first
       | (refine HL_r rfl rfl rfl rfl (R_load rfl (known_L (k := 0) rfl) rfl rfl) ?_)
       | (refine HL_skip rfl rfl rfl ?_)
     all_goals first
       | (refine HLp rfl ?_)
       | (refine HL_skip rfl rfl rfl ?_)
     all_goals first
       | (refine HL_r rfl rfl rfl rfl (R_pickT rfl rfl) ?_)
       | (refine HL_r rfl rfl rfl rfl (R_pickF rfl rfl) ?_)
     all_goals refine HLm rfl ?_
     all_goals first
       | (refine HL_skip rfl rfl rfl ?_)
       | (refine HL_case 32 rfl (fun hb16 => ?_) (fun hb16 => ?_) <;> (try simp only [ZZ] at hb16) <;> first | (refine HL_r rfl rfl rfl rfl (R_fieldAddr rfl rfl (by first | (simp only [Nat.zero_add, Nat.reduceAdd, Nat.reduceMul, Nat.zero_mul, Nat.mul_one, Nat.add_zero]; exact rfl) | exact rfl)) ?_) | (refine HL_skip rfl rfl rfl ?_))
     all_goals first
       | (refine HL_r rfl rfl rfl rfl (R_load rfl (known_L (k := 0) rfl) rfl rfl) ?_)
       | (refine HL_skip rfl rfl rfl ?_)
     all_goals first
       | (refine HLp rfl ?_)
       | (refine HL_skip rfl rfl rfl ?_)
     all_goals first
       | (refine HL_r rfl rfl rfl rfl (R_pickT rfl rfl) ?_)
       | (refine HL_r rfl rfl rfl rfl (R_pickF rfl rfl) ?_)
     all_goals refine HLm rfl ?_
     all_goals first
       | (refine HL_skip rfl rfl rfl ?_)
       | (refine HL_case 37 rfl (fun hb19 => ?_) (fun hb19 => ?_) <;> (try simp only [ZZ] at hb19) <;> first | (refine HLm rfl ?_) | (refine HL_skip rfl rfl rfl ?_))
     all_goals first
       | (refine HLp rfl ?_)
       | (refine HL_skip rfl rfl rfl ?_)
     all_goals first
       | (refine HL_r rfl rfl rfl rfl (R_pickT rfl rfl) ?_)
       | (refine HL_r rfl rfl rfl rfl (R_pickF rfl rfl) ?_)
     all_goals refine HL_nil ?_
     all_goals (
      refine hK12 _ _ _ _ ?_; refine HC_cond rfl (fun h21 => ?_) (fun h21 => ?_)
      · try exact Bool.noConfusion h21
        all_goals try simp only [ZZ] at h21
        all_goals (
         have hmn1 : m * n ≤ 3000 * 512 := Int.mul_le_mul (by omega) (by omega) (by omega) (by omega)
         have hmn0 : 0 ≤ m * n := Int.mul_nonneg (by omega) (by omega)
         refine HC_region (HLm rfl ?_)
         refine HL_r rfl rfl rfl rfl (R_fieldAddr rfl rfl (by first | (simp only [Nat.zero_add, Nat.reduceAdd, Nat.reduceMul, Nat.zero_mul, Nat.mul_one, Nat.add_zero]; exact rfl) | exact rfl)) ?_; refine HL_r rfl rfl rfl rfl (R_load rfl (known_L (k := 0) rfl) rfl rfl) ?_; refine HLp rfl (HL_wrap_i64 (by omega) (by omega) (HLm rfl ?_)); refine HL_nil (hK11 _ _ _ _ ?_); refine HC_seq fun K22 hK22 => HC_region ?_; refine HLm rfl (HLp rfl (HL_wrap_i64 (by omega) (by omega) ?_)); refine HLm rfl ?_; refine HL_nil (hK22 _ _ _ _ ?_); refine HC_ret ?_; refine HQ_post rfl rfl (.cons (res_tmp rfl) .nil) (fun w1 hs1 => ?_); refine ⟨?_, hs1.keep⟩; rw [weightT, hend]; rw [if_pos ⟨by omega, by omega, by omega, by omega⟩]; rfl
         skip)
      · try exact Bool.noConfusion h21
        try simp only [ZZ] at h21
        refine HC_skip (hK11 _ _ _ _ ?_); refine HC_seq fun K23 hK23 => HC_region ?_; refine HLm rfl (HLp rfl (HL_wrap_i64 (by omega) (by omega) ?_)); refine HLm rfl ?_; refine HL_nil (hK23 _ _ _ _ ?_); refine HC_ret ?_; refine HQ_post rfl rfl (.cons (res_tmp rfl) .nil) (fun w1 hs1 => ?_); refine ⟨?_, hs1.keep⟩; rw [weightT, hend]; rw [if_neg (by omega)]; rfl
      skip)
   skip)
def few8 (t : Ty) (v : Vl) : Bool := fewB t v && decide (weightT t ≤ 3000)
set_option maxRecDepth 10000 in
theorem S_few8 {R : List (Nat × Obj)} {t : Ty} {v : Vl} (ht : t.In R) (hv : v.In R) : PureR Tryz.prog 16 [t.val, v.val].toArray (.bool (few8 t v)) R := by
  have h1 := S_Few ht hv
  have h2 := fun h : fewB t v = true => S_weight ht (by have := few_n h; omega)
  unfold few8
  generalize fewB t v = f at h1 h2 ⊢
  generalize weightT t = z at h2 ⊢
  obtain ⟨k, n, p, ins⟩ := t
  obtain ⟨a, b, c, d, bits, pb, items, pi, pick⟩ := v
  refine pureR_of_HC Tryz.func16 rfl rfl fun w => ?_; refine HC_seq fun K1 hK1 => HC_region ?_; refine HL_box (cs := #[_, _, _]) rfl rfl rfl rfl fun r1 => ?_; refine HL_box (cs := #[_, _, _, _, _, _, _]) rfl rfl rfl rfl fun r2 => ?_; refine HLm rfl ?_; refine HL_nil (hK1 _ _ _ _ ?_); clear hK1 K1; refine HC_seq fun K2 hK2 => HC_region ?_; refine HL_r rfl rfl rfl rfl (R_loadA (vs := [_, _, _]) rfl (known_L (k := 1) rfl) rfl rfl rfl rfl) ?_; refine HL_r rfl rfl rfl rfl (R_loadA (vs := [_, _, _, _, _, _, _]) rfl (known_L (k := 0) rfl) rfl rfl rfl rfl) ?_; refine HL_callR rfl rfl rfl (enters_of Tryz.func35 (by kernel_rfl) rfl) h1 (fun q hq => Or.inr hq) ?_; refine HLm rfl ?_; refine HL_nil (hK2 _ _ _ _ ?_); clear hK2 K2; refine HC_seq fun K3 hK3 => ?_; refine HC_seq fun K4 hK4 => HC_region ?_; refine HLm rfl (HLp rfl ?_); refine HL_nil (hK4 _ _ _ _ ?_); clear hK4 K4; refine HC_cond rfl (fun h5 => ?_) (fun h5 => ?_)
  · try exact Bool.noConfusion h5
    try simp only [ZZ] at h5
    refine HC_seq fun K6 hK6 => HC_region ?_; refine HLm rfl ?_; refine HL_nil (hK6 _ _ _ _ ?_); clear hK6 K6; refine HC_ret (HQ_thenR ?_); clear hK3 K3; refine HQ_post rfl rfl (.cons (res_tmp rfl) .nil) (fun w1 hs1 => ?_); refine ⟨?_, hs1.keep⟩
    simp_all [resVal]
  · try exact Bool.noConfusion h5
    try simp only [ZZ] at h5
    refine HC_skip (hK3 _ _ _ _ ?_); clear hK3 K3; refine HC_seq fun K7 hK7 => HC_region ?_; refine HL_r rfl rfl rfl rfl (R_loadA (vs := [_, _, _]) rfl (known_L (k := 1) rfl) rfl rfl rfl rfl) ?_; refine HL_callR rfl rfl rfl (enters_of Tryz.func36 (by kernel_rfl) rfl) (h2 (by assumption)) (fun q hq => Or.inr hq) ?_; refine HLp rfl (HLm rfl ?_); refine HL_nil (hK7 _ _ _ _ ?_); clear hK7 K7; refine HC_ret ?_; refine HQ_post rfl rfl (.cons (res_tmp rfl) .nil) (fun w1 hs1 => ?_); refine ⟨?_, hs1.keep⟩
    simp_all [resVal]
/-! what 'works' looks at -/
def t8b : Ty := .mk 6 8 none []
def v8b (r2 : Nat) : Vl := .mk 0 0 0 0 [true, false, true] (some (⟨r2, 0, none⟩, 3)) [] none 0
def t8c (r3 : Nat) : Ty := .mk 7 0 (some (⟨r3, 0, none⟩, 3)) [.mk 1 2 none [], t8b, .mk 2 0 none []]
def v8c (r5 : Nat) : Vl := .mk 0 0 0 0 [] none [.mk 258 0 0 0 [] none [] none 0, v0L, .mk 1 0 0 0 [] none [] none 0] (some (⟨r5, 0, none⟩, 3)) 0
theorem k8_a (r2 : Nat) : putR t8b (v8b r2) = ([13], 0) := by kernel_rfl
theorem k8_b (r3 r5 : Nat) : putR (t8c r3) (v8c r5) = ([2, 1, 7, 0, 0, 0, 1, 1], 0) := by kernel_rfl
theorem k8_c (r3 r5 : Nat) : getR (t8c r3) [2, 1, 7, 0, 0, 0, 1, 1] = (erV (v8c r5), 0) := by kernel_rfl
theorem k8_d (r3 : Nat) : getR (t8c r3) ([2, 1, 7, 0, 0, 0, 1, 1] ++ [120]) = (v0L, 5) := by kernel_rfl
theorem k8_e : getR t8b [] = (v0L, 2) := by kernel_rfl
theorem k8_f : getR (.mk 0 0 none []) [] = (v0L, 9) := by kernel_rfl
end Go.Proofs.YtlcbfphioeppaaaGreatDoor
namespace Go.Proofs.YtlcbfphioeppaaaGreatDoor
set_option linter.all false
open Go.SL Go.RowKit Go.Shelf
open Go.Proofs (Enters enters_of)
/-! ### works -/
theorem in_8b {R : List (Nat × Obj)} : t8b.In R := in_ty0 (iz 6) (iz 8)
theorem in_v8b {r2 : Nat} {e : TypeId} : (v8b r2).In [(r2, .cells #[.bool true, .bool false, .bool true] e (0, 0))] := .mk u0 u0 u0 u0 (by decide) ⟨by decide, fun _ => ⟨rfl, _, _, _, List.mem_singleton_self _, rfl⟩⟩ (by decide) rfl i0 (fun x hx => nomatch hx)
abbrev b8c (r3 : Nat) : Nat × Obj := (r3, .cells #[.int .i64 1, .int .i64 2, .slice none 0 0, .int .i64 6, .int .i64 8, .slice none 0 0, .int .i64 2, .int .i64 0, .slice none 0 0] 24 (0, 0))
abbrev d8c (r5 : Nat) : Nat × Obj := (r5, .cells #[.int .u64 258, .int .u64 0, .int .u64 0, .int .u64 0, .slice none 0 0, .slice none 0 0, .int .i64 0, .int .u64 0, .int .u64 0, .int .u64 0, .int .u64 0, .slice none 0 0, .slice none 0 0, .int .i64 0, .int .u64 1, .int .u64 0, .int .u64 0, .int .u64 0, .slice none 0 0, .slice none 0 0, .int .i64 0] 31 (0, 0))
theorem in_8c {r3 : Nat} {R : List (Nat × Obj)} (h : b8c r3 ∈ R) : (t8c r3).In R := .mk (iz 7) (iz 0) (by simp) ⟨by simp, fun _ => ⟨rfl, _, _, _, h, rfl⟩⟩ (fun x hx => by
  rcases List.mem_cons.1 hx with rfl | hx
  · exact in_ty0 (iz 1) (iz 2)
  rcases List.mem_cons.1 hx with rfl | hx
  · exact in_8b
  · rw [List.mem_singleton.1 hx]; exact in_ty0 (iz 2) (iz 0))
theorem in_v8c {r5 : Nat} {R : List (Nat × Obj)} (h : d8c r5 ∈ R) : (v8c r5).In R := .mk u0 u0 u0 u0 (by simp) rfl (by simp) ⟨by simp, fun _ => ⟨rfl, _, _, _, h, rfl⟩⟩ i0 (fun x hx => by
  rcases List.mem_cons.1 hx with rfl | hx
  · exact in_num 258 (by decide)
  rcases List.mem_cons.1 hx with rfl | hx
  · exact v0_in.mono (fun q hq => absurd hq List.not_mem_nil)
  · rw [List.mem_singleton.1 hx]; exact in_num 1 (by decide))
set_option maxRecDepth 20000 in
set_option maxHeartbeats 1000000 in
theorem P_works08 : Pure Tryz.prog 15 [].toArray (.bool true) := by
  refine pure_of_HC Tryz.func15 rfl rfl fun w => ?_; refine HC_seq fun K1 hK1 => HC_region ?_; refine HLm rfl ?_; refine HL_nil (hK1 _ _ _ _ ?_); refine HC_seq fun K2 hK2 => HC_region ?_; refine HL_r rfl rfl rfl rfl (R_build (r := [_, _, _]) rfl rfl) ?_; refine HL_alloc (cs := #[_, _, _]) rfl rfl rfl rfl fun r1 => ?_
  refine HL_storeA (k := 0) (n := 3) (cs' := #[_, _, _]) (vs := #[_, _, _]) rfl rfl rfl rfl rfl rfl rfl (by exact Nat.le_of_ble_eq_true rfl) rfl (by first | (simp only [List.set_cons_zero, List.set_cons_succ]; exact rfl) | exact rfl) ?_; refine HL_nil (hK2 _ _ _ _ ?_); refine HC_seq fun K3 hK3 => HC_region ?_; refine HL_r rfl rfl rfl rfl (R_loadA (vs := [_, _, _]) rfl (known_L (k := 0) rfl) rfl rfl rfl rfl) ?_; refine HL_buildSlice (vs := [_, _, _]) (zs := [_, _, _]) (r := [_, _, _]) rfl rfl rfl rfl rfl rfl rfl rfl rfl (by show (madeCells #[_] _).toList = _; rw [made_one]; exact rfl) rfl fun r2 => ?_; refine HL_r rfl rfl rfl rfl (R_build (r := [_, _, _, _, _, _, _]) rfl rfl) ?_; refine HL_callR (Rl := [(r2, .cells #[.bool true, .bool false, .bool true] 4 (0, 0))]) rfl rfl rfl (enters_of Tryz.func17 (by kernel_rfl) rfl) (S_sPut in_8b (in_v8b (r2 := r2)) (Nat.le_of_ble_eq_true (by kernel_rfl))) (fun q hq => .inl (by rw [List.mem_singleton.1 hq]; exact mem_nth (n := 0) rfl)) ?_; refine HL_as (congrArg resS (k8_a r2)) ?_; refine HLm rfl (HL_r rfl rfl rfl rfl (R_extract rfl rfl) (HL_r rfl rfl rfl rfl (R_extract rfl rfl) ?_)); refine HLm rfl (HLm rfl ?_); refine HL_nil (hK3 _ _ _ _ ?_); refine HC_seq fun K4 hK4 => HC_region ?_; refine HL_r rfl rfl rfl rfl (R_build (r := [_, _, _]) rfl rfl) ?_; refine HL_r rfl rfl rfl rfl (R_loadA (vs := [_, _, _]) rfl (known_L (k := 1) rfl) rfl rfl rfl rfl) ?_; refine HL_r rfl rfl rfl rfl (R_build (r := [_, _, _]) rfl rfl) ?_; refine HL_buildSlice (vs := [_, _, _]) (zs := [_, _, _, _, _, _, _, _, _]) (r := [_, _, _, _, _, _, _, _, _]) rfl rfl rfl rfl rfl rfl rfl rfl rfl (by rw [made_list]; exact rfl) rfl fun r3 => ?_; refine HL_r rfl rfl rfl rfl (R_build (r := [_, _, _]) rfl rfl) ?_; refine HL_alloc (cs := #[_, _, _]) rfl rfl rfl rfl fun r4 => ?_
  refine HL_storeA (k := 0) (n := 3) (cs' := #[_, _, _]) (vs := #[_, _, _]) rfl rfl rfl rfl rfl rfl rfl (by exact Nat.le_of_ble_eq_true rfl) rfl (by first | (simp only [List.set_cons_zero, List.set_cons_succ]; exact rfl) | exact rfl) ?_; refine HL_nil (hK4 _ _ _ _ ?_); refine HC_seq fun K5 hK5 => HC_region ?_; refine HL_r rfl rfl rfl rfl (R_build (r := [_, _, _, _]) rfl rfl) ?_; refine HL_r rfl rfl rfl rfl (R_build (r := [_, _, _, _, _, _, _]) rfl rfl) ?_; refine HL_r rfl rfl rfl rfl (R_build (r := [_, _, _, _, _, _, _]) rfl rfl) ?_; refine HL_r rfl rfl rfl rfl (R_build (r := [_, _, _, _]) rfl rfl) ?_; refine HL_r rfl rfl rfl rfl (R_build (r := [_, _, _, _, _, _, _]) rfl rfl) ?_; refine HL_buildSlice (vs := [_, _, _]) (zs := [_, _, _, _, _, _, _, _, _, _, _, _, _, _, _, _, _, _, _, _, _]) (r := [_, _, _, _, _, _, _, _, _, _, _, _, _, _, _, _, _, _, _, _, _]) rfl rfl rfl rfl rfl rfl rfl rfl rfl (by rw [made_list]; exact rfl) rfl fun r5 => ?_; refine HL_r rfl rfl rfl rfl (R_build (r := [_, _, _, _, _, _, _]) rfl rfl) ?_; refine HL_alloc (cs := #[_, _, _, _, _, _, _]) rfl rfl rfl rfl fun r6 => ?_
  refine HL_storeA (k := 0) (n := 7) (cs' := #[_, _, _, _, _, _, _]) (vs := #[_, _, _, _, _, _, _]) rfl rfl rfl rfl rfl rfl rfl (by exact Nat.le_of_ble_eq_true rfl) rfl (by first | (simp only [List.set_cons_zero, List.set_cons_succ]; exact rfl) | exact rfl) ?_; refine HL_nil (hK5 _ _ _ _ ?_); refine HC_seq fun K6 hK6 => HC_region ?_; refine HL_r rfl rfl rfl rfl (R_loadA (vs := [_, _, _]) rfl (known_L (k := 2) rfl) rfl rfl rfl rfl) ?_; refine HL_r rfl rfl rfl rfl (R_loadA (vs := [_, _, _, _, _, _, _]) rfl (known_L (k := 0) rfl) rfl rfl rfl rfl) ?_
  refine HL_callR (Rl := [b8c r3, d8c r5]) rfl rfl rfl (enters_of Tryz.func17 (by kernel_rfl) rfl) (S_sPut (in_8c (r3 := r3) (R := [b8c r3, d8c r5]) List.mem_cons_self) (in_v8c (r5 := r5) (List.mem_cons_of_mem _ List.mem_cons_self)) (Nat.le_of_ble_eq_true (by kernel_rfl))) (fun q hq => .inl (by rcases List.mem_cons.1 hq with rfl | hq; exact mem_nth (n := 3) rfl; rw [List.mem_singleton.1 hq]; exact mem_nth (n := 1) rfl)) ?_; refine HL_as (congrArg resS (k8_b r3 r5)) ?_; refine HLm rfl (HL_r rfl rfl rfl rfl (R_extract rfl rfl) (HL_r rfl rfl rfl rfl (R_extract rfl rfl) ?_)); refine HLm rfl (HLm rfl ?_); refine HL_nil (hK6 _ _ _ _ ?_); refine HC_seq fun K7 hK7 => HC_region ?_; refine HL_r rfl rfl rfl rfl (R_loadA (vs := [_, _, _]) rfl (known_L (k := 2) rfl) rfl rfl rfl rfl) ?_; refine HLm rfl ?_; refine HL_callRE (Rl := [b8c r3]) rfl rfl rfl (enters_of Tryz.func19 (by kernel_rfl) rfl) (T_Get (in_8c (r3 := r3) (R := [b8c r3]) List.mem_cons_self) _) (fun q hq => .inl (by rw [List.mem_singleton.1 hq]; exact mem_nth (n := 3) rfl)) fun y1 => ?_; refine HL_as (congrArg (fun z => Value.tuple #[y1.x.val, .int .i64 z]) (congrArg Prod.snd (k8_c r3 r5))) ?_; refine HL_perm List.perm_append_comm ?_
  obtain ⟨⟨y1a, y1b, y1c, y1d, y1bits, y1pb, y1it, y1pi, y1pk⟩, y1L, y1ok, y1er⟩ := y1
  refine HLm rfl (HL_r rfl rfl rfl rfl (R_extract rfl rfl) (HL_r rfl rfl rfl rfl (R_extract rfl rfl) ?_)); refine HL_alloc (cs := #[_, _, _, _, _, _, _]) rfl rfl rfl rfl fun r7 => ?_
  refine HL_storeA (k := 0) (n := 7) (cs' := #[_, _, _, _, _, _, _]) (vs := #[_, _, _, _, _, _, _]) rfl rfl rfl rfl rfl rfl rfl (by exact Nat.le_of_ble_eq_true rfl) rfl (by first | (simp only [List.set_cons_zero, List.set_cons_succ]; exact rfl) | exact rfl) ?_; refine HLm rfl ?_; refine HL_nil (hK7 _ _ _ _ ?_); refine HC_seq fun K8 hK8 => HC_region ?_; refine HL_r rfl rfl rfl rfl (R_loadA (vs := [_, _, _]) rfl (known_L (k := 3) rfl) rfl rfl rfl rfl) ?_; refine HLm rfl (HL_r rfl rfl rfl rfl (R_concat (a := [2, 1, 7, 0, 0, 0, 1, 1]) (b := [120]) rfl rfl (by decide)) ?_); refine HL_callRE (Rl := [b8c r3]) rfl rfl rfl (enters_of Tryz.func19 (by kernel_rfl) rfl) (T_Get (in_8c (r3 := r3) (R := [b8c r3]) List.mem_cons_self) ([2, 1, 7, 0, 0, 0, 1, 1] ++ [120])) (fun q hq => .inl (by rw [List.mem_singleton.1 hq]; exact mem_nth (n := 4) rfl)) fun y2 => ?_; refine HL_as (congrArg (fun z => Value.tuple #[y2.x.val, .int .i64 z]) (congrArg Prod.snd (k8_d r3))) ?_; refine HL_perm List.perm_append_comm ?_
  obtain ⟨⟨y2a, y2b, y2c, y2d, y2bits, y2pb, y2it, y2pi, y2pk⟩, y2L, y2ok, y2er⟩ := y2
  refine HLm rfl (HL_r rfl rfl rfl rfl (R_extract rfl rfl) (HL_r rfl rfl rfl rfl (R_extract rfl rfl) ?_)); refine HL_alloc (cs := #[_, _, _, _, _, _, _]) rfl rfl rfl rfl fun r8 => ?_
  refine HL_storeA (k := 0) (n := 7) (cs' := #[_, _, _, _, _, _, _]) (vs := #[_, _, _, _, _, _, _]) rfl rfl rfl rfl rfl rfl rfl (by exact Nat.le_of_ble_eq_true rfl) rfl (by first | (simp only [List.set_cons_zero, List.set_cons_succ]; exact rfl) | exact rfl) ?_; refine HLm rfl ?_; refine HL_nil (hK8 _ _ _ _ ?_); refine HC_seq fun K9 hK9 => HC_region ?_; refine HL_r rfl rfl rfl rfl (R_loadA (vs := [_, _, _]) rfl (known_L (k := 7) rfl) rfl rfl rfl rfl) ?_; refine HL_callRE (Rl := []) rfl rfl rfl (enters_of Tryz.func19 (by kernel_rfl) rfl) (T_Get in_8b []) (fun q hq => nomatch hq) fun y3 => ?_; refine HL_as (congrArg (fun z => Value.tuple #[y3.x.val, .int .i64 z]) (congrArg Prod.snd (k8_e))) ?_; refine HL_perm List.perm_append_comm ?_
  obtain ⟨⟨y3a, y3b, y3c, y3d, y3bits, y3pb, y3it, y3pi, y3pk⟩, y3L, y3ok, y3er⟩ := y3
  refine HLm rfl (HL_r rfl rfl rfl rfl (R_extract rfl rfl) (HL_r rfl rfl rfl rfl (R_extract rfl rfl) ?_)); refine HL_alloc (cs := #[_, _, _, _, _, _, _]) rfl rfl rfl rfl fun r9 => ?_
  refine HL_storeA (k := 0) (n := 7) (cs' := #[_, _, _, _, _, _, _]) (vs := #[_, _, _, _, _, _, _]) rfl rfl rfl rfl rfl rfl rfl (by exact Nat.le_of_ble_eq_true rfl) rfl (by first | (simp only [List.set_cons_zero, List.set_cons_succ]; exact rfl) | exact rfl) ?_; refine HLm rfl ?_; refine HL_nil (hK9 _ _ _ _ ?_); refine HC_seq fun K10 hK10 => HC_region ?_; refine HL_r rfl rfl rfl rfl (R_build (r := [_, _, _]) rfl rfl) ?_; refine HL_callRE (Rl := []) rfl rfl rfl (enters_of Tryz.func19 (by kernel_rfl) rfl) (T_Get (in_ty0 (iz 0) (iz 0)) []) (fun q hq => nomatch hq) fun y4 => ?_; refine HL_as (congrArg (fun z => Value.tuple #[y4.x.val, .int .i64 z]) (congrArg Prod.snd (k8_f))) ?_; refine HL_perm List.perm_append_comm ?_
  obtain ⟨⟨y4a, y4b, y4c, y4d, y4bits, y4pb, y4it, y4pi, y4pk⟩, y4L, y4ok, y4er⟩ := y4
  refine HLm rfl (HL_r rfl rfl rfl rfl (R_extract rfl rfl) (HL_r rfl rfl rfl rfl (R_extract rfl rfl) ?_)); refine HL_alloc (cs := #[_, _, _, _, _, _, _]) rfl rfl rfl rfl fun r10 => ?_
  refine HL_storeA (k := 0) (n := 7) (cs' := #[_, _, _, _, _, _, _]) (vs := #[_, _, _, _, _, _, _]) rfl rfl rfl rfl rfl rfl rfl (by exact Nat.le_of_ble_eq_true rfl) rfl (by first | (simp only [List.set_cons_zero, List.set_cons_succ]; exact rfl) | exact rfl) ?_; refine HLm rfl ?_; refine HL_nil (hK10 _ _ _ _ ?_); refine HC_seq fun K11 hK11 => HC_region ?_; refine HLm rfl (HL_r rfl rfl rfl rfl (R_strEq rfl rfl) (HL_as (show _ = Value.bool true from bool_eq' (decide_eq_true rfl)) ?_)); refine HLm rfl (HLm rfl ?_); refine HLp rfl (HL_as (show _ = Value.bool true from bool_eq' (ieqT rfl)) (HL_r rfl rfl rfl rfl (R_pickT rfl rfl) ?_)); refine HLm rfl (HLm rfl (HL_r rfl rfl rfl rfl (R_strEq rfl rfl) ?_)); refine HL_as (show _ = Value.bool true from bool_eq' (decide_eq_true rfl)) ?_; refine HL_r rfl rfl rfl rfl (R_pickT rfl rfl) ?_; refine HLm rfl (HLm rfl ?_); refine HLp rfl (HL_as (show _ = Value.bool true from bool_eq' (ieqT rfl)) (HL_r rfl rfl rfl rfl (R_pickT rfl rfl) ?_)); refine HLm rfl (HL_r rfl rfl rfl rfl (R_loadA (vs := [_, _, _, _, _, _, _]) rfl (known_L (k := 4) rfl) rfl rfl rfl rfl) (HL_r rfl rfl rfl rfl (R_loadA (vs := [_, _, _, _, _, _, _]) rfl (known_L (k := 3) rfl) rfl rfl rfl rfl) ?_))
  refine HL_callR (Rl := d8c r5 :: y1L) rfl rfl rfl (enters_of Tryz.func23 (by kernel_rfl) rfl) (S_Same (in_v8c (R := d8c r5 :: y1L) List.mem_cons_self) _ (y1ok.mono (fun q hq => List.mem_cons_of_mem _ hq))) (fun q hq => .inl (by rcases List.mem_cons.1 hq with rfl | hq; exact mem_nth (n := 5) rfl; simp only [List.cons_append, List.mem_cons, List.mem_append, hq, true_or, or_true])) ?_; refine HL_as (congrArg Value.bool ((same_er _ _).2 (by rw [y1er, k8_c r3 r5]))) ?_; refine HL_r rfl rfl rfl rfl (R_pickT rfl rfl) ?_; refine HLm rfl (HLm rfl ?_); refine HLp rfl (HL_as (show _ = Value.bool true from bool_eq' (ieqT rfl)) (HL_r rfl rfl rfl rfl (R_pickT rfl rfl) ?_)); refine HLm rfl (HLm rfl ?_); refine HLp rfl (HL_as (show _ = Value.bool true from bool_eq' (ieqT rfl)) (HL_r rfl rfl rfl rfl (R_pickT rfl rfl) ?_)); refine HLm rfl (HLm rfl ?_); refine HLp rfl (HL_as (show _ = Value.bool true from bool_eq' (ieqT rfl)) (HL_r rfl rfl rfl rfl (R_pickT rfl rfl) ?_)); refine HLm rfl (HLm rfl ?_); refine HLp rfl (HL_as (show _ = Value.bool true from bool_eq' (ieqT rfl)) (HL_r rfl rfl rfl rfl (R_pickT rfl rfl) ?_)); refine HLm rfl ?_; refine HL_nil (hK11 _ _ _ _ ?_); refine HC_ret ?_; refine HQ_post rfl rfl (.cons (res_tmp rfl) .nil) (fun w1 hs1 => ?_); exact ⟨rfl, hs1.keep⟩
end Go.Proofs.YtlcbfphioeppaaaGreatDoor
namespace Go.Proofs.YtlcbfphioeppaaaGreatDoor
set_option linter.all false
open Go.SL Go.RowKit Go.Shelf
open Go.Proofs (Enters enters_of)
end Go.Proofs.YtlcbfphioeppaaaGreatDoor
namespace Go.Proofs.YtlcbfphioeppaaaGreatDoor
set_option linter.all false
open Go.SL Go.RowKit Go.Shelf
open Go.Proofs (Enters enters_of)
section
variable {a b c d : Nat} {bits : List Bool} {pb : Pl} {items : List Vl} {pi : Pl} {pick n : Int} {p p' : Pl} {ins : List Ty}
end
end Go.Proofs.YtlcbfphioeppaaaGreatDoor
namespace Go.Proofs.YtlcbfphioeppaaaGreatDoor
set_option linter.all false
open Go.SL Go.RowKit Go.Shelf
open Go.Proofs (Enters enters_of)
/-! ### layer 8's own getter: numbers, bits, lists of bits -/
def gotV (y : Vl) (e : Int) : Value := .agg (y.cells ++ [Value.int .i64 e]).toArray
theorem got_bits (s : BS) (m r cap : Nat) (e : Int) : gotV (.mk 0 0 0 0 (unpackB s m) (some (⟨r, 0, none⟩, cap)) [] none 0) e = .agg #[.int .u64 0, .int .u64 0, .int .u64 0, .int .u64 0, .slice (some ⟨r, 0, none⟩) m cap, .slice none 0 0, .int .i64 0, .int .i64 e] := by
  show Value.agg #[uV 0, uV 0, uV 0, uV 0, Value.slice (some ⟨r, 0, none⟩) (unpackB s m).length cap, Value.slice none 0 0, Value.int .i64 0, Value.int .i64 e] = _
  rw [unpackB_len]; rfl
theorem rev_at {s : BS} (h : s.length ≤ 32) {m : Nat} (hm : m < 32) : (padZ s).reverse[m]? = some ((padZ s).getD (31 - m) 0) := by
  have hp := padZ_len h
  rw [List.getElem?_reverse (by omega), hp, List.getD_eq_getElem?_getD, show 32 - 1 - m = 31 - m by omega, List.getElem?_eq_getElem (by omega)]; rfl
theorem padZ_at {s : BS} {j : Nat} : (padZ s).getD j 0 = s.getD j 0 := by
  unfold padZ
  rw [List.getD_eq_getElem?_getD, List.getD_eq_getElem?_getD]
  by_cases h : j < s.length
  · rw [List.getElem?_append_left h]
  · rw [List.getElem?_append_right (by omega), List.getElem?_eq_none (l := s) (by omega), List.getElem?_replicate]
    split <;> rfl
theorem rev_take {s : BS} (h : s.length ≤ 32) {m : Nat} (hm : m < 32) {v : Value} (hv : v = bV (s.getD (31 - m) 0)) : ((padZ s).reverse.take m).map bV ++ [v] = ((padZ s).reverse.take (m + 1)).map bV := by
  rw [take_snoc' (rev_at h hm), List.map_append, padZ_at, hv]; rfl
set_option maxRecDepth 10000 in
theorem P_rnumber {s : BS} (h : s.length ≤ 32) : Pure Tryz.prog 87 [strV s].toArray (Go.SL.wV (numD s)) := by
  have hu := unf_num h
  obtain ⟨a, b, c, d, hn⟩ := numD_4 s
  rw [hn] at hu ⊢
  have hP := P_ref_Unfixed (padZ s).reverse
  rw [hu] at hP
  have h32 : ((padZ s).reverse).length = 32 := by rw [List.length_reverse, padZ_len h]
  refine pure_of_HC Tryz.func87 rfl rfl fun w => ?_; refine HC_seq fun K1 hK1 => HC_region ?_; refine HL_alloc (cs := #[_, _, _, _]) rfl rfl rfl rfl fun r1 => ?_; refine HL_nil (hK1 _ _ _ _ ?_); refine HC_seq fun K2 hK2 => HC_region ?_; refine HLm rfl ?_; refine HL_nil (hK2 _ _ _ _ ?_); refine HC_seq fun K3 hK3 => ?_; refine HC_seq fun K4 hK4 => HC_region ?_; refine HLm rfl ?_; refine HL_nil (hK4 _ _ _ _ ?_); refine HC_block (HC_loop (σ := Nat × Row) (fun q => q.1 ≤ 32 ∧ rowOk 1 q.1 (((padZ s).reverse.take q.1).map bV) q.2) (fun q => [(0, strV s), (2, pt0 r1), (3, rowV q.1 q.2), (4, .int .i64 (31 - (q.1 : Int)))]) (fun q => (r1, .cells (zW.map uV).toArray 27 (0, 0)) :: rowL 5 (((padZ s).reverse.take q.1).map bV) q.2) (fun _ _ _ => True) (fun q => 32 - q.1) (0, none) ⟨by decide, rfl, rfl⟩ (.cons rfl (.cons rfl (.cons rfl (.cons rfl .nil)))) (List.Sublist.refl _) (fun _ _ h => h) ?_); rintro ⟨m, row⟩ ⟨hm, hrow⟩; simp only at hm hrow; refine HC_seq fun K5 hK5 => ?_; refine HC_seq fun K6 hK6 => HC_region ?_; refine HLm rfl (HLp rfl ?_); refine HL_nil (hK6 _ _ _ _ ?_); refine HC_cond rfl (fun h7 => ?_) (fun h7 => ?_)
  · try exact Bool.noConfusion h7
    try simp only [ZZ] at h7
    refine HC_skip (hK5 _ _ _ _ ?_); refine HC_seq fun K8 hK8 => HC_block ?_; refine HC_seq fun K9 hK9 => HC_region ?_; refine HLm rfl ?_; refine HL_nil (hK9 _ _ _ _ ?_); refine HC_seq fun K10 hK10 => ?_; refine HC_seq fun K11 hK11 => HC_region ?_; refine HLm rfl (HLm rfl (HL_r rfl rfl rfl rfl (R_lenBs rfl rfl) ?_)); refine HLp rfl ?_; refine HL_nil (hK11 _ _ _ _ ?_); refine HC_cond rfl (fun h12 => ?_) (fun h12 => ?_)
    · try exact Bool.noConfusion h12
      try simp only [ZZ] at h12
      refine HC_region (HLm rfl (HLm rfl ?_)); refine HL_r rfl rfl rfl rfl (R_indexBs (j := 31 - m) rfl rfl rfl (by simp only; omega) (by omega) rfl) ?_; refine HLm rfl ?_; refine HL_nil (hK10 _ _ _ _ ?_); refine HC_region (HLm rfl (HLm rfl ?_)); refine HL_buildSlice (vs := [_]) (zs := [_]) (r := [_]) rfl rfl rfl rfl rfl rfl rfl rfl rfl (by show (madeCells #[_] _).toList = _; rw [made_one]; exact rfl) rfl fun r2 => ?_; refine HL_appendRow (L0 := [_, _]) (xs := ((padZ s).reverse.take m).map bV) (row := row) (n := m) (sz := 1) (b := 1) (news := [_]) (List.perm_append_comm (l₁ := [_, _])) rfl rfl rfl rfl (known_L (k := 0) rfl) rfl rfl rfl rfl rfl (by decide) rfl rfl rfl (by decide) hrow (by omega) (by omega) fun ra cap sp hra => ?_; refine HLm rfl (HL_nil ?_); refine HQ_blockN (hK8 _ _ _ _ ?_); refine HC_region (HLm rfl ?_); refine HLp rfl (HL_wrap_i64 (by omega) (by omega) ?_); refine HLm rfl (HL_nil (HQ_then ?_)); rw [rev_take (v := .int .u8 ((s.getD (31 - m) 0).toNat : Nat)) h (by omega) rfl] at hra ⊢; refine HQ_sel [2, 0] (L' := [_, _]) (by decide) rfl ?_; exact HQ_again (m + 1, some (ra, cap, sp)) ⟨by simp only; omega, hra⟩ (by simp only; omega) (.cons rfl (.cons rfl (.cons rfl (.cons (congrArg (fun z => some (Value.int .i64 z)) (by simp only; omega)) .nil)))) (List.Sublist.refl _) (fun _ _ h => h)
    · try exact Bool.noConfusion h12
      try simp only [ZZ] at h12
      refine HC_skip (hK10 _ _ _ _ ?_); refine HC_region (HLm rfl (HLm rfl ?_)); refine HL_buildSlice (vs := [_]) (zs := [_]) (r := [_]) rfl rfl rfl rfl rfl rfl rfl rfl rfl (by show (madeCells #[_] _).toList = _; rw [made_one]; exact rfl) rfl fun r3 => ?_; refine HL_appendRow (L0 := [_, _]) (xs := ((padZ s).reverse.take m).map bV) (row := row) (n := m) (sz := 1) (b := 1) (news := [_]) (List.perm_append_comm (l₁ := [_, _])) rfl rfl rfl rfl (known_L (k := 0) rfl) rfl rfl rfl rfl rfl (by decide) rfl rfl rfl (by decide) hrow (by omega) (by omega) fun ra cap sp hra => ?_; refine HLm rfl (HL_nil ?_); refine HQ_blockN (hK8 _ _ _ _ ?_); refine HC_region (HLm rfl ?_); refine HLp rfl (HL_wrap_i64 (by omega) (by omega) ?_); refine HLm rfl (HL_nil (HQ_then ?_)); rw [rev_take (v := .int .u8 0) h (by omega) (by rw [List.getD_eq_getElem?_getD, List.getElem?_eq_none (by omega)]; rfl)] at hra ⊢; refine HQ_sel [2, 0] (L' := [_, _]) (by decide) rfl ?_; exact HQ_again (m + 1, some (ra, cap, sp)) ⟨by simp only; omega, hra⟩ (by simp only; omega) (.cons rfl (.cons rfl (.cons rfl (.cons (congrArg (fun z => some (Value.int .i64 z)) (by simp only; omega)) .nil)))) (List.Sublist.refl _) (fun _ _ h => h)
  · try exact Bool.noConfusion h7
    try simp only [ZZ] at h7
    refine HC_exit (HQ_thenE ?_); refine HQ_thenE (HQ_blockE (hK3 _ _ _ _ ?_)); refine HC_seq fun K13 hK13 => ?_
    have hm32 : m = 32 := by omega
    subst hm32; rw [List.take_of_length_le (by omega)] at hrow ⊢; refine HC_region (HLm rfl ?_); refine HL_r rfl rfl rfl rfl (R_bytesStr (b := (padZ s).reverse) (row := row) (e := 5) (by rw [h32]; exact rfl) (by rw [h32]; exact hrow) (fun p hp => .inl (List.mem_cons_of_mem _ hp)) rfl rfl rfl) ?_; refine HL_callP rfl rfl rfl (enters_of Tryz.func135 (by kernel_rfl) rfl) hP ?_; refine HLm rfl (HL_r rfl rfl rfl rfl (R_extract rfl rfl) (HL_r rfl rfl rfl rfl (R_extract rfl rfl) ?_)); refine HL_alloc (cs := #[_, _, _, _]) rfl rfl rfl rfl fun r4 => ?_
    refine HL_storeA (k := 0) (n := 4) (cs' := #[_, _, _, _]) (vs := #[_, _, _, _]) rfl rfl rfl rfl rfl rfl rfl (by exact Nat.le_of_ble_eq_true rfl) rfl (by first | (simp only [List.set_cons_zero, List.set_cons_succ]; exact rfl) | exact rfl) ?_; refine HLm rfl ?_; refine HL_nil (hK13 _ _ _ _ ?_); refine HC_seq fun K14 hK14 => HC_region ?_; refine HL_r rfl rfl rfl rfl (R_loadA (vs := [_, _, _, _]) rfl (known_L (k := 0) rfl) rfl rfl rfl rfl) ?_
    refine HL_storeA (k := 1) (n := 4) (cs' := #[_, _, _, _]) (vs := #[_, _, _, _]) rfl rfl rfl rfl rfl rfl rfl (by exact Nat.le_of_ble_eq_true rfl) rfl (by first | (simp only [List.set_cons_zero, List.set_cons_succ]; exact rfl) | exact rfl) ?_; refine HL_nil (hK14 _ _ _ _ ?_); refine HC_ret ?_; refine HQ_post rfl rfl (.cons (res_cellA (vs := [_, _, _, _]) rfl (known_L (k := 1) rfl) rfl rfl) .nil) (fun w1 hs1 => ?_); exact ⟨rfl, hs1.keep⟩
set_option maxRecDepth 10000 in
theorem T_runpack {s : BS} {n : Nat} (hn : n ≤ 8 * s.length) (hl : s.length ≤ 100000) : PureT (α := { row : Row // rowOk 1 n (bitsC (unpackB s n)) row }) Tryz.prog 136 [strV s, .int .i64 (n : Int)].toArray (fun x => rowV n x.1) [] (fun x => rowL 4 (bitsC (unpackB s n)) x.1) [] := by
  refine pureT_of_HC Tryz.func136 rfl rfl fun w => ?_; refine HC_seq fun K1 hK1 => HC_region ?_; refine HLm rfl ?_; refine HL_nil (hK1 _ _ _ _ ?_); refine HC_seq fun K2 hK2 => HC_region ?_; refine HLm rfl ?_; refine HL_nil (hK2 _ _ _ _ ?_); refine HC_seq fun K3 hK3 => ?_; refine HC_seq fun K4 hK4 => HC_region ?_; refine HLm rfl ?_; refine HL_nil (hK4 _ _ _ _ ?_); refine HC_block (HC_loop (σ := Nat × Row) (fun q => q.1 ≤ n ∧ rowOk 1 q.1 (bitsC (unpackB s q.1)) q.2) (fun q => [(0, strV s), (1, .int .i64 (n : Int)), (5, rowV q.1 q.2), (6, .int .i64 (q.1 : Int))]) (fun q => rowL 4 (bitsC (unpackB s q.1)) q.2) (fun _ _ _ => True) (fun q => n - q.1) (0, none) ⟨Nat.zero_le _, rfl, rfl⟩ (.cons rfl (.cons rfl (.cons rfl (.cons rfl .nil)))) (List.Sublist.refl _) (fun _ _ h => h) ?_); rintro ⟨i, row⟩ ⟨hi1, hrow⟩; simp only at hi1 hrow; refine HC_seq fun K5 hK5 => ?_; refine HC_seq fun K6 hK6 => HC_region ?_; refine HLm rfl (HLm rfl (HLp rfl ?_)); refine HL_nil (hK6 _ _ _ _ ?_); refine HC_cond rfl (fun h7 => ?_) (fun h7 => ?_)
  · try exact Bool.noConfusion h7
    try simp only [ZZ] at h7
    refine HC_skip (hK5 _ _ _ _ ?_); refine HC_seq fun K8 hK8 => HC_block ?_; refine HC_region (HLm rfl ?_); refine HLm rfl (HLm rfl ?_); refine HLp rfl (HL_as (show _ = Value.int .i64 ((i / 8 : Nat)) from congrArg (Value.int .i64) (quo_i64 (by omega) (by decide) (by omega))) (HL_r rfl rfl rfl rfl (R_indexBs (j := i / 8) rfl rfl rfl rfl (by omega) rfl) ?_)); refine HLm rfl (HLp rfl (HL_as (show _ = Value.int .i64 ((i % 8 : Nat)) from congrArg (Value.int .i64) (rem_nat _ _)) ?_)); refine HLp rfl (HL_as (show _ = uV (i % 8) from congrArg (Value.int .u64) (wrap_u64 (by omega) (by omega))) (HL_r rfl rfl rfl rfl (R_shr (n := i % 8) (b := (((s.getD (i / 8) 0).toNat / 2 ^ (i % 8) : Nat) : Int)) rfl rfl rfl (show _ ≤ 8 from by omega) (by omega) (by rw [Int.natCast_ediv])) ?_)); refine HLp rfl (HL_as (show _ = Value.int .u8 ((if (s.getD (i / 8) 0).toNat.testBit (i % 8) then 1 else 0 : Nat) : Int) from congrArg (Value.int .u8) ((rem_nat _ _).trans (congrArg Int.ofNat ((Nat.and_one_is_mod _).symm.trans bit_i)))) ?_)
    refine HLp rfl ?_; refine HL_as (show _ = Value.bool (bitAt s i) from by unfold bitAt; cases (s.getD (i / 8) 0).toNat.testBit (i % 8) <;> rfl) ?_; refine HL_buildSlice (vs := [_]) (zs := [_]) (r := [_]) rfl rfl rfl rfl rfl rfl rfl rfl rfl (by show (madeCells #[_] _).toList = _; rw [made_one]; exact rfl) rfl fun r1 => ?_; refine HL_appendRow (L0 := [_]) (xs := bitsC (unpackB s i)) (row := row) (n := i) (sz := 1) (b := 1) (news := [Value.bool (bitAt s i)]) (List.perm_append_comm (l₁ := [_])) rfl rfl rfl rfl (known_L (k := 0) rfl) rfl rfl rfl rfl rfl (by decide) rfl rfl rfl (by decide) hrow (by omega) (by omega) fun ra cap sp hra => ?_; refine HLm rfl (HL_nil ?_); refine HQ_blockN (hK8 _ _ _ _ ?_); refine HC_region (HLm rfl ?_)
    refine HLp rfl ?_; refine HL_as (show _ = Value.int .i64 ((i + 1 : Nat) : Int) from by rw [wrap_i64 (by omega) (by omega)]; congr 1 <;> omega) ?_; refine HLm rfl (HL_nil (HQ_then ?_)); refine HQ_subL (L' := rowL 4 (bitsC (unpackB s i) ++ [Value.bool (bitAt s i)]) (some (ra, cap, sp))) (List.sublist_append_left (rowL 4 (bitsC (unpackB s i) ++ [Value.bool (bitAt s i)]) (some (ra, cap, sp))) _) ?_; rw [show bitsC (unpackB s i) ++ [Value.bool (bitAt s i)] = bitsC (unpackB s (i + 1)) from (unpackC s i).symm] at hra ⊢; exact HQ_again (i + 1, some (ra, cap, sp)) ⟨by simp only; omega, hra⟩ (by simp only; omega) (.cons rfl (.cons rfl (.cons rfl (.cons rfl .nil)))) (List.Sublist.refl _) (fun _ _ h => h)
  · try exact Bool.noConfusion h7
    try simp only [ZZ] at h7
    refine HC_exit (HQ_thenE ?_); refine HQ_thenE (HQ_blockE (hK3 _ _ _ _ ?_)); refine HC_seq fun K9 hK9 => ?_
    obtain rfl : i = n := by omega
    refine HC_region (HLm rfl (HLm rfl ?_)); refine HL_nil (hK9 _ _ _ _ ?_); refine HC_ret ?_; refine HQ_post rfl rfl (.cons (res_tmp rfl) .nil) (fun w1 hs1 => ?_); exact ⟨⟨row, hrow⟩, rfl, hs1⟩
def b5T (n : Int) (s : BS) : Vl × Int := if ((unpackB s (8 * s.length)).drop n.toNat).any id then (v0L, 8) else (mkBits (unpackB s n.toNat), 0)
set_option maxRecDepth 10000 in
theorem T_rbits {k n : Int} {p : Pl} {ins : List Ty} {s : BS} (hn : 1 ≤ n ∧ n ≤ 8 * s.length) (hl : s.length ≤ 100000) : PureT (α := VR (b5T n s).1) Tryz.prog 88 [Ty.val (.mk k n p ins), strV s].toArray (fun y => gotV y.x (b5T n s).2) [] (fun y => y.L) [] := by
  have hT := T_runpack (s := s) (n := 8 * s.length) (Nat.le_refl _) hl
  obtain ⟨N, hN⟩ : ∃ N, N = n.toNat := ⟨_, rfl⟩
  refine pureT_of_HC Tryz.func88 rfl rfl fun w => ?_; refine HC_seq fun K1 hK1 => HC_region ?_; refine HL_box (cs := #[_, _, _]) rfl rfl rfl rfl fun r1 => ?_; refine HL_alloc (cs := #[_, _, _, _, _, _, _, _]) rfl rfl rfl rfl fun r2 => ?_; refine HL_nil (hK1 _ _ _ _ ?_); refine HC_seq fun K2 hK2 => HC_region ?_; refine HLm rfl (HLm rfl (HL_r rfl rfl rfl rfl (R_lenBs rfl rfl) ?_)); refine HLp rfl ?_; refine HL_as (show _ = Value.int .i64 ((8 * s.length : Nat)) from congrArg (Value.int .i64) (by rw [wrap_i64 (by omega) (by omega)]; omega)) ?_; refine HL_callRE rfl rfl rfl (enters_of Tryz.func136 (by kernel_rfl) rfl) hT (fun q hq => nomatch hq) fun x => ?_
  obtain ⟨row, hrow⟩ := x
  match row, hrow with | none, hrow => ?_ | some (ra, cap, sp), hrow => ?_
  all_goals first | exact absurd hrow.1 (by omega) | skip
  refine HLm rfl ?_; refine HL_nil (hK2 _ _ _ _ ?_); refine HC_seq fun K3 hK3 => ?_; refine HC_seq fun K4 hK4 => HC_region ?_
  refine HL_r rfl rfl rfl rfl (R_fieldAddr rfl rfl (by first | (simp only [Nat.zero_add, Nat.reduceAdd, Nat.reduceMul, Nat.zero_mul, Nat.mul_one, Nat.add_zero]; exact rfl) | exact rfl)) ?_; refine HL_r rfl rfl rfl rfl (R_load rfl (known_L (k := 2) rfl) rfl rfl) ?_; refine HL_as (show _ = Value.int .i64 ((N : Nat) : Int) from congrArg (Value.int .i64) (by omega)) ?_; refine HLm rfl ?_; refine HL_nil (hK4 _ _ _ _ ?_); refine HC_block (HC_loop (σ := Nat) (fun i => N ≤ i ∧ i ≤ 8 * s.length ∧ ∀ j, N ≤ j → j < i → bitAt s j = false) (fun i => [(1, strV s), (2, pt0 r1), (4, pt0 r2), (5, .slice (some ⟨ra, 0, none⟩) (8 * s.length) cap), (6, .int .i64 (i : Int))]) (fun i => [(ra, .cells (bitsC (unpackB s (8 * s.length)) ++ sp).toArray 4 (0, 0)), (r2, .cells #[.int .u64 0, .int .u64 0, .int .u64 0, .int .u64 0, .slice none 0 0, .slice none 0 0, .int .i64 0, .int .i64 0] 61 (0, 0)), tBlk r1 (.mk k n p ins)]) (fun _ _ _ => True) (fun i => 8 * s.length - i) N ⟨Nat.le_refl _, by omega, fun j h1 h2 => by omega⟩ (.cons rfl (.cons rfl (.cons rfl (.cons rfl (.cons rfl .nil))))) (List.Sublist.refl _) (fun _ _ h => h) ?_); rintro i ⟨hi0, hi1, hbits⟩; change HC _ _ _ ((ra, _) :: (r2, _) :: (r1, _) :: []) _ _ _; refine HC_seq fun K5 hK5 => ?_; refine HC_seq fun K6 hK6 => HC_region ?_; refine HLm rfl (HLm rfl (HL_r rfl rfl rfl rfl (R_lenSl rfl rfl) ?_)); refine HLp rfl ?_; refine HL_nil (hK6 _ _ _ _ ?_); refine HC_cond rfl (fun h7 => ?_) (fun h7 => ?_)
  · try exact Bool.noConfusion h7
    try simp only [ZZ] at h7
    refine HC_skip (hK5 _ _ _ _ ?_); refine HC_seq fun K8 hK8 => HC_block ?_; refine HC_seq fun K9 hK9 => HC_region ?_; refine HLm rfl (HLm rfl (HL_r rfl rfl rfl rfl (R_indexS (j := i) (m := 1) (off' := i) rfl rfl rfl rfl (by omega) (by omega) (by omega)) ?_)); refine HL_r rfl rfl rfl rfl (R_load rfl (known_L (k := 0) rfl) rfl (bits_at s (i := i) (by omega) sp)) ?_; refine HL_nil (hK9 _ _ _ _ ?_); refine HC_cond rfl (fun h10 => ?_) (fun h10 => ?_)
    · try exact Bool.noConfusion h10
      try simp only [ZZ] at h10
      refine HC_seq fun K11 hK11 => HC_region ?_; refine HL_r rfl rfl rfl rfl (R_build (r := [_, _, _, _, _, _, _, _]) rfl rfl) ?_
      refine HL_storeA (k := 1) (n := 8) (cs' := #[_, _, _, _, _, _, _, _]) (vs := #[_, _, _, _, _, _, _, _]) rfl rfl rfl rfl rfl rfl rfl (by exact Nat.le_of_ble_eq_true rfl) rfl (by first | (simp only [List.set_cons_zero, List.set_cons_succ]; exact rfl) | exact rfl) ?_; refine HL_nil (hK11 _ _ _ _ ?_); refine HC_ret (HQ_blockR (HQ_thenR ?_)); refine HQ_thenR (HQ_blockR (HQ_thenR ?_)); refine HQ_post rfl rfl (.cons (res_cellA (vs := [_, _, _, _, _, _, _, _]) rfl (known_L (k := 1) rfl) rfl rfl) .nil) (fun w1 hs1 => ?_)
      (have e1 : b5T n s = (v0L, 8) := by unfold b5T; rw [← hN, if_pos (any_tail (j := i - N) (by omega) (by rw [show N + (i - N) = i by omega]; assumption))]
       exact ⟨⟨v0L, [], v0_in, by rw [e1]; rfl⟩, congrArg (fun z => Ending.returned (gotV v0L z)) (congrArg Prod.snd e1).symm, hs1.weakL (List.nil_sublist _)⟩)
    · try exact Bool.noConfusion h10
      try simp only [ZZ] at h10
      refine HC_skip (HQ_blockN (hK8 _ _ _ _ ?_)); refine HC_region (HLm rfl ?_)
      refine HLp rfl ?_; refine HL_as (show _ = Value.int .i64 ((i + 1 : Nat) : Int) from by rw [wrap_i64 (by omega) (by omega)]; congr 1 <;> omega) ?_; refine HLm rfl (HL_nil (HQ_then ?_))
      exact HQ_again (i + 1) ⟨by omega, by omega, fun j h1 h2 => by by_cases e : j = i; (subst e; first | assumption | exact Bool.eq_false_of_not_eq_true (by assumption)); exact hbits j h1 (by omega)⟩ (by omega) (.cons rfl (.cons rfl (.cons rfl (.cons rfl (.cons rfl .nil))))) (List.Sublist.refl _) (fun _ _ h => h)
  · try exact Bool.noConfusion h7
    try simp only [ZZ] at h7
    refine HC_exit (HQ_thenE ?_); refine HQ_thenE (HQ_blockE (hK3 _ _ _ _ ?_)); refine HC_seq fun K12 hK12 => ?_
    have hany := any_no (s := s) (N := N) (fun j hj => hbits (N + j) (by omega) (by omega))
    have hcap : 8 * s.length ≤ cap := by have := hrow.2; omega
    refine HC_region (HLm rfl ?_)
    refine HL_r rfl rfl rfl rfl (R_fieldAddr rfl rfl (by first | (simp only [Nat.zero_add, Nat.reduceAdd, Nat.reduceMul, Nat.zero_mul, Nat.mul_one, Nat.add_zero]; exact rfl) | exact rfl)) ?_; refine HL_r rfl rfl rfl rfl (R_load rfl (known_L (k := 2) rfl) rfl rfl) ?_; refine HL_as (show _ = Value.int .i64 ((N : Nat) : Int) from congrArg (Value.int .i64) (by omega)) ?_
    refine HL_r rfl rfl rfl rfl (R_sliceSl (kl := none) (kh := some N) (km := none) (m := 0) (q := N) (z := cap) (off' := 0) (sz := 1) rfl rfl rfl trivial ⟨_, rfl⟩ trivial rfl rfl rfl (by omega) (by omega) (Nat.le_refl _) (fun e => nomatch e) (by split <;> omega)) ?_; refine HL_r rfl rfl rfl rfl (R_build (r := [_, _, _, _, _, _, _]) rfl rfl) ?_; refine HL_r rfl rfl rfl rfl (R_build (r := [_, _, _, _, _, _, _, _]) rfl rfl) ?_
    refine HL_storeA (k := 1) (n := 8) (cs' := #[_, _, _, _, _, _, _, _]) (vs := #[_, _, _, _, _, _, _, _]) rfl rfl rfl rfl rfl rfl rfl (by exact Nat.le_of_ble_eq_true rfl) rfl (by first | (simp only [List.set_cons_zero, List.set_cons_succ]; exact rfl) | exact rfl) ?_; refine HL_nil (hK12 _ _ _ _ ?_); refine HC_ret ?_; refine HQ_post rfl rfl (.cons (res_cellA (vs := [_, _, _, _, _, _, _, _]) rfl (known_L (k := 1) rfl) rfl rfl) .nil) (fun w1 hs1 => ?_)
    (have e1 : b5T n s = (mkBits (unpackB s N), 0) := by unfold b5T; rw [← hN, hany, if_neg (by decide)]
     exact ⟨⟨.mk 0 0 0 0 (unpackB s N) (some (⟨ra, 0, none⟩, cap)) [] none 0, [(ra, .cells (bitsC (unpackB s (8 * s.length)) ++ sp).toArray 4 (0, 0))], bits_in' (by omega) (by omega) (by omega), by rw [e1, erV_mk, erL]; rfl⟩, congrArg Ending.returned ((congrArg (gotV _) (congrArg Prod.snd e1)).trans (got_bits s N ra cap 0)).symm, hs1.weakL ((List.cons_sublist_cons).2 (List.nil_sublist _))⟩)
theorem blT_0' {n : Int} {s : BS} (h : (((s.getD (s.length - 1) 0).toNat : Nat) : Int) = 0) : blT n s = (v0L, 2) := blT_0 (u8_zero.1 (Z6.2 h))
set_option maxRecDepth 10000 in
theorem T_rbitlist {k n : Int} {p : Pl} {ins : List Ty} {s : BS} (hl : s.length ≤ 100000) (hn : I64 n) : PureT (α := VR (blT n s).1) Tryz.prog 89 [Ty.val (.mk k n p ins), strV s].toArray (fun y => gotV y.x (blT n s).2) [] (fun y => y.L) [] := by
  refine pureT_of_HC Tryz.func89 rfl rfl fun w => ?_; refine HC_seq fun K1 hK1 => HC_region ?_; refine HL_box (cs := #[_, _, _]) rfl rfl rfl rfl fun r1 => ?_; refine HL_alloc (cs := #[_, _, _, _, _, _, _, _]) rfl rfl rfl rfl fun r2 => ?_; refine HL_nil (hK1 _ _ _ _ ?_); refine HC_seq fun K2 hK2 => ?_; refine HC_seq fun K3 hK3 => HC_region ?_; refine HLm rfl (HL_r rfl rfl rfl rfl (R_strEq rfl rfl) (HLm rfl ?_))
  refine HL_case 8 rfl (fun hb4 => ?_) (fun hb4 => ?_) <;> (try simp only [ZZ] at hb4) <;> first | (refine HLm rfl ?_) | (refine HL_skip rfl rfl rfl ?_)
  all_goals first
    | (refine HLm rfl ?_)
    | (refine HL_skip rfl rfl rfl ?_)
  all_goals first
    | (refine HL_r rfl rfl rfl rfl (R_lenBs rfl rfl) ?_)
    | (refine HL_skip rfl rfl rfl ?_)
  all_goals first
    | (have hpos : 0 < s.length := List.length_pos_iff.2 ‹s ≠ []›; refine HLp rfl ?_; refine HL_as (show _ = Value.int .i64 ((s.length - 1 : Nat)) from congrArg (Value.int .i64) (by rw [wrap_i64 (by omega) (by omega)]; omega)) ?_)
    | (refine HL_skip rfl rfl rfl ?_)
  all_goals first
    | (refine HL_r rfl rfl rfl rfl (R_indexBs (j := s.length - 1) rfl rfl rfl rfl (by omega) rfl) ?_)
    | (refine HL_skip rfl rfl rfl ?_)
  all_goals first
    | (refine HLp rfl ?_)
    | (refine HL_skip rfl rfl rfl ?_)
  all_goals first
    | (refine HL_r rfl rfl rfl rfl (R_pickT rfl rfl) ?_)
    | (refine HL_r rfl rfl rfl rfl (R_pickF rfl rfl) ?_)
  all_goals refine HL_nil ?_
  all_goals (
   refine hK3 _ _ _ _ ?_; refine HC_cond rfl (fun h10 => ?_) (fun h10 => ?_)
   · try exact Bool.noConfusion h10
     try simp only [ZZ] at h10
     refine HC_seq fun K11 hK11 => HC_region ?_; refine HL_r rfl rfl rfl rfl (R_build (r := [_, _, _, _, _, _, _, _]) rfl rfl) ?_
     refine HL_storeA (k := 0) (n := 8) (cs' := #[_, _, _, _, _, _, _, _]) (vs := #[_, _, _, _, _, _, _, _]) rfl rfl rfl rfl rfl rfl rfl (by exact Nat.le_of_ble_eq_true rfl) rfl (by first | (simp only [List.set_cons_zero, List.set_cons_succ]; exact rfl) | exact rfl) ?_; refine HL_nil (hK11 _ _ _ _ ?_); refine HC_ret (HQ_thenR ?_); refine HQ_post rfl rfl (.cons (res_cellA (vs := [_, _, _, _, _, _, _, _]) rfl (known_L (k := 0) rfl) rfl rfl) .nil) (fun w1 hs1 => ?_)
     (have e1 : blT n s = (v0L, 2) := by first | exact blT_nil ‹s = []› | exact blT_0' (by assumption)
      exact ⟨⟨v0L, [], v0_in, by rw [e1]; rfl⟩, congrArg (fun z => Ending.returned (gotV v0L z)) (congrArg Prod.snd e1).symm, hs1.weakL (List.nil_sublist _)⟩)
   · try exact Bool.noConfusion h10
     all_goals try simp only [ZZ] at h10
     all_goals (
      refine HC_skip (hK2 _ _ _ _ ?_); refine HC_seq fun K12 hK12 => ?_
      have hne : s ≠ [] := ‹s ≠ []›
      have hpos : 0 < s.length := List.length_pos_iff.2 hne
      have hno := blT_no hne (fun e => absurd (show (((s.getD (s.length - 1) 0).toNat : Nat) : Int) = 0 from by rw [e]; rfl) (by assumption))
      obtain ⟨q1, q2, q3⟩ := topB_ok hno
      refine HC_region (HLm rfl (HL_r rfl rfl rfl rfl (R_lenBs rfl rfl) ?_)); refine HLp rfl ?_; refine HL_as (show _ = Value.int .i64 ((8 * s.length : Nat)) from congrArg (Value.int .i64) (by rw [wrap_i64 (by omega) (by omega)]; omega)) ?_; refine HLp rfl ?_; refine HL_as (show _ = Value.int .i64 ((8 * s.length - 1 : Nat)) from congrArg (Value.int .i64) (by rw [wrap_i64 (by omega) (by omega)]; omega)) ?_; refine HLm rfl ?_; refine HL_nil (hK12 _ _ _ _ ?_); refine HC_seq fun K13 hK13 => HC_block ?_; refine HC_loop (σ := Nat) (fun i => topB s (8 * s.length) ≤ i ∧ i < 8 * s.length) (fun i => [(1, strV s), (2, pt0 r1), (4, pt0 r2), (5, .int .i64 (i : Int))]) (fun i => [(r2, .cells #[.int .u64 0, .int .u64 0, .int .u64 0, .int .u64 0, .slice none 0 0, .slice none 0 0, .int .i64 0, .int .i64 0] 61 (0, 0)), tBlk r1 (.mk k n p ins)]) (fun _ _ _ => True) (fun i => i) (8 * s.length - 1) ⟨by omega, by omega⟩ (.cons rfl (.cons rfl (.cons rfl (.cons rfl .nil)))) (List.Sublist.refl _) (fun _ _ h => h) ?_; rintro i ⟨hi1, hi2⟩; change HC _ _ _ ((r2, _) :: (r1, _) :: []) _ _ _; refine HC_seq fun K14 hK14 => ?_; refine HC_seq fun K15 hK15 => HC_region ?_; refine HLm rfl (HLm rfl (HL_r rfl rfl rfl rfl (R_lenBs rfl rfl) ?_)); refine HLp rfl ?_; refine HL_as (show _ = Value.int .i64 ((i / 8 : Nat)) from congrArg (Value.int .i64) (by rw [wrap_i64 (by omega) (by omega)]; omega)) ?_; refine HL_r rfl rfl rfl rfl (R_indexBs (j := i / 8) rfl rfl rfl rfl (by omega) rfl) ?_; refine HLm rfl (HLp rfl (HL_as (show _ = Value.int .i64 ((i % 8 : Nat)) from congrArg (Value.int .i64) (rem_nat _ _)) ?_)); refine HLp rfl (HL_as (show _ = uV (i % 8) from congrArg (Value.int .u64) (wrap_u64 (by omega) (by omega))) (HL_r rfl rfl rfl rfl (R_shr (n := i % 8) (b := (((s.getD (i / 8) 0).toNat / 2 ^ (i % 8) : Nat) : Int)) rfl rfl rfl (show _ ≤ 8 from by omega) (by omega) (by rw [Int.natCast_ediv])) ?_)); refine HLp rfl (HL_as (show _ = Value.int .u8 ((if (s.getD (i / 8) 0).toNat.testBit (i % 8) then 1 else 0 : Nat) : Int) from congrArg (Value.int .u8) ((rem_nat _ _).trans (congrArg Int.ofNat ((Nat.and_one_is_mod _).symm.trans bit_i)))) ?_)
      refine HLp rfl ?_; refine HL_as (show _ = Value.bool (!bitAt s i) from by unfold bitAt; cases (s.getD (i / 8) 0).toNat.testBit (i % 8) <;> rfl) ?_; refine HL_nil (hK15 _ _ _ _ ?_); refine HC_cond rfl (fun h16 => ?_) (fun h16 => ?_)
      · try exact Bool.noConfusion h16
        try simp only [ZZ] at h16
        refine HC_skip (hK14 _ _ _ _ ?_); refine HC_block ?_
        have hlt : topB s (8 * s.length) ≠ i := fun e => by have hbf : bitAt s i = false := (by assumption); rw [← e, q2] at hbf; cases hbf
        refine HC_region (HLm rfl (HLp rfl ?_)); refine HL_as (show _ = Value.int .i64 ((i - 1 : Nat)) from congrArg (Value.int .i64) (by rw [wrap_i64 (by omega) (by omega)]; omega)) ?_; refine HLm rfl (HL_nil ?_); refine HQ_blockN (HQ_then ?_); exact HQ_again (i - 1) ⟨by omega, by omega⟩ (by omega) (.cons rfl (.cons rfl (.cons rfl (.cons rfl .nil)))) (List.Sublist.refl _) (fun _ _ h => h)
      · try exact Bool.noConfusion h16
        try simp only [ZZ] at h16
        refine HC_exit (HQ_thenE ?_); refine HQ_thenE (HQ_blockE (hK13 _ _ _ _ ?_)); refine HC_seq fun K17 hK17 => ?_; refine HC_seq fun K18 hK18 => ?_
        have hL : i = topB s (8 * s.length) := Decidable.byContradiction fun hne => by have := q3 i (by omega) hi2; have hbt : bitAt s i = true := (by assumption); rw [this] at hbt; cases hbt
        subst hL; refine HC_region (HLm rfl ?_)
        refine HL_r rfl rfl rfl rfl (R_fieldAddr rfl rfl (by first | (simp only [Nat.zero_add, Nat.reduceAdd, Nat.reduceMul, Nat.zero_mul, Nat.mul_one, Nat.add_zero]; exact rfl) | exact rfl)) ?_; refine HL_r rfl rfl rfl rfl (R_load rfl (known_L (k := 1) rfl) rfl rfl) ?_; refine HLp rfl ?_; refine HL_nil (hK18 _ _ _ _ ?_); refine HC_cond rfl (fun h19 => ?_) (fun h19 => ?_)
        · try exact Bool.noConfusion h19
          try simp only [ZZ] at h19
          refine HC_seq fun K20 hK20 => HC_region ?_; refine HL_r rfl rfl rfl rfl (R_build (r := [_, _, _, _, _, _, _, _]) rfl rfl) ?_
          refine HL_storeA (k := 0) (n := 8) (cs' := #[_, _, _, _, _, _, _, _]) (vs := #[_, _, _, _, _, _, _, _]) rfl rfl rfl rfl rfl rfl rfl (by exact Nat.le_of_ble_eq_true rfl) rfl (by first | (simp only [List.set_cons_zero, List.set_cons_succ]; exact rfl) | exact rfl) ?_; refine HL_nil (hK20 _ _ _ _ ?_); refine HC_ret (HQ_thenR ?_); refine HQ_post rfl rfl (.cons (res_cellA (vs := [_, _, _, _, _, _, _, _]) rfl (known_L (k := 0) rfl) rfl rfl) .nil) (fun w1 hs1 => ?_)
          (have e1 : blT n s = (v0L, 5) := by unfold blT; rw [if_neg hno, if_pos (by assumption)]
           exact ⟨⟨v0L, [], v0_in, by rw [e1]; rfl⟩, congrArg (fun z => Ending.returned (gotV v0L z)) (congrArg Prod.snd e1).symm, hs1.weakL (List.nil_sublist _)⟩)
        · try exact Bool.noConfusion h19
          try simp only [ZZ] at h19
          refine HC_skip (hK17 _ _ _ _ ?_); refine HC_seq fun K21 hK21 => HC_region ?_; refine HLm rfl (HLm rfl (HL_callRE rfl rfl rfl (enters_of Tryz.func136 (by kernel_rfl) rfl) (T_runpack (s := s) (n := topB s (8 * s.length)) (by omega) hl) (fun q hq => nomatch hq) fun x => ?_))
          obtain ⟨row, hrow⟩ := x
          match row, hrow with | none, hrow => ?_ | some (ra, cap, sp), hrow => ?_
          all_goals refine HL_r rfl rfl rfl rfl (R_build (r := [_, _, _, _, _, _, _]) rfl rfl) ?_
          all_goals refine HL_r rfl rfl rfl rfl (R_build (r := [_, _, _, _, _, _, _, _]) rfl rfl) ?_
          all_goals first
            | (refine HL_storeA (k := 0) (n := 8) (cs' := #[_, _, _, _, _, _, _, _]) (vs := #[_, _, _, _, _, _, _, _]) rfl rfl rfl rfl rfl rfl rfl (by exact Nat.le_of_ble_eq_true rfl) rfl (by first | (simp only [List.set_cons_zero, List.set_cons_succ]; exact rfl) | exact rfl) ?_)
            | (refine HL_storeA (k := 1) (n := 8) (cs' := #[_, _, _, _, _, _, _, _]) (vs := #[_, _, _, _, _, _, _, _]) rfl rfl rfl rfl rfl rfl rfl (by exact Nat.le_of_ble_eq_true rfl) rfl (by first | (simp only [List.set_cons_zero, List.set_cons_succ]; exact rfl) | exact rfl) ?_)
          all_goals refine HL_nil ?_
          all_goals (
           refine hK21 _ _ _ _ ?_; refine HC_ret ?_
           first
             | refine HQ_post rfl rfl (.cons (res_cellA (vs := [_, _, _, _, _, _, _, _]) rfl (known_L (k := 0) rfl) rfl rfl) .nil) (fun w1 hs1 => ?_)
             | refine HQ_post rfl rfl (.cons (res_cellA (vs := [_, _, _, _, _, _, _, _]) rfl (known_L (k := 1) rfl) rfl rfl) .nil) (fun w1 hs1 => ?_)
           (have e1 := bl_ok (n := n) hno (decide_eq_true (by omega))
            first
            | exact ⟨⟨.mk 0 0 0 0 (unpackB s (topB s (8 * s.length))) (some (⟨ra, 0, none⟩, cap)) [] none 0, [(ra, .cells (bitsC (unpackB s (topB s (8 * s.length))) ++ sp).toArray 4 (0, 0))], bits_in' (Nat.le_refl _) (by have := hrow.2; omega) (by omega), by rw [e1, erV_mk, erL]; rfl⟩, congrArg Ending.returned ((congrArg (gotV _) (congrArg Prod.snd e1)).trans (got_bits s _ ra cap 0)).symm, hs1.weakL (by first | exact (List.cons_sublist_cons).2 (List.nil_sublist _) | simp [rowL])⟩
            | (have h0 := hrow.1
               exact ⟨⟨.mk 0 0 0 0 [] none [] none 0, [], v0_in, by rw [e1, h0]; rfl⟩, congrArg (fun z => Ending.returned (gotV v0L z)) (congrArg Prod.snd e1).symm, hs1.weakL (List.nil_sublist _)⟩))
           skip)
      skip)
   skip)
end Go.Proofs.YtlcbfphioeppaaaGreatDoor
namespace Go.Proofs.YtlcbfphioeppaaaGreatDoor
set_option linter.all false
open Go.SL Go.RowKit Go.Shelf
open Go.Proofs (Enters enters_of)
/-! ### layer 8's own getter: items, offsets -/
theorem many_V {k n : Int} {ins : List Ty} {s : BS} (h7 : k ≠ 7) (h3 : k ≠ 3) (hs : s ≠ []) (hF : isFix (inTy k 0 ins 0) = false) (h : s.length < 4 ∨ leV (s.take 4) % 4 ≠ 0 ∨ leV (s.take 4) = 0) : manyT k n ins s = (0, 2) := by
  unfold manyT
  rw [if_neg h7, if_neg h3, if_neg hs, hF, if_neg (by simp), if_pos h]
theorem many_W {k n : Int} {ins : List Ty} {s : BS} (h7 : k ≠ 7) (h3 : k ≠ 3) (hs : s ≠ []) (hF : isFix (inTy k 0 ins 0) = false) (h : ¬ (s.length < 4 ∨ leV (s.take 4) % 4 ≠ 0 ∨ leV (s.take 4) = 0)) : manyT k n ins s = if n < ((leV (s.take 4) / 4 : Nat) : Int) then (0, 5) else (leV (s.take 4) / 4, 0) := by
  unfold manyT
  rw [if_neg h7, if_neg h3, if_neg hs, hF, if_neg (by simp), if_neg h]
set_option maxRecDepth 10000 in
theorem S_ritems {R : List (Nat × Obj)} {k n : Int} {p : Pl} {ins : List Ty} {s : BS} (ht : Ty.In R (.mk k n p ins)) (hc : chk (.mk k n p ins) 0 = 0) (hk3 : k = 3 ∨ k = 4 ∨ k = 7) (hl : s.length ≤ 100000) :
    PureR Tryz.prog 137 [Ty.val (.mk k n p ins), strV s].toArray (.tuple #[.int .i64 ((manyT k n ins s).1 : Int), .int .i64 (manyT k n ins s).2]) R := by
  obtain ⟨hk8, ho, _, _⟩ := chk_mk hc
  have hsg : Seg R ins.length (tysC ins) p := by cases ht; assumption
  have hin0 : inX k 0 0 < ins.length := by
    unfold okForm at ho
    unfold inX
    rcases hk3 with rfl | rfl | rfl <;> simp at ho ⊢ <;> omega
  obtain ⟨hx0, hxm⟩ := inTy_get hin0
  have hF := S_ref_Fixed (ht.sub _ hxm)
  have hZ := S_ref_Size (ht.sub _ hxm)
  unfold sizeT at hZ
  have hfx := fix_siz (t := inTy k 0 ins 0)
  have hbl := begT_le (inTy k 0 ins 0)
  have hbe := begT_eq (inTy k 0 ins 0)
  obtain ⟨y, hy⟩ : ∃ y : Nat, begT (inTy k 0 ins 0) = (y : Int) := ⟨_, (Int.toNat_of_nonneg (by omega)).symm⟩
  rw [hy] at hbl hbe
  have hnk : k = 3 → 0 ≤ n := fun e => by subst e; unfold okForm at ho; simp at ho; omega
  refine pureR_of_HC Tryz.func137 rfl rfl fun w => ?_; refine HC_seq fun K1 hK1 => HC_region ?_; refine HL_box (cs := #[_, _, _]) rfl rfl rfl rfl fun r1 => ?_; refine HLm rfl (HLm rfl ?_); refine HL_nil (hK1 _ _ _ _ ?_); refine HC_seq fun K2 hK2 => ?_; refine HC_seq fun K3 hK3 => HC_region ?_
  refine HL_r rfl rfl rfl rfl (R_fieldAddr rfl rfl (by first | (simp only [Nat.zero_add, Nat.reduceAdd, Nat.reduceMul, Nat.zero_mul, Nat.mul_one, Nat.add_zero]; exact rfl) | exact rfl)) ?_; refine HL_r rfl rfl rfl rfl (R_load rfl (known_L (k := 0) rfl) rfl rfl) ?_; refine HLp rfl ?_; refine HL_nil (hK3 _ _ _ _ ?_); refine HC_cond rfl (fun h4 => ?_) (fun h4 => ?_)
  · try exact Bool.noConfusion h4
    try simp only [ZZ] at h4
    refine HC_seq fun K5 hK5 => HC_region ?_
    refine HL_r rfl rfl rfl rfl (R_fieldAddr rfl rfl (by first | (simp only [Nat.zero_add, Nat.reduceAdd, Nat.reduceMul, Nat.zero_mul, Nat.mul_one, Nat.add_zero]; exact rfl) | exact rfl)) ?_; refine HL_r rfl rfl rfl rfl (R_load rfl (known_L (k := 0) rfl) rfl rfl) ?_; refine HL_r rfl rfl rfl rfl (R_lenPl rfl hsg rfl) ?_; refine HLm rfl (HLm rfl ?_); refine HL_nil (hK5 _ _ _ _ ?_); refine HC_ret (HQ_thenR ?_); refine HQ_post rfl rfl (.cons (res_tmp rfl) (.cons (res_tmp rfl) .nil)) (fun w1 hs1 => ?_); refine ⟨?_, hs1.keep⟩; rw [many_7 ‹k = 7›]; rfl
  · try exact Bool.noConfusion h4
    try simp only [ZZ] at h4
    refine HC_skip (hK2 _ _ _ _ ?_); refine HC_seq fun K6 hK6 => ?_; refine HC_seq fun K7 hK7 => HC_region ?_
    refine HL_r rfl rfl rfl rfl (R_fieldAddr rfl rfl (by first | (simp only [Nat.zero_add, Nat.reduceAdd, Nat.reduceMul, Nat.zero_mul, Nat.mul_one, Nat.add_zero]; exact rfl) | exact rfl)) ?_; refine HL_r rfl rfl rfl rfl (R_load rfl (known_L (k := 0) rfl) rfl rfl) ?_; refine HLp rfl ?_; refine HL_nil (hK7 _ _ _ _ ?_); refine HC_cond rfl (fun h8 => ?_) (fun h8 => ?_)
    · try exact Bool.noConfusion h8
      try simp only [ZZ] at h8
      refine HC_seq fun K9 hK9 => HC_region ?_
      refine HL_r rfl rfl rfl rfl (R_fieldAddr rfl rfl (by first | (simp only [Nat.zero_add, Nat.reduceAdd, Nat.reduceMul, Nat.zero_mul, Nat.mul_one, Nat.add_zero]; exact rfl) | exact rfl)) ?_; refine HL_r rfl rfl rfl rfl (R_load rfl (known_L (k := 0) rfl) rfl rfl) ?_; refine HL_as (show _ = Value.int .i64 ((n.toNat : Nat) : Int) from congrArg (Value.int .i64) (by have := hnk ‹_›; omega)) ?_; refine HLm rfl (HLm rfl ?_); refine HL_nil (hK9 _ _ _ _ ?_); refine HC_ret (HQ_thenR ?_); refine HQ_post rfl rfl (.cons (res_tmp rfl) (.cons (res_tmp rfl) .nil)) (fun w1 hs1 => ?_); refine ⟨?_, hs1.keep⟩; rw [many_3 ‹k ≠ 7› ‹k = 3›]; rfl
    · try exact Bool.noConfusion h8
      try simp only [ZZ] at h8
      refine HC_skip (hK6 _ _ _ _ ?_); refine HC_seq fun K10 hK10 => ?_; refine HC_seq fun K11 hK11 => HC_region ?_; refine HLm rfl (HL_r rfl rfl rfl rfl (R_strEq rfl rfl) ?_); refine HL_nil (hK11 _ _ _ _ ?_); refine HC_cond rfl (fun h12 => ?_) (fun h12 => ?_)
      · try exact Bool.noConfusion h12
        try simp only [ZZ] at h12
        refine HC_seq fun K13 hK13 => HC_region ?_; refine HLm rfl (HLm rfl ?_); refine HL_nil (hK13 _ _ _ _ ?_); refine HC_ret (HQ_thenR ?_); refine HQ_post rfl rfl (.cons (res_tmp rfl) (.cons (res_tmp rfl) .nil)) (fun w1 hs1 => ?_); refine ⟨?_, hs1.keep⟩; rw [many_0 ‹k ≠ 7› ‹k ≠ 3› ‹s = []›]; rfl
      · try exact Bool.noConfusion h12
        try simp only [ZZ] at h12
        refine HC_skip (hK10 _ _ _ _ ?_); refine HC_seq fun K14 hK14 => ?_; refine HC_seq fun K15 hK15 => ?_
        have h7 : k ≠ 7 := ‹_›
        have h3 : k ≠ 3 := ‹_›
        have hne : s ≠ [] := ‹_›
        have hx00 : ins[0]? = some (inTy k 0 ins 0) := by have := hx0; unfold inX at this; rw [if_neg h7] at this; split at this <;> exact this
        refine HC_region ?_
        refine HL_r rfl rfl rfl rfl (R_fieldAddr rfl rfl (by first | (simp only [Nat.zero_add, Nat.reduceAdd, Nat.reduceMul, Nat.zero_mul, Nat.mul_one, Nat.add_zero]; exact rfl) | exact rfl)) ?_; refine HL_r rfl rfl rfl rfl (R_load rfl (known_L (k := 0) rfl) rfl rfl) ?_
        refine HL_r rfl rfl rfl rfl (R_indexPl (j := 0) rfl hsg rfl rfl rfl (by first | rfl | omega) (by omega)) ?_; refine HL_r rfl rfl rfl rfl (R_loadTy (fun q hq => Or.inr hq) rfl hsg hx00 rfl rfl) ?_; refine HL_callR rfl rfl rfl (enters_of Tryz.func78 (by kernel_rfl) rfl) hF (fun q hq => Or.inr hq) ?_; refine HL_nil (hK15 _ _ _ _ ?_); refine HC_cond rfl (fun h16 => ?_) (fun h16 => ?_)
        · try exact Bool.noConfusion h16
          try simp only [ZZ] at h16
          refine HC_seq fun K17 hK17 => ?_
          have hif : isFix (inTy k 0 ins 0) = true := ‹_›
          rw [if_pos hif] at hbe
          have hmq := many_q (n := n) (ins := ins) (B := s.length) (y := y) h7 h3 hne (fun _ => ⟨rfl, by omega⟩) (fun e => by rw [hif] at e; cases e)
          refine HC_region ?_
          refine HL_r rfl rfl rfl rfl (R_fieldAddr rfl rfl (by first | (simp only [Nat.zero_add, Nat.reduceAdd, Nat.reduceMul, Nat.zero_mul, Nat.mul_one, Nat.add_zero]; exact rfl) | exact rfl)) ?_; refine HL_r rfl rfl rfl rfl (R_load rfl (known_L (k := 0) rfl) rfl rfl) ?_
          refine HL_r rfl rfl rfl rfl (R_indexPl (j := 0) rfl hsg rfl rfl rfl (by first | rfl | omega) (by omega)) ?_; refine HL_r rfl rfl rfl rfl (R_loadTy (fun q hq => Or.inr hq) rfl hsg hx00 rfl rfl) ?_; refine HL_callR rfl rfl rfl (enters_of Tryz.func86 (by kernel_rfl) rfl) hZ (fun q hq => Or.inr hq) ?_; refine HL_as (show _ = Value.int .i64 (y : Int) from congrArg (Value.int .i64) (by rw [hbe, if_pos hif])) ?_; refine HLm rfl ?_; refine HL_nil (hK17 _ _ _ _ ?_); refine HC_seq fun K18 hK18 => ?_; refine HC_seq fun K19 hK19 => HC_region ?_; refine HLm rfl (HL_r rfl rfl rfl rfl (R_lenBs rfl rfl) ?_); refine HLm rfl (HL_r rfl rfl rfl rfl (R_remV (a := s.length) (b := y) rfl rfl (by omega)) (HLp rfl ?_)); refine HL_nil (hK19 _ _ _ _ ?_); refine HC_cond rfl (fun h20 => ?_) (fun h20 => ?_)
          · try exact Bool.noConfusion h20
            try simp only [ZZ] at h20
            refine HC_seq fun K21 hK21 => HC_region ?_; refine HLm rfl (HLm rfl ?_); refine HL_nil (hK21 _ _ _ _ ?_); refine HC_ret (HQ_thenR ?_); refine HQ_thenR ?_; refine HQ_post rfl rfl (.cons (res_tmp rfl) (.cons (res_tmp rfl) .nil)) (fun w1 hs1 => ?_); refine ⟨?_, hs1.keep⟩; rw [hmq, if_pos (by omega)]; rfl
          · try exact Bool.noConfusion h20
            try simp only [ZZ] at h20
            refine HC_skip (hK18 _ _ _ _ ?_); refine HC_seq fun K22 hK22 => ?_; refine HC_seq fun K23 hK23 => ?_
            refine HC_drawB [] [(0, .pure), (1, .pure), (2, .pure), (3, .pure), (4, .pure)] 6 [0, 1, 2, 3, 4, 5] (by kernel_rfl) (by kernel_rfl) (by first | exact (fun _ h => absurd h List.not_mem_nil) | simp [SubS] | (intro p hp; simp [hp])) ?_; refine HB_p (k := 0) rfl rfl rfl rfl rfl (fun _ hS => (R_move rfl)) ?_; refine HB_p (k := 1) rfl rfl rfl rfl rfl (fun _ hS => (R_lenBs rfl rfl)) ?_; refine HB_p (k := 2) rfl rfl rfl rfl rfl (fun _ hS => (R_move rfl)) ?_; refine HB_p (k := 3) rfl rfl rfl rfl rfl (fun _ _ => R_quoV (a := s.length) (b := y) rfl rfl (by omega) (by omega)) ?_
            refine HB_p (k := 4) rfl rfl rfl rfl rfl (fun _ hS => (R_fieldAddr rfl rfl (by first | (simp only [Nat.zero_add, Nat.reduceAdd, Nat.reduceMul, Nat.zero_mul, Nat.mul_one, Nat.add_zero]; exact rfl) | exact rfl))) ?_; refine HB_r (k := 5) rfl rfl rfl rfl rfl (R_load rfl (known_L (k := 0) rfl) rfl rfl) ?_; refine HB_end ?_; refine HLp rfl ?_; refine HL_nil (hK23 _ _ _ _ ?_); refine HC_cond rfl (fun h24 => ?_) (fun h24 => ?_)
            · try exact Bool.noConfusion h24
              try simp only [ZZ] at h24
              refine HC_seq fun K25 hK25 => HC_region ?_; refine HLm rfl (HLm rfl ?_); refine HL_nil (hK25 _ _ _ _ ?_); refine HC_ret (HQ_thenR ?_); refine HQ_thenR ?_; refine HQ_post rfl rfl (.cons (res_tmp rfl) (.cons (res_tmp rfl) .nil)) (fun w1 hs1 => ?_); refine ⟨?_, hs1.keep⟩; rw [hmq, if_neg (by omega), if_pos (by omega)]; rfl
            · try exact Bool.noConfusion h24
              try simp only [ZZ] at h24
              refine HC_skip (hK22 _ _ _ _ ?_); refine HC_seq fun K26 hK26 => HC_region ?_; refine HLm rfl (HL_r rfl rfl rfl rfl (R_lenBs rfl rfl) ?_); refine HLm rfl (HL_r rfl rfl rfl rfl (R_quoV (a := s.length) (b := y) rfl rfl (by omega) (by omega)) ?_); refine HLm rfl (HLm rfl ?_); refine HL_nil (hK26 _ _ _ _ ?_); refine HC_ret (HQ_thenR ?_); refine HQ_post rfl rfl (.cons (res_tmp rfl) (.cons (res_tmp rfl) .nil)) (fun w1 hs1 => ?_); refine ⟨?_, hs1.keep⟩; rw [hmq, if_neg (by omega), if_neg (by omega)]; rfl
        · try exact Bool.noConfusion h16
          try simp only [ZZ] at h16
          refine HC_skip (hK14 _ _ _ _ ?_); refine HC_seq fun K27 hK27 => ?_; refine HC_seq fun K28 hK28 => ?_
          have hif : isFix (inTy k 0 ins 0) = false := ‹_›
          refine HC_region (HLm rfl (HL_r rfl rfl rfl rfl (R_lenBs rfl rfl) ?_)); refine HLp rfl (HLm rfl ?_)
          refine HL_case 49 rfl (fun hb29 => ?_) (fun hb29 => ?_) <;> (try simp only [ZZ] at hb29) <;> first | (refine HLm rfl ?_) | (refine HL_skip rfl rfl rfl ?_)
          all_goals first
            | (refine HL_r rfl rfl rfl rfl (R_sliceBs (kl := none) (kh := some (.i64, 4)) (m := 0) (n := 4) rfl rfl rfl rfl rfl rfl (by omega) (by omega) (show _ = s.take 4 from rfl)) ?_)
            | (refine HL_skip rfl rfl rfl ?_)
          all_goals first
            | (refine HL_callP rfl rfl rfl (enters_of Tryz.func198 (by kernel_rfl) rfl) (P_rlow (s := s.take 4) (by rw [List.length_take]; omega)) ?_)
            | (refine HL_skip rfl rfl rfl ?_)
          all_goals first
            | (refine HL_r rfl rfl rfl rfl (R_remV (a := leV (s.take 4)) (b := 4) rfl rfl (by omega)) ?_)
            | (refine HL_skip rfl rfl rfl ?_)
          all_goals first
            | (refine HLp rfl ?_)
            | (refine HL_skip rfl rfl rfl ?_)
          all_goals first
            | (refine HL_r rfl rfl rfl rfl (R_pickT rfl rfl) ?_)
            | (refine HL_r rfl rfl rfl rfl (R_pickF rfl rfl) ?_)
          all_goals refine HLm rfl ?_
          all_goals first
            | (refine HL_skip rfl rfl rfl ?_)
            | (refine HL_case 56 rfl (fun hb34 => ?_) (fun hb34 => ?_) <;> (try simp only [ZZ] at hb34) <;> first | (refine HLm rfl ?_) | (refine HL_skip rfl rfl rfl ?_))
          all_goals first
            | (refine HL_r rfl rfl rfl rfl (R_sliceBs (kl := none) (kh := some (.i64, 4)) (m := 0) (n := 4) rfl rfl rfl rfl rfl rfl (by omega) (by omega) (show _ = s.take 4 from rfl)) ?_)
            | (refine HL_skip rfl rfl rfl ?_)
          all_goals first
            | (refine HL_callP rfl rfl rfl (enters_of Tryz.func198 (by kernel_rfl) rfl) (P_rlow (s := s.take 4) (by rw [List.length_take]; omega)) ?_)
            | (refine HL_skip rfl rfl rfl ?_)
          all_goals first
            | (refine HLp rfl ?_)
            | (refine HL_skip rfl rfl rfl ?_)
          all_goals first
            | (refine HL_r rfl rfl rfl rfl (R_pickT rfl rfl) ?_)
            | (refine HL_r rfl rfl rfl rfl (R_pickF rfl rfl) ?_)
          all_goals refine HL_nil ?_
          all_goals (
           refine hK28 _ _ _ _ ?_; refine HC_cond rfl (fun h38 => ?_) (fun h38 => ?_)
           · try exact Bool.noConfusion h38
             try simp only [ZZ] at h38
             refine HC_seq fun K39 hK39 => HC_region ?_; refine HLm rfl (HLm rfl ?_); refine HL_nil (hK39 _ _ _ _ ?_); refine HC_ret (HQ_thenR ?_); refine HQ_post rfl rfl (.cons (res_tmp rfl) (.cons (res_tmp rfl) .nil)) (fun w1 hs1 => ?_); refine ⟨?_, hs1.keep⟩; rw [many_V h7 h3 hne hif (by omega)]; rfl
           · try exact Bool.noConfusion h38
             all_goals try simp only [ZZ] at h38
             all_goals (
              refine HC_skip (hK27 _ _ _ _ ?_); refine HC_seq fun K40 hK40 => ?_; refine HC_seq fun K41 hK41 => ?_
              have hlt := (unle4 (s := s) (by omega)).2
              have hmw := many_W (n := n) h7 h3 hne hif (by omega)
              refine HC_drawB [] [(0, .pure), (1, .pure), (2, .pure), (3, .pure), (4, .pure)] 6 [0, 1, 2, 3, 4, 5] (by kernel_rfl) (by kernel_rfl) (by first | exact (fun _ h => absurd h List.not_mem_nil) | simp [SubS] | (intro p hp; simp [hp])) ?_; refine HB_p (k := 0) rfl rfl rfl rfl rfl (fun _ hS => (R_move rfl)) ?_; refine HB_p (k := 1) rfl rfl rfl rfl rfl (fun _ _ => R_sliceBs (kl := none) (kh := some (.i64, 4)) (m := 0) (n := 4) rfl rfl rfl rfl rfl rfl (by omega) (by omega) (show _ = s.take 4 from rfl)) ?_; refine HB_callP (k := 2) rfl rfl rfl rfl rfl (enters_of Tryz.func198 (by kernel_rfl) rfl) (P_rlow (s := s.take 4) (by rw [List.length_take]; omega)) ?_; refine HB_p (k := 3) rfl rfl rfl rfl rfl (fun _ _ => R_quoV (a := leV (s.take 4)) (b := 4) rfl rfl (by omega) (by omega)) ?_
              refine HB_p (k := 4) rfl rfl rfl rfl rfl (fun _ hS => (R_fieldAddr rfl rfl (by first | (simp only [Nat.zero_add, Nat.reduceAdd, Nat.reduceMul, Nat.zero_mul, Nat.mul_one, Nat.add_zero]; exact rfl) | exact rfl))) ?_; refine HB_r (k := 5) rfl rfl rfl rfl rfl (R_load rfl (known_L (k := 0) rfl) rfl rfl) ?_; refine HB_end ?_; refine HLp rfl ?_; refine HL_nil (hK41 _ _ _ _ ?_); refine HC_cond rfl (fun h42 => ?_) (fun h42 => ?_)
              · try exact Bool.noConfusion h42
                try simp only [ZZ] at h42
                refine HC_seq fun K43 hK43 => HC_region ?_; refine HLm rfl (HLm rfl ?_); refine HL_nil (hK43 _ _ _ _ ?_); refine HC_ret (HQ_thenR ?_); refine HQ_post rfl rfl (.cons (res_tmp rfl) (.cons (res_tmp rfl) .nil)) (fun w1 hs1 => ?_); refine ⟨?_, hs1.keep⟩; rw [hmw, if_pos (by omega)]; rfl
              · try exact Bool.noConfusion h42
                try simp only [ZZ] at h42
                refine HC_skip (hK40 _ _ _ _ ?_); refine HC_seq fun K44 hK44 => HC_region ?_; refine HLm rfl (HL_r rfl rfl rfl rfl (R_sliceBs (kl := none) (kh := some (.i64, 4)) (m := 0) (n := 4) rfl rfl rfl rfl rfl rfl (by omega) (by omega) (show _ = s.take 4 from rfl)) ?_); refine HL_callP rfl rfl rfl (enters_of Tryz.func198 (by kernel_rfl) rfl) (P_rlow (s := s.take 4) (by rw [List.length_take]; omega)) ?_; refine HL_r rfl rfl rfl rfl (R_quoV (a := leV (s.take 4)) (b := 4) rfl rfl (by omega) (by omega)) ?_; refine HLm rfl (HLm rfl ?_); refine HL_nil (hK44 _ _ _ _ ?_); refine HC_ret ?_; refine HQ_post rfl rfl (.cons (res_tmp rfl) (.cons (res_tmp rfl) .nil)) (fun w1 hs1 => ?_); refine ⟨?_, hs1.keep⟩; rw [hmw, if_neg (by omega)]; rfl
              skip)
           skip)
structure OInv (s : BS) (H : Nat) (TY : List Ty) (i A la : Nat) (pre : List Nat) : Prop where
  le : i ≤ TY.length
  at_ : (A : Int) = begL (TY.take i)
  off : offL s H TY 0 H false = (offL s H (TY.drop i) A la (decide (0 < pre.length))).map (pre ++ ·)
section
variable {s : BS} {H : Nat} {TY : List Ty} {i A la : Nat} {pre : List Nat} {x : Ty}
theorem OInv.start : OInv s H TY 0 0 H [] := ⟨Nat.zero_le _, rfl, by rw [List.drop_zero, show decide (0 < ([] : List Nat).length) = false from rfl]; cases offL s H TY 0 H false <;> rfl⟩
theorem OInv.bound (h : OInv s H TY i A la pre) (hx : TY[i]? = some x) (hH : begL TY = (H : Int)) : (A : Int) + begT x ≤ H := by
  have e : TY = TY.take i ++ (x :: TY.drop (i + 1)) := by rw [← drop_cons' hx, List.take_append_drop]
  rw [e, begL_app, begL] at hH
  have := begL_nn (TY.drop (i + 1))
  have := h.at_
  omega
theorem OInv.fix (h : OInv s H TY i A la pre) (hx : TY[i]? = some x) (hf : isFix x = true) (h0 : 0 ≤ sizT x) : OInv s H TY (i + 1) (A + (sizT x).toNat) la pre := by
  have h1 := h.off
  rw [drop_cons' hx, offL, if_pos hf] at h1; refine ⟨(List.getElem?_eq_some_iff.1 hx).1, ?_, h1⟩; rw [take_snoc' hx, begL_app, begL, begL, begT, if_pos hf, ← h.at_]; omega
theorem OInv.bad (h : OInv s H TY i A la pre) (hx : TY[i]? = some x) (hf : isFix x = false) {v : Nat} (hv : v = leV ((s.drop A).take 4)) (hb : (¬ 0 < pre.length ∧ v ≠ H) ∨ v < la ∨ s.length < v) : offL s H TY 0 H false = none := by
  subst hv
  rw [h.off, drop_cons' hx, offL, if_neg (by rw [hf]; decide), if_pos (by
    rcases hb with ⟨h1, h2⟩ | h1
    · exact .inl ⟨decide_eq_false h1, h2⟩
    · exact .inr h1)]
  rfl
theorem OInv.var (h : OInv s H TY i A la pre) (hx : TY[i]? = some x) (hf : isFix x = false) {v : Nat} (hv : v = leV ((s.drop A).take 4)) (h1 : 0 < pre.length ∨ v = H) (h2 : la ≤ v) (h3 : v ≤ s.length) : OInv s H TY (i + 1) (A + 4) v (pre ++ [v]) := by
  have hn : ¬ isFix x = true := by rw [hf]; decide
  have hlv : leV ((s.drop A).take 4) = v := hv.symm
  have ho := h.off
  rw [drop_cons' hx, offL, if_neg hn, hlv, if_neg (by
    rintro (⟨g1, g2⟩ | g | g)
    · simp only [decide_eq_false_iff_not] at g1; omega
    · omega
    · omega), Option.map_map] at ho
  refine ⟨(List.getElem?_eq_some_iff.1 hx).1, ?_, ?_⟩
  · rw [take_snoc' hx, begL_app, begL, begL, begT, if_neg hn, ← h.at_]; omega
  · rw [ho, show decide (0 < (pre ++ [v]).length) = true by simp]
    congr 1
    funext r
    simp
theorem OInv.done (h : OInv s H TY TY.length A la pre) : offL s H TY 0 H false = if ¬ 0 < pre.length ∧ H ≠ s.length then none else some (pre ++ [s.length]) := by
  rw [h.off, List.drop_length, offL]
  by_cases hc : ¬ 0 < pre.length ∧ H ≠ s.length
  · rw [if_pos hc, if_pos ⟨decide_eq_false hc.1, hc.2⟩]; rfl
  · rw [if_neg hc, if_neg (by rintro ⟨g1, g2⟩; exact hc ⟨of_decide_eq_false g1, g2⟩)]; rfl
end
def offR (k : Int) (ins : List Ty) (s : BS) (M : Nat) : Option (List Nat) := if (s.length : Int) < begL (tysN k ins M) then none else offL s (begL (tysN k ins M)).toNat (tysN k ins M) 0 (begL (tysN k ins M)).toNat false
theorem iV_app (pre : List Nat) (v : Nat) : pre.map iV ++ [Value.int .i64 (v : Int)] = (pre ++ [v]).map iV := by rw [List.map_append]; rfl
set_option maxRecDepth 20000 in
set_option maxHeartbeats 1000000 in
theorem T_roffs {R : List (Nat × Obj)} {k n : Int} {p : Pl} {ins : List Ty} {s : BS} {M : Nat} (ht : Ty.In R (.mk k n p ins)) (h8 : k ≠ 8) (hM : M ≤ 600) (hX : ∀ i, i < M → inX k 0 i < ins.length) (hl : s.length ≤ 100000) :
    PureT (α := { row : Row // rowOk 1 ((offR k ins s M).getD []).length (((offR k ins s M).getD []).map iV) row }) Tryz.prog 138 [Ty.val (.mk k n p ins), strV s, .int .i64 (M : Int)].toArray (fun x => .tuple #[rowV ((offR k ins s M).getD []).length x.1, .bool (offR k ins s M).isSome]) [] (fun x => rowL 3 (((offR k ins s M).getD []).map iV) x.1) R := by
  obtain ⟨TY, hTY⟩ : ∃ TY, TY = tysN k ins M := ⟨_, rfl⟩
  have hTl : TY.length = M := by rw [hTY, tysN_len]
  have hbl := begL_nn TY
  obtain ⟨H, hH⟩ : ∃ H, H = (begL TY).toNat := ⟨_, rfl⟩
  have hHi : begL TY = (H : Int) := by omega
  have hbg := S_rbegin ht (v0_in.mono (R' := R) (fun q hq => absurd hq List.not_mem_nil)) h8 hM hX
  rw [← hTY, hHi] at hbg
  have hbb := (begL_le TY).2
  have hin := fun i (h : i < M) => S_ref_In (v := v0L) (i := i) (y := inTy k 0 ins i) ht (v0_in.mono (R' := R) (fun q hq => absurd hq List.not_mem_nil)) (fun e => absurd e h8) (inTy_get (hX i h)).1
  have hti := fun i (h : i < M) => ht.sub _ (inTy_get (hX i h)).2
  have ho : offR k ins s M = if s.length < H then none else offL s H TY 0 H false := by
    unfold offR
    rw [← hTY, hHi, Int.toNat_natCast]
    by_cases h : s.length < H
    · rw [if_pos (by omega), if_pos h]
    · rw [if_neg (by omega), if_neg h]
  generalize offR k ins s M = OR at ho ⊢
  refine pureT_of_HC Tryz.func138 rfl rfl fun w => ?_; refine HC_seq fun K1 hK1 => HC_region ?_; refine HL_box (cs := #[_, _, _]) rfl rfl rfl rfl fun r1 => ?_; refine HLm rfl (HLm rfl ?_); refine HL_nil (hK1 _ _ _ _ ?_); refine HC_seq fun K2 hK2 => HC_region ?_; refine HLm rfl ?_; refine HL_nil (hK2 _ _ _ _ ?_); refine HC_seq fun K3 hK3 => HC_region ?_; refine HL_r rfl rfl rfl rfl (R_loadA (vs := [_, _, _]) rfl (known_L (k := 0) rfl) rfl rfl rfl rfl) ?_; refine HL_r rfl rfl rfl rfl (R_build (r := [_, _, _, _, _, _, _]) rfl rfl) ?_; refine HLm rfl (HL_callR rfl rfl rfl (enters_of Tryz.func76 (by kernel_rfl) rfl) hbg (fun q hq => Or.inr hq) (HLm rfl ?_)); refine HL_nil (hK3 _ _ _ _ ?_); refine HC_seq fun K4 hK4 => ?_; refine HC_seq fun K5 hK5 => HC_region ?_; refine HLm rfl (HLm rfl (HL_r rfl rfl rfl rfl (R_lenBs rfl rfl) ?_)); refine HLp rfl ?_; refine HL_nil (hK5 _ _ _ _ ?_); refine HC_cond rfl (fun h6 => ?_) (fun h6 => ?_)
  · try exact Bool.noConfusion h6
    try simp only [ZZ] at h6
    refine HC_seq fun K7 hK7 => HC_region ?_; refine HLm rfl (HLm rfl ?_); refine HL_nil (hK7 _ _ _ _ ?_); refine HC_ret (HQ_thenR ?_); refine HQ_post rfl rfl (.cons (res_tmp rfl) (.cons (res_tmp rfl) .nil)) (fun w1 hs1 => ?_)
    (rw [if_pos (by omega)] at ho
     subst ho
     exact ⟨⟨none, rfl, rfl⟩, rfl, hs1.weakL (List.nil_sublist _)⟩)
  · try exact Bool.noConfusion h6
    try simp only [ZZ] at h6
    refine HC_skip (hK4 _ _ _ _ ?_); refine HC_seq fun K8 hK8 => ?_
    have hHl : H ≤ s.length := by omega
    rw [if_neg (by omega)] at ho; refine HC_region (HLm rfl ?_); refine HL_nil (hK8 _ _ _ _ ?_); refine HC_seq fun K9 hK9 => HC_region ?_; refine HLm rfl (HLm rfl ?_); refine HL_nil (hK9 _ _ _ _ ?_); refine HC_seq fun K10 hK10 => ?_; refine HC_seq fun K11 hK11 => HC_region ?_; refine HLm rfl ?_; refine HL_nil (hK11 _ _ _ _ ?_); refine HC_block ?_; refine HC_loop (σ := Nat × Nat × Nat × List Nat × Row) (fun q => q.1 ≤ M ∧ OInv s H TY q.1 q.2.1 q.2.2.1 q.2.2.2.1 ∧ rowOk 1 q.2.2.2.1.length (q.2.2.2.1.map iV) q.2.2.2.2 ∧ q.2.2.2.1.length ≤ q.1 ∧ q.2.1 ≤ H ∧ q.2.2.1 ≤ 100000) (fun q => [(1, strV s), (2, .int .i64 (M : Int)), (3, pt0 r1), (8, rowV q.2.2.2.1.length q.2.2.2.2), (9, .int .i64 (H : Int)), (10, .int .i64 (q.2.1 : Int)), (11, .int .i64 (q.2.2.1 : Int)), (12, .int .i64 (q.1 : Int))]) (fun q => tBlk r1 (.mk k n p ins) :: rowL 3 (q.2.2.2.1.map iV) q.2.2.2.2) (fun _ _ _ => True) (fun q => M - q.1) (0, 0, H, [], none) ⟨Nat.zero_le _, OInv.start, ⟨rfl, rfl⟩, Nat.le_refl _, Nat.zero_le _, by simp only; omega⟩ (.cons rfl (.cons rfl (.cons rfl (.cons rfl (.cons rfl (.cons rfl (.cons rfl (.cons rfl .nil)))))))) (List.Sublist.refl _) (fun _ _ h => h) ?_; rintro ⟨i, A, la, pre, row⟩ ⟨hi1, hinv, hrow, hpl, hAH, hla⟩; simp only at hi1 hinv hrow hpl hAH hla; change HC _ _ [(1, strV s), (2, .int .i64 (M : Int)), (3, pt0 r1), (8, rowV pre.length row), (9, .int .i64 (H : Int)), (10, .int .i64 (A : Int)), (11, .int .i64 (la : Int)), (12, .int .i64 (i : Int))] _ _ _ _; refine HC_seq fun K12 hK12 => ?_; refine HC_seq fun K13 hK13 => HC_region ?_; refine HLm rfl (HLm rfl (HLp rfl ?_)); refine HL_nil (hK13 _ _ _ _ ?_); refine HC_cond rfl (fun h14 => ?_) (fun h14 => ?_)
    · try exact Bool.noConfusion h14
      try simp only [ZZ] at h14
      refine HC_skip (hK12 _ _ _ _ ?_); refine HC_seq fun K15 hK15 => HC_block ?_; refine HC_seq fun K16 hK16 => ?_
      have hii : i < M := by omega
      have hti1 := hti i hii
      have hxx : TY[i]? = some (inTy k 0 ins i) := by rw [hTY]; unfold tysN; rw [List.getElem?_map, List.getElem?_range hii]; rfl
      have hbd := hinv.bound hxx hHi
      have hbt := begT_le (inTy k 0 ins i)
      have hbe := begT_eq (inTy k 0 ins i)
      obtain ⟨y, hy⟩ : ∃ y : Nat, begT (inTy k 0 ins i) = (y : Int) := ⟨_, (Int.toNat_of_nonneg (by omega)).symm⟩
      rw [hy] at hbd hbt hbe; refine HC_region (HL_r rfl rfl rfl rfl (R_loadA (vs := [_, _, _]) rfl (known_L (k := 0) rfl) rfl rfl rfl rfl) (HL_r rfl rfl rfl rfl (R_build (r := [_, _, _, _, _, _, _]) rfl rfl) ?_)); refine HLm rfl (HL_callR rfl rfl rfl (enters_of Tryz.func77 (by kernel_rfl) rfl) (hin i (by omega)) (fun q hq => Or.inr hq) (HL_alloc (cs := #[.int .i64 0, .int .i64 0, .slice none 0 0]) rfl rfl rfl rfl fun r9 => ?_)); refine HL_storeArr (k := 0) (n := 3) (ys := (inTy k 0 ins i).cells) rfl rfl rfl rfl rfl (inTy k 0 ins i).len rfl (inTy k 0 ins i).one rfl ?_; refine HL_nil (hK16 _ _ _ _ ?_); refine HC_seq fun K17 hK17 => ?_; refine HC_seq fun K18 hK18 => HC_region ?_; refine HL_r rfl rfl rfl rfl (R_loadArr (xs := (inTy k 0 ins i).cells) (n := 3) rfl (known_L (k := 0) rfl) rfl rfl (inTy k 0 ins i).len) ?_; refine HL_callR rfl rfl rfl (enters_of Tryz.func78 (by kernel_rfl) rfl) (S_ref_Fixed hti1) (fun q hq => Or.inr hq) ?_; refine HL_nil (hK18 _ _ _ _ ?_); refine HC_cond rfl (fun h19 => ?_) (fun h19 => ?_)
      · try exact Bool.noConfusion h19
        try simp only [ZZ] at h19
        refine HC_seq fun K20 hK20 => ?_
        have hif : isFix (inTy k 0 ins i) = true := ‹_›
        rw [if_pos hif] at hbe
        have hsz1 := S_ref_Size hti1
        unfold sizeT at hsz1
        rw [if_pos hif, ← hbe] at hsz1; refine HC_region (HLm rfl (HL_r rfl rfl rfl rfl (R_loadArr (xs := (inTy k 0 ins i).cells) (n := 3) rfl (known_L (k := 0) rfl) rfl rfl (inTy k 0 ins i).len) ?_)); refine HL_callR rfl rfl rfl (enters_of Tryz.func86 (by kernel_rfl) rfl) hsz1 (fun q hq => Or.inr hq) ?_; refine HLp rfl ?_; refine HL_as (show _ = Value.int .i64 ((A + y : Nat)) from congrArg (Value.int .i64) (by rw [wrap_i64 (by omega) (by omega)]; omega)) ?_; refine HLm rfl ?_; refine HL_nil (hK20 _ _ _ _ ?_); refine HC_exit (HQ_thenE ?_); refine HQ_blockE (hK15 _ _ _ _ ?_); refine HC_region (HLm rfl ?_)
        refine HLp rfl ?_; refine HL_as (show _ = Value.int .i64 ((i + 1 : Nat) : Int) from by rw [wrap_i64 (by omega) (by omega)]; congr 1 <;> omega) ?_; refine HLm rfl (HL_nil (HQ_then ?_))
        (have hfx := hinv.fix hxx hif (by omega)
         rw [show (sizT (inTy k 0 ins i)).toNat = y by omega] at hfx
         exact HQ_again (i + 1, A + y, la, pre, row) ⟨by simp only; omega, hfx, hrow, by simp only; omega, by simp only; omega, hla⟩ (by simp only; omega) (.cons rfl (.cons rfl (.cons rfl (.cons rfl (.cons rfl (.cons rfl (.cons rfl (.cons rfl .nil)))))))) (.cons _ (List.Sublist.refl _)) (fun _ _ h => h))
      · try exact Bool.noConfusion h19
        try simp only [ZZ] at h19
        refine HC_skip (hK17 _ _ _ _ ?_); refine HC_seq fun K21 hK21 => ?_
        have hif : isFix (inTy k 0 ins i) = false := ‹_›
        rw [hif, if_neg (by decide)] at hbe; refine HC_region (HLm rfl ?_); refine HLm rfl (HLm rfl (HLp rfl ?_)); refine HL_as (show _ = Value.int .i64 ((A + 4 : Nat)) from congrArg (Value.int .i64) (by rw [wrap_i64 (by omega) (by omega)]; omega)) ?_; refine HL_r rfl rfl rfl rfl (R_sliceBs (kl := some (.i64, (A : Int))) (kh := some (.i64, ((A + 4 : Nat) : Int))) (m := A) (n := A + 4) rfl rfl rfl rfl rfl rfl (by omega) (by omega) (show _ = (s.drop A).take 4 from by rw [List.drop_take, Nat.add_sub_cancel_left])) ?_; refine HL_callP rfl rfl rfl (enters_of Tryz.func198 (by kernel_rfl) rfl) (P_rlow (s := (s.drop A).take 4) (by rw [List.length_take, List.length_drop]; omega)) ?_
        obtain ⟨v, hv⟩ : ∃ v, v = leV ((s.drop A).take 4) := ⟨_, rfl⟩
        rw [← hv]; refine HLm rfl ?_; refine HL_nil (hK21 _ _ _ _ ?_); refine HC_seq fun K22 hK22 => ?_; refine HC_seq fun K23 hK23 => HC_region ?_; refine HLm rfl ?_; refine HL_r rfl rfl rfl rfl (R_lenRow rfl (fun e => by rw [e] at hrow; exact hrow.1) rfl) ?_; refine HLp rfl (HLm rfl ?_)
        refine HL_case 48 rfl (fun hb24 => ?_) (fun hb24 => ?_) <;> (try simp only [ZZ] at hb24) <;> first | (refine HLm rfl ?_) | (refine HL_skip rfl rfl rfl ?_)
        all_goals first
          | (refine HLm rfl ?_)
          | (refine HL_skip rfl rfl rfl ?_)
        all_goals first
          | (refine HLp rfl ?_)
          | (refine HL_skip rfl rfl rfl ?_)
        all_goals first
          | (refine HL_r rfl rfl rfl rfl (R_pickT rfl rfl) ?_)
          | (refine HL_r rfl rfl rfl rfl (R_pickF rfl rfl) ?_)
        all_goals refine HLm rfl ?_
        all_goals first
          | (refine HLm rfl ?_)
          | (refine HL_case 53 rfl (fun hb27 => ?_) (fun hb27 => ?_) <;> (try simp only [ZZ] at hb27) <;> first | (refine HLm rfl ?_) | (refine HL_skip rfl rfl rfl ?_))
        all_goals first
          | (refine HLm rfl ?_)
          | (refine HL_skip rfl rfl rfl ?_)
        all_goals first
          | (refine HLp rfl ?_)
          | (refine HL_skip rfl rfl rfl ?_)
        all_goals first
          | (refine HL_r rfl rfl rfl rfl (R_pickT rfl rfl) ?_)
          | (refine HL_r rfl rfl rfl rfl (R_pickF rfl rfl) ?_)
        all_goals refine HLm rfl ?_
        all_goals first
          | (refine HL_skip rfl rfl rfl ?_)
          | (refine HL_case 58 rfl (fun hb30 => ?_) (fun hb30 => ?_) <;> (try simp only [ZZ] at hb30) <;> first | (refine HLm rfl ?_) | (refine HL_skip rfl rfl rfl ?_))
        all_goals first
          | (refine HLm rfl ?_)
          | (refine HL_skip rfl rfl rfl ?_)
        all_goals first
          | (refine HL_r rfl rfl rfl rfl (R_lenBs rfl rfl) ?_)
          | (refine HL_skip rfl rfl rfl ?_)
        all_goals first
          | (refine HLp rfl ?_)
          | (refine HL_skip rfl rfl rfl ?_)
        all_goals first
          | (refine HL_r rfl rfl rfl rfl (R_pickT rfl rfl) ?_)
          | (refine HL_r rfl rfl rfl rfl (R_pickF rfl rfl) ?_)
        all_goals refine HL_nil ?_
        all_goals (
         refine hK23 _ _ _ _ ?_; refine HC_cond rfl (fun h34 => ?_) (fun h34 => ?_)
         · try exact Bool.noConfusion h34
           try simp only [ZZ] at h34
           refine HC_seq fun K35 hK35 => HC_region ?_; refine HLm rfl (HLm rfl ?_); refine HL_nil (hK35 _ _ _ _ ?_); refine HC_ret (HQ_thenR ?_); refine HQ_blockR (HQ_thenR ?_); refine HQ_thenR (HQ_blockR (HQ_thenR ?_)); refine HQ_post rfl rfl (.cons (res_tmp rfl) (.cons (res_tmp rfl) .nil)) (fun w1 hs1 => ?_)
           (rw [hinv.bad hxx hif hv (by omega)] at ho
            subst ho
            exact ⟨⟨none, rfl, rfl⟩, rfl, hs1.weakL (List.nil_sublist _)⟩)
         · try exact Bool.noConfusion h34
           all_goals try simp only [ZZ] at h34
           all_goals (
            refine HC_skip (hK22 _ _ _ _ ?_); refine HC_seq fun K36 hK36 => HC_region ?_; refine HLm rfl (HLm rfl ?_); refine HL_buildSlice (vs := [_]) (zs := [_]) (r := [_]) rfl rfl rfl rfl rfl rfl rfl rfl rfl (by show (madeCells #[_] _).toList = _; rw [made_one]; exact rfl) rfl fun r2 => ?_; refine HL_appendRow (L0 := [_, _, _]) (xs := pre.map iV) (row := row) (n := pre.length) (sz := 1) (b := 8) (news := [_]) (List.perm_append_comm (l₁ := [_, _, _])) rfl rfl rfl rfl (known_L (k := 0) rfl) rfl rfl rfl rfl rfl (by decide) rfl rfl rfl (by decide) hrow (by omega) (by omega) fun ra cap sp hra => ?_; refine HLm rfl ?_; refine HL_nil (hK36 _ _ _ _ ?_); refine HC_seq fun K37 hK37 => HC_region ?_; refine HLm rfl (HLm rfl ?_); refine HL_nil (hK37 _ _ _ _ ?_); refine HC_region (HLm rfl (HLp rfl ?_)); refine HL_as (show _ = Value.int .i64 ((A + 4 : Nat)) from congrArg (Value.int .i64) (by rw [wrap_i64 (by omega) (by omega)]; omega)) ?_; refine HLm rfl (HL_nil ?_); refine HQ_blockN (hK15 _ _ _ _ ?_); refine HC_region (HLm rfl ?_)
            refine HLp rfl ?_; refine HL_as (show _ = Value.int .i64 ((i + 1 : Nat) : Int) from by rw [wrap_i64 (by omega) (by omega)]; congr 1 <;> omega) ?_; refine HLm rfl (HL_nil (HQ_then ?_))
            (have hvr := hinv.var hxx hif hv (by omega) (by omega) (by omega)
             have hlen : pre.length + 1 = (pre ++ [v]).length := by simp
             rw [iV_app, hlen] at hra; rw [iV_app]; refine HQ_sel [3, 0] (L' := [_, _]) (by decide) rfl ?_
             exact HQ_again (i + 1, A + 4, v, pre ++ [v], some (ra, cap, sp)) ⟨by simp only; omega, hvr, hra, by simp only; rw [← hlen]; omega, by simp only; omega, by simp only; omega⟩ (by simp only; omega) (.cons rfl (.cons rfl (.cons rfl (.cons (congrArg (fun m => some (Value.slice (some ⟨ra, 0, none⟩) m cap)) hlen) (.cons rfl (.cons rfl (.cons rfl (.cons rfl .nil)))))))) (List.Sublist.refl _) (fun _ _ h => h))
            skip)
         skip)
    · try exact Bool.noConfusion h14
      try simp only [ZZ] at h14
      refine HC_exit (HQ_thenE ?_); refine HQ_thenE (HQ_blockE (hK10 _ _ _ _ ?_)); refine HC_seq fun K38 hK38 => ?_; refine HC_seq fun K39 hK39 => ?_
      have hiM : i = TY.length := by omega
      rw [hiM] at hinv
      have hfin := hinv.done
      rw [← ho] at hfin; refine HC_region (HLm rfl ?_); refine HL_r rfl rfl rfl rfl (R_lenRow rfl (fun e => by rw [e] at hrow; exact hrow.1) rfl) ?_; refine HLp rfl (HLm rfl ?_)
      refine HL_case 74 rfl (fun hb40 => ?_) (fun hb40 => ?_) <;> (try simp only [ZZ] at hb40) <;> first | (refine HLm rfl ?_) | (refine HL_skip rfl rfl rfl ?_)
      all_goals first
        | (refine HLm rfl ?_)
        | (refine HL_skip rfl rfl rfl ?_)
      all_goals first
        | (refine HL_r rfl rfl rfl rfl (R_lenBs rfl rfl) ?_)
        | (refine HL_skip rfl rfl rfl ?_)
      all_goals first
        | (refine HLp rfl ?_)
        | (refine HL_skip rfl rfl rfl ?_)
      all_goals first
        | (refine HL_r rfl rfl rfl rfl (R_pickT rfl rfl) ?_)
        | (refine HL_r rfl rfl rfl rfl (R_pickF rfl rfl) ?_)
      all_goals refine HL_nil ?_
      all_goals (
       refine hK39 _ _ _ _ ?_; refine HC_cond rfl (fun h44 => ?_) (fun h44 => ?_)
       · try exact Bool.noConfusion h44
         all_goals try simp only [ZZ] at h44
         all_goals (
          refine HC_seq fun K45 hK45 => HC_region ?_; refine HLm rfl (HLm rfl ?_); refine HL_nil (hK45 _ _ _ _ ?_); refine HC_ret (HQ_thenR ?_); refine HQ_post rfl rfl (.cons (res_tmp rfl) (.cons (res_tmp rfl) .nil)) (fun w1 hs1 => ?_)
          (rw [if_pos (by omega)] at hfin
           subst hfin
           exact ⟨⟨none, rfl, rfl⟩, rfl, hs1.weakL (List.nil_sublist _)⟩)
          skip)
       · try exact Bool.noConfusion h44
         try simp only [ZZ] at h44
         refine HC_skip (hK38 _ _ _ _ ?_); refine HC_seq fun K46 hK46 => HC_region ?_; refine HLm rfl (HLm rfl (HL_r rfl rfl rfl rfl (R_lenBs rfl rfl) ?_)); refine HL_buildSlice (vs := [_]) (zs := [_]) (r := [_]) rfl rfl rfl rfl rfl rfl rfl rfl rfl (by show (madeCells #[_] _).toList = _; rw [made_one]; exact rfl) rfl fun r3 => ?_; refine HL_appendRow (L0 := [_, _]) (xs := pre.map iV) (row := row) (n := pre.length) (sz := 1) (b := 8) (news := [_]) (List.perm_append_comm (l₁ := [_, _])) rfl rfl rfl rfl (known_L (k := 0) rfl) rfl rfl rfl rfl rfl (by decide) rfl rfl rfl (by decide) hrow (by omega) (by omega) fun ra cap sp hra => ?_; refine HLm rfl (HLm rfl ?_); refine HL_nil (hK46 _ _ _ _ ?_); refine HC_ret ?_; refine HQ_post rfl rfl (.cons (res_tmp rfl) (.cons (res_tmp rfl) .nil)) (fun w1 hs1 => ?_)
         (rw [if_neg (by omega)] at hfin
          subst hfin
          have hlen : pre.length + 1 = (pre ++ [s.length]).length := by simp
          rw [iV_app, hlen] at hra; rw [iV_app] at hs1
          exact ⟨⟨some (ra, cap, sp), hra⟩, congrArg (fun m => Ending.returned (Value.tuple #[Value.slice (some ⟨ra, 0, none⟩) m cap, .bool true])) hlen, hs1.weakL ((List.cons_sublist_cons).2 (List.nil_sublist _))⟩)
       skip)
end Go.Proofs.YtlcbfphioeppaaaGreatDoor
namespace Go.Proofs.YtlcbfphioeppaaaGreatDoor
set_option linter.all false
open Go.SL Go.RowKit Go.Shelf
open Go.Proofs (Enters enters_of)
/-! ### layer 8's own getter: rows -/
theorem runG_vr : ∀ {l : List (Gf × BS)}, (∀ q ∈ l, Nonempty (VR (q.1 q.2).1)) → ∃ (vs : List Vl) (E : List (Nat × Obj)), (∀ x ∈ vs, x.In E) ∧ vs.map erV = (runG l).1 ∧ vs.length ≤ l.length
  | [], _ => ⟨[], [], fun x hx => (nomatch hx), rfl, Nat.le_refl _⟩
  | (f, s) :: l, h => by
    obtain ⟨vs, E, h1, h2, h3⟩ := runG_vr (l := l) fun q hq => h q (List.mem_cons_of_mem _ hq)
    obtain ⟨y⟩ := h (f, s) List.mem_cons_self
    rw [runG]
    split
    · exact ⟨[], [], fun x hx => (nomatch hx), rfl, Nat.zero_le _⟩
    · split
      · exact ⟨[], [], fun x hx => (nomatch hx), rfl, Nat.zero_le _⟩
      · refine ⟨y.x :: vs, y.L ++ E, fun x hx => ?_, ?_, ?_⟩
        · rcases List.mem_cons.1 hx with rfl | hx
          · exact y.ok.mono fun q hq => List.mem_append_left _ hq
          · exact (h1 x hx).mono fun q hq => List.mem_append_right _ hq
        · rw [List.map_cons, y.er, h2]
        · simp only [List.length_cons]; omega
theorem seg_one {xs : List Value} {n e : Nat} (h : xs.length = n * 7) : Seg [(0, .cells xs.toArray e (0, 0))] n xs (some (⟨0, 0, none⟩, n)) := ⟨Nat.le_refl _, fun _ => ⟨rfl, _, _, _, List.mem_singleton_self _, by simp⟩⟩
theorem VR_get {R : List (Nat × Obj)} {t : Ty} (ht : t.In R) : chk t 0 = 0 → ∀ s : BS, s.length ≤ 100000 → Nonempty (VR (getT t s).1) := by
  induction ht with
  | @mk k n p ins hk hn hil hs hi ih =>
  intro hc s hl
  obtain ⟨hk8, ho, _, _⟩ := chk_mk hc
  have hsub := chk_sub hc
  have z : ∀ {e : Int}, Nonempty (VR ((v0L, e) : Vl × Int).1) := ⟨⟨v0L, [], v0_in, rfl⟩⟩
  have nm : ∀ {e : Int}, Nonempty (VR ((mkNum (numD s), e) : Vl × Int).1) := by
    obtain ⟨a, b, c, d, hnm⟩ := numD_4 s
    exact ⟨⟨.mk a b c d [] none [] none 0, [], num_in hnm, by rw [erV_mk, erL, hnm]; rfl⟩⟩
  have bt : ∀ {m : Nat} {e : Int}, m ≤ 800000 → Nonempty (VR ((mkBits (unpackB s m), e) : Vl × Int).1) := fun {m e} hm => ⟨⟨.mk 0 0 0 0 (unpackB s m) (some (⟨0, 0, none⟩, m)) [] none 0, _, bits_in' (r := 0) (e := 0) (sp := []) (Nat.le_refl m) (Nat.le_refl m) hm, by rw [erV_mk, erL]; rfl⟩⟩
  have it : ∀ {vs : List Vl} {E : List (Nat × Obj)} {pick e : Int}, (∀ x ∈ vs, x.In E) → vs.length ≤ 1000000 → I64 pick → Nonempty (VR ((mkItems (vs.map erV) pick, e) : Vl × Int).1) := fun {vs E pick e} h1 h2 h3 => ⟨⟨.mk 0 0 0 0 [] none vs (some (⟨0, 0, none⟩, vs.length)) pick, _, items_in (Lr := [(0, .cells (vlsC vs).toArray 0 (0, 0))]) (by omega) (seg_one (vlsC_ln vs)) h1 h3, by rw [erV_mk, erL_map]; rfl⟩⟩
  by_cases hnf : isFix (.mk k n p ins) = true ∧ (s.length : Int) ≠ sizT (.mk k n p ins)
  · rw [g_w hnf]; exact z
  by_cases h1 : k = 1
  · rw [g_1 hnf h1]; exact nm
  by_cases h2 : k = 2
  · rw [g_2 hnf h1 h2]; split
    · exact z
    · exact nm
  by_cases h5 : k = 5
  · rw [g_5 hnf h1 h2 h5]; split
    · exact z
    · exact bt (by subst h5; unfold okForm at ho; simp at ho; omega)
  by_cases h6 : k = 6
  · rw [g_6 hnf h1 h2 h5 h6]; unfold blT; split
    · exact z
    · rename_i hno
      split
      · exact z
      · exact bt (by have := (topB_ok hno).1; omega)
  by_cases h8 : k = 8
  · by_cases hse : s = []
    · rw [g_8n hnf h1 h2 h5 h6 h8 hse]; exact z
    by_cases hb : ins.length ≤ (s.getD 0 0).toNat
    · rw [g_8k hnf h1 h2 h5 h6 h8 hse hb]; exact z
    obtain ⟨x, hx⟩ : ∃ x, ins[(s.getD 0 0).toNat]? = some x := ⟨_, List.getElem?_eq_getElem (by omega)⟩
    have hxm := List.mem_of_getElem? hx
    rw [g_8 hnf h1 h2 h5 h6 h8 hse hx]
    split
    · exact z
    · obtain ⟨y⟩ := ih x hxm (hsub x hxm) (s.drop 1) (by rw [List.length_drop]; omega)
      have := it (vs := [y.x]) (E := y.L) (pick := ((s.getD 0 0).toNat : Int)) (e := 0) (fun z hz => by rw [List.mem_singleton.1 hz]; exact y.ok) (by simp) (by have := u8_lt (s.getD 0 0); unfold I64; omega)
      rw [List.map_singleton, y.er] at this; exact this
  · have hk3 : k = 3 ∨ k = 4 ∨ k = 7 := by omega
    have hmX := inX_many (s := s) hk8 ho hk3
    rw [g_r hnf h1 h2 h5 h6 h8, rowT_eq hmX]
    split
    · exact z
    · rename_i hp0
      have hp0 := Decidable.not_not.1 hp0
      split
      · exact z
      · have hmm : (manyT k n ins s).2 = 0 := Decidable.byContradiction fun hm => hm (by rw [← parts_m hm]; exact hp0)
        have hPl : (psT k n ins s).length ≤ 512 := by unfold psT; rw [pairL_len, tysN_len]; exact (many_ok hk8 ho hk3 hmm).1
        obtain ⟨vs, E, g1, g2, g3⟩ := runG_vr (l := (psT k n ins s).map (gq s)) (fun q hq => by
          obtain ⟨⟨x, f, f2⟩, hm, rfl⟩ := List.mem_map.1 hq
          obtain ⟨i, hi⟩ := List.getElem?_of_mem hm
          have hxm := ps_get (hmX hmm) hi
          exact ih x hxm (hsub x hxm) ((s.take f2).drop f) (by rw [List.length_drop, List.length_take]; omega))
        rw [List.length_map] at g3; rw [← g2]; exact it g1 (by omega) i0
theorem off_pos {s : BS} {H : Nat} : ∀ {ts : List Ty} {a la : Nat} {op : Bool} {os : List Nat}, offL s H ts a la op = some os → 0 < os.length
  | [], _, _, _, _, h => by
    rw [offL] at h
    split at h
    · cases h
    · cases h; exact Nat.one_pos
  | x :: xs, a, la, op, os, h => by
    rw [offL] at h
    split at h
    · exact off_pos h
    · split at h
      · cases h
      · obtain ⟨r, h2, rfl⟩ := Option.map_eq_some_iff.1 h
        exact Nat.succ_pos _
structure RInv (s : BS) (H : Nat) (TY : List Ty) (ps : List (Ty × Nat × Nat)) (os : List Nat) (i A m : Nat) : Prop where
  le : i ≤ TY.length
  at_ : (A : Int) = begL (TY.take i)
  tl : ps.drop i = pairL (TY.drop i) A (os.drop m)
  off : ∃ la op, offL s H (TY.drop i) A la op = some (os.drop m)
section
variable {s : BS} {H : Nat} {TY : List Ty} {ps : List (Ty × Nat × Nat)} {os : List Nat} {i A m : Nat} {x : Ty}
theorem RInv.start (h : offL s H TY 0 H false = some os) : RInv s H TY (pairL TY 0 os) os 0 0 0 := ⟨Nat.zero_le _, rfl, rfl, ⟨H, false, h⟩⟩
theorem none_of {α : Type} {o : Option α} (h : o.isSome = false) : o = none := by
  cases o with
  | none => rfl
  | some _ => cases h
theorem dropG {α : Type} {l r : List α} {i : Nat} {q : α} (h : l.drop i = q :: r) : l[i]? = some q ∧ l.drop (i + 1) = r := by
  have h1 : (l.drop i)[0]? = some q := by rw [h]; rfl
  rw [List.getElem?_drop, Nat.add_zero] at h1; exact ⟨h1, by rw [drop_cons' h1] at h; exact (List.cons.inj h).2⟩
theorem RInv.bound (h : RInv s H TY ps os i A m) (hx : TY[i]? = some x) (hH : begL TY = (H : Int)) : (A : Int) + begT x ≤ H := by
  have e : TY = TY.take i ++ (x :: TY.drop (i + 1)) := by rw [← drop_cons' hx, List.take_append_drop]
  rw [e, begL_app, begL] at hH
  have := begL_nn (TY.drop (i + 1))
  have := h.at_
  omega
theorem RInv.fix (h : RInv s H TY ps os i A m) (hx : TY[i]? = some x) (hf : isFix x = true) (h0 : 0 ≤ sizT x) : ps[i]? = some (x, A, A + (sizT x).toNat) ∧ RInv s H TY ps os (i + 1) (A + (sizT x).toNat) m := by
  have h1 := h.tl
  obtain ⟨la, op, h2⟩ := h.off
  rw [drop_cons' hx, pairL, if_pos hf] at h1; rw [drop_cons' hx, offL, if_pos hf] at h2
  obtain ⟨g1, g2⟩ := dropG h1
  refine ⟨g1, (List.getElem?_eq_some_iff.1 hx).1, ?_, g2, ⟨la, op, h2⟩⟩; rw [take_snoc' hx, begL_app, begL, begL, begT, if_pos hf, ← h.at_]; omega
theorem RInv.var (h : RInv s H TY ps os i A m) (hx : TY[i]? = some x) (hf : isFix x = false) : m + 1 < os.length ∧ ps[i]? = some (x, os.getD m 0, os.getD (m + 1) 0) ∧ RInv s H TY ps os (i + 1) (A + 4) (m + 1) := by
  have hn : ¬ isFix x = true := by rw [hf]; decide
  have h1 := h.tl
  obtain ⟨la, op, h2⟩ := h.off
  rw [drop_cons' hx, pairL, if_neg hn] at h1; rw [drop_cons' hx, offL, if_neg hn] at h2
  split at h2
  · cases h2
  · obtain ⟨r, h3, h4⟩ := Option.map_eq_some_iff.1 h2
    have hp := off_pos h3
    have hlen : (os.drop m).length = r.length + 1 := by rw [← h4]; rfl
    rw [List.length_drop] at hlen
    have ht : (os.drop m).tail = os.drop (m + 1) := by rw [List.tail_drop]
    have e0 : (os.drop m).getD 0 0 = os.getD m 0 := by rw [List.getD_eq_getElem?_getD, List.getD_eq_getElem?_getD, List.getElem?_drop, Nat.add_zero]
    have e1 : (os.drop m).getD 1 0 = os.getD (m + 1) 0 := by rw [List.getD_eq_getElem?_getD, List.getD_eq_getElem?_getD, List.getElem?_drop]
    rw [ht, e0, e1] at h1
    obtain ⟨g1, g2⟩ := dropG h1
    refine ⟨by omega, g1, (List.getElem?_eq_some_iff.1 hx).1, ?_, g2, ⟨leV ((s.drop A).take 4), true, ?_⟩⟩
    · rw [take_snoc' hx, begL_app, begL, begL, begT, if_neg hn, ← h.at_]; omega
    · rw [h3, ← ht, ← h4]; rfl
end
theorem parts_off {k n : Int} {ins : List Ty} {s : BS} (h0 : (manyT k n ins s).2 = 0) : partsT k n ins s = match offR k ins s (manyT k n ins s).1 with | none => ([], 2) | some os => (os, 0) := by
  unfold partsT offR
  rw [if_neg (by rw [h0]; decide)]
  by_cases h : (s.length : Int) < begL (tysN k ins (manyT k n ins s).1)
  · rw [if_pos h, if_pos h]
  · rw [if_neg h, if_neg h]
    generalize offL s (begL (tysN k ins (manyT k n ins s).1)).toNat (tysN k ins (manyT k n ins s).1) 0 (begL (tysN k ins (manyT k n ins s).1)).toNat false = o; cases o <;> rfl
theorem offR_some {k : Int} {ins : List Ty} {s : BS} {M : Nat} {os : List Nat} (h : offR k ins s M = some os) : begL (tysN k ins M) ≤ (s.length : Int) ∧ offL s (begL (tysN k ins M)).toNat (tysN k ins M) 0 (begL (tysN k ins M)).toNat false = some os := by
  unfold offR at h
  split at h
  · cases h
  · exact ⟨by omega, h⟩
theorem os_at (os : List Nat) {j : Nat} (h : j < os.length) (sp : List Value) : nth (os.map iV ++ sp) j = some (.int .i64 ((os.getD j 0 : Nat) : Int)) := by
  rw [nth_eq, List.getElem?_append_left (by rw [List.length_map]; exact h), List.getElem?_map, List.getD_eq_getElem?_getD, List.getElem?_eq_getElem h]; rfl
open Classical in
theorem perm_k {α : Type} (a b c d e f g : α) (A E Y : List α) : (a :: b :: c :: d :: e :: f :: g :: ((A ++ E) ++ Y)).Perm (A ++ (a :: b :: c :: d :: e :: f :: g :: (E ++ Y))) := by
  rw [List.perm_iff_count]; intro x; simp only [List.count_append, List.count_cons]; omega
open Classical in
theorem perm_l {α : Type} (a b c d e f g h : α) (F : List α) : (a :: b :: c :: d :: e :: f :: g :: h :: F).Perm (b :: c :: d :: e :: f :: g :: h :: a :: F) := by
  rw [List.perm_iff_count]; intro x; simp only [List.count_cons]; omega
set_option maxRecDepth 20000 in
set_option maxHeartbeats 2000000 in
theorem T_rrow {R : List (Nat × Obj)} {k n : Int} {p : Pl} {ins : List Ty} {s : BS} (ht : Ty.In R (.mk k n p ins)) (hc : chk (.mk k n p ins) 0 = 0) (hk3 : k = 3 ∨ k = 4 ∨ k = 7) (hl : s.length ≤ 100000)
    (hrec : ∀ x ∈ ins, ∀ s : BS, s.length ≤ 100000 → PureT (α := VR (getT x s).1) Tryz.prog 45 [x.val, strV s].toArray (fun y => gotV y.x (getT x s).2) [] (fun y => y.L) R) :
    PureT (α := VR (rowT k n ins (getF ins) s).1) Tryz.prog 90 [Ty.val (.mk k n p ins), strV s].toArray (fun y => gotV y.x (rowT k n ins (getF ins) s).2) [] (fun y => y.L) R := by
  obtain ⟨hk8, ho, _, _⟩ := chk_mk hc
  have h8 : k ≠ 8 := by omega
  have hmX := inX_many (s := s) hk8 ho hk3
  have hmk := many_ok (s := s) hk8 ho hk3
  have hgr := rowT_eq hmX
  have hit := S_ritems ht hc hk3 hl
  obtain ⟨M, hM⟩ : ∃ M, M = (manyT k n ins s).1 := ⟨_, rfl⟩
  obtain ⟨eM, heM⟩ : ∃ e, e = (manyT k n ins s).2 := ⟨_, rfl⟩
  rw [← hM, ← heM] at hit
  obtain ⟨TY, hTY⟩ : ∃ TY, TY = tysN k ins M := ⟨_, rfl⟩
  have hTl : TY.length = M := by rw [hTY, tysN_len]
  have hbl := begL_nn TY
  obtain ⟨H, hH⟩ : ∃ H, H = (begL TY).toNat := ⟨_, rfl⟩
  have hHi : begL TY = (H : Int) := by omega
  obtain ⟨OR, hOR⟩ : ∃ OR, offR k ins s M = OR := ⟨_, rfl⟩
  refine pureT_of_HC Tryz.func90 rfl rfl fun w => ?_; refine HC_seq fun K1 hK1 => HC_region ?_; refine HL_box (cs := #[_, _, _]) rfl rfl rfl rfl fun r1 => ?_; refine HL_alloc (cs := #[_, _, _, _, _, _, _, _]) rfl rfl rfl rfl fun r2 => ?_; refine HL_nil (hK1 _ _ _ _ ?_); refine HC_seq fun K2 hK2 => HC_region ?_; refine HL_r rfl rfl rfl rfl (R_loadA (vs := [_, _, _]) rfl (known_L (k := 1) rfl) rfl rfl rfl rfl) ?_; refine HLm rfl (HL_callR rfl rfl rfl (enters_of Tryz.func137 (by kernel_rfl) rfl) hit (fun q hq => Or.inr hq) ?_); refine HLm rfl (HL_r rfl rfl rfl rfl (R_extract rfl rfl) (HL_r rfl rfl rfl rfl (R_extract rfl rfl) ?_)); refine HLm rfl (HLm rfl ?_); refine HL_nil (hK2 _ _ _ _ ?_); refine HC_seq fun K3 hK3 => ?_; refine HC_seq fun K4 hK4 => HC_region ?_; refine HLm rfl (HLp rfl ?_); refine HL_nil (hK4 _ _ _ _ ?_); refine HC_cond rfl (fun h5 => ?_) (fun h5 => ?_)
  · try exact Bool.noConfusion h5
    try simp only [ZZ] at h5
    refine HC_seq fun K6 hK6 => HC_region ?_; refine HLm rfl (HL_r rfl rfl rfl rfl (R_build (r := [_, _, _, _, _, _, _, _]) rfl rfl) ?_)
    refine HL_storeA (k := 0) (n := 8) (cs' := #[_, _, _, _, _, _, _, _]) (vs := #[_, _, _, _, _, _, _, _]) rfl rfl rfl rfl rfl rfl rfl (by exact Nat.le_of_ble_eq_true rfl) rfl (by first | (simp only [List.set_cons_zero, List.set_cons_succ]; exact rfl) | exact rfl) ?_; refine HL_nil (hK6 _ _ _ _ ?_); refine HC_ret (HQ_thenR ?_); refine HQ_post rfl rfl (.cons (res_cellA (vs := [_, _, _, _, _, _, _, _]) rfl (known_L (k := 0) rfl) rfl rfl) .nil) (fun w1 hs1 => ?_)
    (have e1 : rowT k n ins (getF ins) s = (v0L, eM) := by unfold rowT; rw [if_pos (by rw [← heM]; assumption), ← heM]
     exact ⟨⟨v0L, [], v0_in, by rw [e1]; rfl⟩, congrArg (fun z => Ending.returned (gotV v0L z)) (congrArg Prod.snd e1).symm, hs1.weakL (List.nil_sublist _)⟩)
  · try exact Bool.noConfusion h5
    try simp only [ZZ] at h5
    refine HC_skip (hK3 _ _ _ _ ?_); refine HC_seq fun K7 hK7 => ?_
    have hm0 : (manyT k n ins s).2 = 0 := by omega
    have hM5 := (hmk hm0).1
    rw [← hM] at hM5
    have hX := hmX hm0
    rw [← hM] at hX
    have hoff := T_roffs (M := M) ht h8 (by omega) hX hl
    rw [hOR] at hoff
    have hpo := parts_off hm0
    rw [← hM, hOR] at hpo; refine HC_region (HL_r rfl rfl rfl rfl (R_loadA (vs := [_, _, _]) rfl (known_L (k := 1) rfl) rfl rfl rfl rfl) ?_); refine HLm rfl (HLm rfl (HL_callRE (Rl := R) rfl rfl rfl (enters_of Tryz.func138 (by kernel_rfl) rfl) hoff (fun q hq => Or.inr hq) fun x => ?_))
    obtain ⟨orow, horow⟩ := x
    refine HL_perm List.perm_append_comm ?_; refine HLm rfl (HL_r rfl rfl rfl rfl (R_extract rfl rfl) (HL_r rfl rfl rfl rfl (R_extract rfl rfl) ?_)); refine HLm rfl (HLm rfl ?_); refine HL_nil (hK7 _ _ _ _ ?_); refine HC_seq fun K8 hK8 => ?_; refine HC_seq fun K9 hK9 => HC_region ?_; refine HLm rfl (HLp rfl ?_); refine HL_nil (hK9 _ _ _ _ ?_); refine HC_cond rfl (fun h10 => ?_) (fun h10 => ?_)
    · try exact Bool.noConfusion h10
      try simp only [ZZ] at h10
      refine HC_seq fun K11 hK11 => HC_region ?_; refine HL_r rfl rfl rfl rfl (R_build (r := [_, _, _, _, _, _, _, _]) rfl rfl) ?_
      refine HL_storeA (k := 0) (n := 8) (cs' := #[_, _, _, _, _, _, _, _]) (vs := #[_, _, _, _, _, _, _, _]) rfl rfl rfl rfl rfl rfl rfl (by exact Nat.le_of_ble_eq_true rfl) rfl (by first | (simp only [List.set_cons_zero, List.set_cons_succ]; exact rfl) | exact rfl) ?_; refine HL_nil (hK11 _ _ _ _ ?_); refine HC_ret (HQ_thenR ?_); refine HQ_post rfl rfl (.cons (res_cellA (vs := [_, _, _, _, _, _, _, _]) rfl (known_L (k := 0) rfl) rfl rfl) .nil) (fun w1 hs1 => ?_)
      (obtain rfl := none_of ‹OR.isSome = false›
       simp only at hpo; rw [hpo, if_pos (by decide)] at hgr
       have e1 : rowT k n ins (getF ins) s = (v0L, 2) := hgr
       exact ⟨⟨v0L, [], v0_in, by rw [e1]; rfl⟩, congrArg (fun z => Ending.returned (gotV v0L z)) (congrArg Prod.snd e1).symm, hs1.weakL (List.nil_sublist _)⟩)
    · try exact Bool.noConfusion h10
      try simp only [ZZ] at h10
      refine HC_skip (hK8 _ _ _ _ ?_); refine HC_seq fun K12 hK12 => ?_
      obtain ⟨os, rfl⟩ := Option.isSome_iff_exists.1 (show OR.isSome = true by assumption)
      obtain ⟨hHs, hofs⟩ := offR_some hOR
      rw [← hTY] at hHs; rw [← hTY, ← hH] at hofs; simp only at hpo
      have hos := off_pos hofs
      obtain ⟨ro, co, so, rfl⟩ := row_some horow hos
      change rowOk 1 os.length (os.map iV) (some (ro, co, so)) at horow
      have hpse : psT k n ins s = pairL TY 0 os := by unfold psT; rw [hpo, ← hM, ← hTY]
      have hp0 : (partsT k n ins s).2 = 0 := by rw [hpo]
      rw [if_neg (by rw [hp0]; decide)] at hgr
      have hpsl : (psT k n ins s).length = M := by rw [hpse, pairL_len, hTl]
      refine HC_region (HL_r rfl rfl rfl rfl (R_build (r := [_, _, _, _, _, _, _]) rfl rfl) (HL_alloc (cs := #[_, _, _, _, _, _, _]) rfl rfl rfl rfl fun r3 => ?_))
      refine HL_storeA (k := 0) (n := 7) (cs' := #[_, _, _, _, _, _, _]) (vs := #[_, _, _, _, _, _, _]) rfl rfl rfl rfl rfl rfl rfl (by exact Nat.le_of_ble_eq_true rfl) rfl (by first | (simp only [List.set_cons_zero, List.set_cons_succ]; exact rfl) | exact rfl) ?_; refine HL_nil (hK12 _ _ _ _ ?_); refine HC_seq fun K13 hK13 => HC_region ?_; refine HLm rfl ?_; refine HL_nil (hK13 _ _ _ _ ?_); refine HC_seq fun K14 hK14 => HC_region ?_; refine HLm rfl ?_; refine HL_nil (hK14 _ _ _ _ ?_); refine HC_seq fun K15 hK15 => ?_; refine HC_seq fun K16 hK16 => HC_region ?_; refine HLm rfl ?_; refine HL_nil (hK16 _ _ _ _ ?_); refine HC_block ?_; rw [hpse] at hgr; refine HC_loop (σ := Nat × Nat × Nat × List Vl × Row × List (Nat × Obj)) (fun q => q.1 ≤ M ∧ RInv s H TY (pairL TY 0 os) os q.1 q.2.1 q.2.2.1 ∧ q.2.1 ≤ H ∧ q.2.2.1 ≤ q.1 ∧ q.1 = q.2.2.2.1.length ∧ rowOk 7 q.1 (vlsC q.2.2.2.1) q.2.2.2.2.1 ∧ (∀ x ∈ q.2.2.2.1, Vl.In q.2.2.2.2.2 x) ∧ runG (((pairL TY 0 os).take q.1).map (gq s)) = (q.2.2.2.1.map erV, 0)) (fun q => [(1, strV s), (2, pt0 r1), (4, pt0 r2), (5, .int .i64 (M : Int)), (7, rowV os.length (some (ro, co, so))), (9, pt0 r3), (10, .int .i64 (q.2.1 : Int)), (11, .int .i64 (q.2.2.1 : Int)), (12, .int .i64 (q.1 : Int))]) (fun q => (r3, .cells #[.int .u64 0, .int .u64 0, .int .u64 0, .int .u64 0, .slice none 0 0, rowV q.1 q.2.2.2.2.1, .int .i64 0] 31 (0, 0)) :: (r2, .cells #[.int .u64 0, .int .u64 0, .int .u64 0, .int .u64 0, .slice none 0 0, .slice none 0 0, .int .i64 0, .int .i64 0] 61 (0, 0)) :: tBlk r1 (.mk k n p ins) :: (ro, .cells (os.map iV ++ so).toArray 3 (0, 0)) :: (rowL 31 (vlsC q.2.2.2.1) q.2.2.2.2.1 ++ q.2.2.2.2.2)) (fun _ _ _ => True) (fun q => M - q.1) (0, 0, 0, [], none, []) ⟨Nat.zero_le _, RInv.start hofs, Nat.zero_le _, Nat.le_refl _, rfl, ⟨rfl, rfl⟩, fun x hx => (nomatch hx), rfl⟩ (.cons rfl (.cons rfl (.cons rfl (.cons rfl (.cons rfl (.cons rfl (.cons rfl (.cons rfl (.cons rfl .nil))))))))) (List.Sublist.refl _) (fun _ _ h => h) ?_; rintro ⟨i, A, m, vs, row, E⟩ ⟨hi1, hinv, hAH, hmi, hvl, hrow, hin, hrun⟩; simp only at hi1 hinv hAH hmi hvl hrow hin hrun; change HC _ _ [(1, strV s), (2, pt0 r1), (4, pt0 r2), (5, .int .i64 (M : Int)), (7, .slice (some ⟨ro, 0, none⟩) os.length co), (9, pt0 r3), (10, .int .i64 (A : Int)), (11, .int .i64 (m : Int)), (12, .int .i64 (i : Int))] ((r3, .cells #[.int .u64 0, .int .u64 0, .int .u64 0, .int .u64 0, .slice none 0 0, rowV i row, .int .i64 0] 31 (0, 0)) :: (r2, .cells #[.int .u64 0, .int .u64 0, .int .u64 0, .int .u64 0, .slice none 0 0, .slice none 0 0, .int .i64 0, .int .i64 0] 61 (0, 0)) :: tBlk r1 (.mk k n p ins) :: (ro, .cells (os.map iV ++ so).toArray 3 (0, 0)) :: (rowL 31 (vlsC vs) row ++ E)) _ _ _; refine HC_seq fun K17 hK17 => ?_; refine HC_seq fun K18 hK18 => HC_region ?_; refine HLm rfl (HLm rfl (HLp rfl ?_)); refine HL_nil (hK18 _ _ _ _ ?_); refine HC_cond rfl (fun h19 => ?_) (fun h19 => ?_)
      · try exact Bool.noConfusion h19
        try simp only [ZZ] at h19
        refine HC_skip (hK17 _ _ _ _ ?_); refine HC_seq fun K20 hK20 => HC_block ?_; refine HC_seq fun K21 hK21 => ?_
        have hii : i < M := by omega
        have hti1 := ht.sub _ (inTy_get (hX i hii)).2
        have hin1 := S_ref_In (v := v0L) (i := i) (y := inTy k 0 ins i) ht (v0_in.mono (R' := R) (fun q hq => absurd hq List.not_mem_nil)) (fun e => absurd e h8) (inTy_get (hX i hii)).1
        have hxx : TY[i]? = some (inTy k 0 ins i) := by rw [hTY]; unfold tysN; rw [List.getElem?_map, List.getElem?_range hii]; rfl
        have hbd := hinv.bound hxx hHi
        have hbt := begT_le (inTy k 0 ins i)
        have hbe := begT_eq (inTy k 0 ins i)
        obtain ⟨y, hy⟩ : ∃ y : Nat, begT (inTy k 0 ins i) = (y : Int) := ⟨_, (Int.toNat_of_nonneg (by omega)).symm⟩
        rw [hy] at hbd hbt hbe; refine HC_region (HL_r rfl rfl rfl rfl (R_loadA (vs := [_, _, _]) rfl (known_L (k := 2) rfl) rfl rfl rfl rfl) (HL_r rfl rfl rfl rfl (R_build (r := [_, _, _, _, _, _, _]) rfl rfl) ?_)); refine HLm rfl (HL_callR rfl rfl rfl (enters_of Tryz.func77 (by kernel_rfl) rfl) hin1 (fun q hq => Or.inr hq) (HL_alloc (cs := #[.int .i64 0, .int .i64 0, .slice none 0 0]) rfl rfl rfl rfl fun r9 => ?_)); refine HL_storeArr (k := 0) (n := 3) (ys := (inTy k 0 ins i).cells) rfl rfl rfl rfl rfl (inTy k 0 ins i).len rfl (inTy k 0 ins i).one rfl ?_; refine HL_nil (hK21 _ _ _ _ ?_); refine HC_seq fun K22 hK22 => HC_region ?_; refine HLm rfl ?_; refine HL_nil (hK22 _ _ _ _ ?_); refine HC_seq fun K23 hK23 => ?_; refine HC_seq fun K24 hK24 => HC_region ?_; refine HL_r rfl rfl rfl rfl (R_loadArr (xs := (inTy k 0 ins i).cells) (n := 3) rfl (known_L (k := 0) rfl) rfl rfl (inTy k 0 ins i).len) ?_; refine HL_callR rfl rfl rfl (enters_of Tryz.func78 (by kernel_rfl) rfl) (S_ref_Fixed hti1) (fun q hq => Or.inr hq) ?_; refine HL_nil (hK24 _ _ _ _ ?_); refine HC_cond rfl (fun h25 => ?_) (fun h25 => ?_)
        · try exact Bool.noConfusion h25
          try simp only [ZZ] at h25
          refine HC_seq fun K26 hK26 => ?_
          have hif : isFix (inTy k 0 ins i) = true := ‹_›
          rw [if_pos hif] at hbe
          have hsz1 := S_ref_Size hti1
          unfold sizeT at hsz1
          rw [if_pos hif, ← hbe] at hsz1
          obtain ⟨hq, hrv⟩ := hinv.fix hxx hif (by omega)
          rw [show (sizT (inTy k 0 ins i)).toNat = y by omega] at hq hrv
          obtain ⟨f, hfA⟩ : ∃ f, f = A := ⟨_, rfl⟩
          obtain ⟨f2, hf2⟩ : ∃ f2, f2 = A + y := ⟨_, rfl⟩
          obtain ⟨A2, hA2⟩ : ∃ A2, A2 = A + y := ⟨_, rfl⟩
          obtain ⟨m2, hm2⟩ : ∃ m2, m2 = m := ⟨_, rfl⟩
          rw [← hf2, ← hfA] at hq; rw [← hA2, ← hm2] at hrv
          have hAH2 : A2 ≤ H := by omega
          obtain ⟨_, hft, htl⟩ := ps_ok hp0 (List.mem_of_getElem? (hpse ▸ hq))
          simp only at hft htl; refine HC_region (HL_r rfl rfl rfl rfl (R_loadArr (xs := (inTy k 0 ins i).cells) (n := 3) rfl (known_L (k := 0) rfl) rfl rfl (inTy k 0 ins i).len) (HL_callR rfl rfl rfl (enters_of Tryz.func86 (by kernel_rfl) rfl) hsz1 (fun q hq => Or.inr hq) ?_)); refine HLm rfl ?_; refine HL_nil (hK26 _ _ _ _ ?_); refine HC_seq fun K27 hK27 => HC_region ?_; refine HLm rfl (HLm rfl ?_); refine HLm rfl (HLm rfl (HLp rfl ?_)); refine HL_as (show _ = Value.int .i64 ((f2 : Nat)) from congrArg (Value.int .i64) (by rw [wrap_i64 (by omega) (by omega)]; omega)) ?_; refine HL_r rfl rfl rfl rfl (R_sliceBs (kl := some (.i64, (A : Int))) (kh := some (.i64, (f2 : Int))) (m := A) (n := f2) rfl rfl rfl rfl rfl rfl (by omega) (by omega) (show _ = (s.take f2).drop f from by rw [hfA])) ?_; refine HLm rfl ?_; refine HL_nil (hK27 _ _ _ _ ?_); refine HC_region (HLm rfl ?_); refine HLm rfl (HLp rfl ?_); refine HL_as (show _ = Value.int .i64 ((A2 : Nat)) from congrArg (Value.int .i64) (by rw [wrap_i64 (by omega) (by omega)]; omega)) ?_; refine HLm rfl ?_; refine HL_nil (hK23 _ _ _ _ ?_); refine HC_seq fun K28 hK28 => ?_
          have hxm := (inTy_get (hX i hii)).2
          have ihx := hrec _ hxm ((s.take f2).drop f) (by rw [List.length_drop, List.length_take]; omega)
          have hbd0 := getT_bad (inTy k 0 ins i) ((s.take f2).drop f)
          obtain ⟨ge, hge⟩ : ∃ g, (getT (inTy k 0 ins i) ((s.take f2).drop f)).2 = g := ⟨_, rfl⟩
          rw [hge] at ihx; refine HC_region (HL_r rfl rfl rfl rfl (R_loadArr (xs := (inTy k 0 ins i).cells) (n := 3) rfl (known_L (k := 0) rfl) rfl rfl (inTy k 0 ins i).len) ?_); refine HLm rfl (HL_callRE (Rl := R) rfl rfl rfl (enters_of Tryz.func45 (by kernel_rfl) rfl) ihx (fun q hq => Or.inr hq) fun y => (HL_perm List.perm_append_comm ?_))
          obtain ⟨⟨ya, yb, yc, yd, ybits, ypb, yitems, ypi, ypick⟩, yL, yok, yer⟩ := y
          refine HL_as (show gotV (Vl.mk ya yb yc yd ybits ypb yitems ypi ypick) ge = .agg #[uV ya, uV yb, uV yc, uV yd, plV ybits.length ypb, plV yitems.length ypi, .int .i64 ypick, .int .i64 ge] from rfl) ?_; refine HL_alloc (cs := #[_, _, _, _, _, _, _, _]) rfl rfl rfl rfl fun r4 => ?_
          refine HL_storeA (k := 0) (n := 8) (cs' := #[_, _, _, _, _, _, _, _]) (vs := #[_, _, _, _, _, _, _, _]) rfl rfl rfl rfl rfl rfl rfl (by exact Nat.le_of_ble_eq_true rfl) rfl (by first | (simp only [List.set_cons_zero, List.set_cons_succ]; exact rfl) | exact rfl) ?_; refine HL_nil (hK28 _ _ _ _ ?_); refine HC_seq fun K29 hK29 => ?_; refine HC_seq fun K30 hK30 => HC_region ?_
          refine HL_r rfl rfl rfl rfl (R_fieldAddr rfl rfl (by first | (simp only [Nat.zero_add, Nat.reduceAdd, Nat.reduceMul, Nat.zero_mul, Nat.mul_one, Nat.add_zero]; exact rfl) | exact rfl)) ?_; refine HL_r rfl rfl rfl rfl (R_load rfl (known_L (k := 0) rfl) rfl rfl) ?_; refine HLp rfl ?_; refine HL_nil (hK30 _ _ _ _ ?_); refine HC_cond rfl (fun h31 => ?_) (fun h31 => ?_)
          · try exact Bool.noConfusion h31
            try simp only [ZZ] at h31
            refine HC_seq fun K32 hK32 => HC_region ?_
            refine HL_r rfl rfl rfl rfl (R_fieldAddr rfl rfl (by first | (simp only [Nat.zero_add, Nat.reduceAdd, Nat.reduceMul, Nat.zero_mul, Nat.mul_one, Nat.add_zero]; exact rfl) | exact rfl)) ?_; refine HL_r rfl rfl rfl rfl (R_load rfl (known_L (k := 0) rfl) rfl rfl) ?_; refine HL_r rfl rfl rfl rfl (R_build (r := [_, _, _, _, _, _, _, _]) rfl rfl) ?_
            refine HL_storeA (k := 3) (n := 8) (cs' := #[_, _, _, _, _, _, _, _]) (vs := #[_, _, _, _, _, _, _, _]) rfl rfl rfl rfl rfl rfl rfl (by exact Nat.le_of_ble_eq_true rfl) rfl (by first | (simp only [List.set_cons_zero, List.set_cons_succ]; exact rfl) | exact rfl) ?_; refine HL_nil (hK32 _ _ _ _ ?_); refine HC_ret (HQ_thenR ?_); refine HQ_blockR (HQ_thenR ?_); refine HQ_thenR (HQ_blockR (HQ_thenR ?_)); refine HQ_post rfl rfl (.cons (res_cellA (vs := [_, _, _, _, _, _, _, _]) rfl (known_L (k := 3) rfl) rfl rfl) .nil) (fun w1 hs1 => ?_)
            (have hg0 : ge ≠ 0 := by assumption
             have e1 : (pairL TY 0 os).map (gq s) = ((pairL TY 0 os).take i).map (gq s) ++ gq s (inTy k 0 ins i, f, f2) :: ((pairL TY 0 os).drop (i + 1)).map (gq s) := by rw [← List.map_cons, ← drop_cons' hq, ← List.map_append, List.take_append_drop]
             have e2 := runG_bad (r := ((pairL TY 0 os).drop (i + 1)).map (gq s)) (f := getT (inTy k 0 ins i)) (s := (s.take f2).drop f) hrun (by rw [hge]; exact hg0)
             have e3 : (runG ((pairL TY 0 os).map (gq s))).2 = ge := by rw [e1]; exact e2.trans hge
             rw [e3, if_pos hg0] at hgr
             exact ⟨⟨v0L, [], v0_in, by rw [hgr]; rfl⟩, congrArg (fun z => Ending.returned (gotV v0L z)) (congrArg Prod.snd hgr).symm, hs1.weakL (List.nil_sublist _)⟩)
          · try exact Bool.noConfusion h31
            try simp only [ZZ] at h31
            refine HC_skip (hK29 _ _ _ _ ?_); refine HC_region ?_
            refine HL_r rfl rfl rfl rfl (R_fieldAddr rfl rfl (by first | (simp only [Nat.zero_add, Nat.reduceAdd, Nat.reduceMul, Nat.zero_mul, Nat.mul_one, Nat.add_zero]; exact rfl) | exact rfl)) ?_; refine HL_r rfl rfl rfl rfl (R_load (v := rowV i row) rfl (known_L (k := 2) rfl) rfl rfl) ?_
            refine HL_r rfl rfl rfl rfl (R_fieldAddr rfl rfl (by first | (simp only [Nat.zero_add, Nat.reduceAdd, Nat.reduceMul, Nat.zero_mul, Nat.mul_one, Nat.add_zero]; exact rfl) | exact rfl)) ?_; refine HL_r rfl rfl rfl rfl (R_loadA (vs := [_, _, _, _, _, _, _]) rfl (known_L (k := 0) rfl) rfl rfl rfl rfl) ?_; refine HL_buildSlice (vs := [_]) (zs := [_, _, _, _, _, _, _]) (r := [_, _, _, _, _, _, _]) rfl rfl rfl rfl rfl rfl rfl rfl rfl (by rw [made_list]; exact rfl) rfl fun r5 => ?_; refine HL_perm (perm_k ..) ?_; refine HL_appendRow (L0 := _ :: _ :: _ :: _ :: _ :: _ :: _ :: (E ++ yL)) (xs := vlsC vs) (row := row) (n := i) (sz := 7) (b := 88) (news := [_, _, _, _, _, _, _]) (List.Perm.refl _) rfl rfl rfl rfl (known_L (k := 0) rfl) rfl rfl rfl rfl rfl (by decide) rfl rfl rfl (by decide) hrow (by omega) (by omega) fun ra cap sp hra => ?_
            refine HL_r rfl rfl rfl rfl (R_fieldAddr rfl rfl (by first | (simp only [Nat.zero_add, Nat.reduceAdd, Nat.reduceMul, Nat.zero_mul, Nat.mul_one, Nat.add_zero]; exact rfl) | exact rfl)) ?_; refine HL_store (k := 4) (cs' := #[.int .u64 0, .int .u64 0, .int .u64 0, .int .u64 0, .slice none 0 0, rowV (i + 1) (some (ra, cap, sp)), .int .i64 0]) rfl rfl rfl rfl rfl rfl rfl rfl rfl rfl ?_; refine HL_nil ?_; refine HQ_blockN (hK20 _ _ _ _ ?_); refine HC_region (HLm rfl ?_)
            refine HLp rfl ?_; refine HL_as (show _ = Value.int .i64 ((i + 1 : Nat) : Int) from by rw [wrap_i64 (by omega) (by omega)]; congr 1 <;> omega) ?_; refine HLm rfl (HL_nil (HQ_then ?_))
            have hsn : ((pairL TY 0 os).take (i + 1)).map (gq s) = ((pairL TY 0 os).take i).map (gq s) ++ [gq s (inTy k 0 ins i, f, f2)] := by rw [take_snoc' hq, List.map_append]; rfl
            have hgy : getT (inTy k 0 ins i) ((s.take f2).drop f) = (erV (Vl.mk ya yb yc yd ybits ypb yitems ypi ypick), 0) := Prod.ext yer.symm (hge.trans (by omega))
            have hvc : vlsC vs ++ Vl.cells (Vl.mk ya yb yc yd ybits ypb yitems ypi ypick) = vlsC (vs ++ [Vl.mk ya yb yc yd ybits ypb yitems ypi ypick]) := by unfold vlsC; rw [List.flatMap_append]; simp
            refine HQ_perm' (perm_l ..) ?_
            exact HQ_again (i + 1, A2, m2, vs ++ [Vl.mk ya yb yc yd ybits ypb yitems ypi ypick], some (ra, cap, sp), E ++ yL) ⟨by simp only; omega, hrv, hAH2, by simp only; omega, by simp only [List.length_append, List.length_singleton]; omega, by simp only; rw [← hvc]; exact hra, fun z hz => by rcases List.mem_append.1 hz with hz | hz; exact (hin z hz).mono (fun q hq => List.mem_append_left _ hq); rw [List.mem_singleton.1 hz]; exact yok.mono (fun q hq => List.mem_append_right _ hq), by simp only; rw [hsn, List.map_append]; exact runG_snoc hrun hgy⟩ (by simp only; omega) (.cons rfl (.cons rfl (.cons rfl (.cons rfl (.cons rfl (.cons rfl (.cons rfl (.cons (congrArg (fun z : Nat => some (Value.int .i64 (z : Int))) hm2.symm) (.cons rfl .nil))))))))) (by simp only; rw [← hvc]; exact .cons _ (.cons _ (.cons _ (List.Sublist.refl _)))) (fun _ _ h => h)
        · try exact Bool.noConfusion h25
          try simp only [ZZ] at h25
          refine HC_seq fun K33 hK33 => ?_
          have hif : isFix (inTy k 0 ins i) = false := ‹_›
          rw [hif, if_neg (by decide)] at hbe
          obtain ⟨hml, hq, hrv⟩ := hinv.var hxx hif
          obtain ⟨f, hf1⟩ : ∃ f, f = os.getD m 0 := ⟨_, rfl⟩
          obtain ⟨f2, hf2⟩ : ∃ f2, f2 = os.getD (m + 1) 0 := ⟨_, rfl⟩
          obtain ⟨A2, hA2⟩ : ∃ A2, A2 = A + 4 := ⟨_, rfl⟩
          obtain ⟨m2, hm2⟩ : ∃ m2, m2 = m + 1 := ⟨_, rfl⟩
          rw [← hf1, ← hf2] at hq; rw [← hA2, ← hm2] at hrv
          have hAH2 : A2 ≤ H := by omega
          obtain ⟨_, hft, htl⟩ := ps_ok hp0 (List.mem_of_getElem? (hpse ▸ hq))
          simp only at hft htl
          refine HC_drawB [] [(0, .pure), (1, .pure), (2, .pure), (3, .pure), (5, .pure), (6, .pure), (7, .pure), (8, .pure), (10, .pure)] 11 [0, 1, 2, 3, 4, 5, 6, 7, 8, 9, 10] (by kernel_rfl) (by kernel_rfl) (by first | exact (fun _ h => absurd h List.not_mem_nil) | simp [SubS] | (intro p hp; simp [hp])) ?_; refine HB_p (k := 0) rfl rfl rfl rfl rfl (fun _ hS => (R_move rfl)) ?_; refine HB_p (k := 1) rfl rfl rfl rfl rfl (fun _ hS => (R_move rfl)) ?_; refine HB_p (k := 2) rfl rfl rfl rfl rfl (fun _ hS => (R_move rfl)) ?_; refine HB_p (k := 3) rfl rfl rfl rfl rfl (fun _ _ => R_indexS (j := m) (m := 1) (off' := m) rfl rfl rfl rfl (by omega) (by omega) (by omega)) ?_; refine HB_r (k := 4) rfl rfl rfl rfl rfl (R_load (v := .int .i64 (f : Int)) rfl (known_L (k := 4) rfl) rfl (by rw [hf1]; exact os_at os (j := m) (by omega) so)) ?_; refine HB_p (k := 5) rfl rfl rfl rfl rfl (fun _ hS => (R_move rfl)) ?_; refine HB_p (k := 6) rfl rfl rfl rfl rfl (fun _ hS => (R_move rfl)) ?_; refine HB_p (k := 7) rfl rfl rfl rfl rfl (fun _ _ => (R_pure rfl rfl rfl)) ?_; refine HB_as (show _ = Value.int .i64 ((m + 1 : Nat) : Int) from congrArg (Value.int .i64) (by rw [wrap_i64 (by omega) (by omega)]; omega)) ?_; refine HB_p (k := 8) rfl rfl rfl rfl rfl (fun _ _ => R_indexS (j := m + 1) (m := 1) (off' := m + 1) rfl rfl rfl rfl (by omega) (by omega) (by omega)) ?_; refine HB_r (k := 9) rfl rfl rfl rfl rfl (R_load (v := .int .i64 (f2 : Int)) rfl (known_L (k := 4) rfl) rfl (by rw [hf2]; exact os_at os (j := m + 1) (by omega) so)) ?_; refine HB_p (k := 10) rfl rfl rfl rfl rfl (fun _ _ => R_sliceBs (kl := some (.i64, (f : Int))) (kh := some (.i64, (f2 : Int))) (m := f) (n := f2) rfl rfl rfl rfl rfl rfl (by omega) (by omega) rfl) ?_; refine HB_end ?_; refine HLm rfl ?_; refine HL_nil (hK33 _ _ _ _ ?_); refine HC_seq fun K34 hK34 => HC_region ?_; refine HLm rfl (HLp rfl ?_); refine HL_as (show _ = Value.int .i64 ((m2 : Nat)) from congrArg (Value.int .i64) (by rw [wrap_i64 (by omega) (by omega)]; omega)) ?_; refine HLm rfl ?_; refine HL_nil (hK34 _ _ _ _ ?_); refine HC_region (HLm rfl (HLp rfl ?_)); refine HL_as (show _ = Value.int .i64 ((A2 : Nat)) from congrArg (Value.int .i64) (by rw [wrap_i64 (by omega) (by omega)]; omega)) ?_; refine HLm rfl ?_; refine HL_nil (hK23 _ _ _ _ ?_); refine HC_seq fun K35 hK35 => ?_
          have hxm := (inTy_get (hX i hii)).2
          have ihx := hrec _ hxm ((s.take f2).drop f) (by rw [List.length_drop, List.length_take]; omega)
          have hbd0 := getT_bad (inTy k 0 ins i) ((s.take f2).drop f)
          obtain ⟨ge, hge⟩ : ∃ g, (getT (inTy k 0 ins i) ((s.take f2).drop f)).2 = g := ⟨_, rfl⟩
          rw [hge] at ihx; refine HC_region (HL_r rfl rfl rfl rfl (R_loadArr (xs := (inTy k 0 ins i).cells) (n := 3) rfl (known_L (k := 0) rfl) rfl rfl (inTy k 0 ins i).len) ?_); refine HLm rfl (HL_callRE (Rl := R) rfl rfl rfl (enters_of Tryz.func45 (by kernel_rfl) rfl) ihx (fun q hq => Or.inr hq) fun y => (HL_perm List.perm_append_comm ?_))
          obtain ⟨⟨ya, yb, yc, yd, ybits, ypb, yitems, ypi, ypick⟩, yL, yok, yer⟩ := y
          refine HL_as (show gotV (Vl.mk ya yb yc yd ybits ypb yitems ypi ypick) ge = .agg #[uV ya, uV yb, uV yc, uV yd, plV ybits.length ypb, plV yitems.length ypi, .int .i64 ypick, .int .i64 ge] from rfl) ?_; refine HL_alloc (cs := #[_, _, _, _, _, _, _, _]) rfl rfl rfl rfl fun r6 => ?_
          refine HL_storeA (k := 0) (n := 8) (cs' := #[_, _, _, _, _, _, _, _]) (vs := #[_, _, _, _, _, _, _, _]) rfl rfl rfl rfl rfl rfl rfl (by exact Nat.le_of_ble_eq_true rfl) rfl (by first | (simp only [List.set_cons_zero, List.set_cons_succ]; exact rfl) | exact rfl) ?_; refine HL_nil (hK35 _ _ _ _ ?_); refine HC_seq fun K36 hK36 => ?_; refine HC_seq fun K37 hK37 => HC_region ?_
          refine HL_r rfl rfl rfl rfl (R_fieldAddr rfl rfl (by first | (simp only [Nat.zero_add, Nat.reduceAdd, Nat.reduceMul, Nat.zero_mul, Nat.mul_one, Nat.add_zero]; exact rfl) | exact rfl)) ?_; refine HL_r rfl rfl rfl rfl (R_load rfl (known_L (k := 0) rfl) rfl rfl) ?_; refine HLp rfl ?_; refine HL_nil (hK37 _ _ _ _ ?_); refine HC_cond rfl (fun h38 => ?_) (fun h38 => ?_)
          · try exact Bool.noConfusion h38
            try simp only [ZZ] at h38
            refine HC_seq fun K39 hK39 => HC_region ?_
            refine HL_r rfl rfl rfl rfl (R_fieldAddr rfl rfl (by first | (simp only [Nat.zero_add, Nat.reduceAdd, Nat.reduceMul, Nat.zero_mul, Nat.mul_one, Nat.add_zero]; exact rfl) | exact rfl)) ?_; refine HL_r rfl rfl rfl rfl (R_load rfl (known_L (k := 0) rfl) rfl rfl) ?_; refine HL_r rfl rfl rfl rfl (R_build (r := [_, _, _, _, _, _, _, _]) rfl rfl) ?_
            refine HL_storeA (k := 3) (n := 8) (cs' := #[_, _, _, _, _, _, _, _]) (vs := #[_, _, _, _, _, _, _, _]) rfl rfl rfl rfl rfl rfl rfl (by exact Nat.le_of_ble_eq_true rfl) rfl (by first | (simp only [List.set_cons_zero, List.set_cons_succ]; exact rfl) | exact rfl) ?_; refine HL_nil (hK39 _ _ _ _ ?_); refine HC_ret (HQ_thenR ?_); refine HQ_blockR (HQ_thenR ?_); refine HQ_thenR (HQ_blockR (HQ_thenR ?_)); refine HQ_post rfl rfl (.cons (res_cellA (vs := [_, _, _, _, _, _, _, _]) rfl (known_L (k := 3) rfl) rfl rfl) .nil) (fun w1 hs1 => ?_)
            (have hg0 : ge ≠ 0 := by assumption
             have e1 : (pairL TY 0 os).map (gq s) = ((pairL TY 0 os).take i).map (gq s) ++ gq s (inTy k 0 ins i, f, f2) :: ((pairL TY 0 os).drop (i + 1)).map (gq s) := by rw [← List.map_cons, ← drop_cons' hq, ← List.map_append, List.take_append_drop]
             have e2 := runG_bad (r := ((pairL TY 0 os).drop (i + 1)).map (gq s)) (f := getT (inTy k 0 ins i)) (s := (s.take f2).drop f) hrun (by rw [hge]; exact hg0)
             have e3 : (runG ((pairL TY 0 os).map (gq s))).2 = ge := by rw [e1]; exact e2.trans hge
             rw [e3, if_pos hg0] at hgr
             exact ⟨⟨v0L, [], v0_in, by rw [hgr]; rfl⟩, congrArg (fun z => Ending.returned (gotV v0L z)) (congrArg Prod.snd hgr).symm, hs1.weakL (List.nil_sublist _)⟩)
          · try exact Bool.noConfusion h38
            try simp only [ZZ] at h38
            refine HC_skip (hK36 _ _ _ _ ?_); refine HC_region ?_
            refine HL_r rfl rfl rfl rfl (R_fieldAddr rfl rfl (by first | (simp only [Nat.zero_add, Nat.reduceAdd, Nat.reduceMul, Nat.zero_mul, Nat.mul_one, Nat.add_zero]; exact rfl) | exact rfl)) ?_; refine HL_r rfl rfl rfl rfl (R_load (v := rowV i row) rfl (known_L (k := 2) rfl) rfl rfl) ?_
            refine HL_r rfl rfl rfl rfl (R_fieldAddr rfl rfl (by first | (simp only [Nat.zero_add, Nat.reduceAdd, Nat.reduceMul, Nat.zero_mul, Nat.mul_one, Nat.add_zero]; exact rfl) | exact rfl)) ?_; refine HL_r rfl rfl rfl rfl (R_loadA (vs := [_, _, _, _, _, _, _]) rfl (known_L (k := 0) rfl) rfl rfl rfl rfl) ?_; refine HL_buildSlice (vs := [_]) (zs := [_, _, _, _, _, _, _]) (r := [_, _, _, _, _, _, _]) rfl rfl rfl rfl rfl rfl rfl rfl rfl (by rw [made_list]; exact rfl) rfl fun r7 => ?_; refine HL_perm (perm_k ..) ?_; refine HL_appendRow (L0 := _ :: _ :: _ :: _ :: _ :: _ :: _ :: (E ++ yL)) (xs := vlsC vs) (row := row) (n := i) (sz := 7) (b := 88) (news := [_, _, _, _, _, _, _]) (List.Perm.refl _) rfl rfl rfl rfl (known_L (k := 0) rfl) rfl rfl rfl rfl rfl (by decide) rfl rfl rfl (by decide) hrow (by omega) (by omega) fun ra cap sp hra => ?_
            refine HL_r rfl rfl rfl rfl (R_fieldAddr rfl rfl (by first | (simp only [Nat.zero_add, Nat.reduceAdd, Nat.reduceMul, Nat.zero_mul, Nat.mul_one, Nat.add_zero]; exact rfl) | exact rfl)) ?_; refine HL_store (k := 4) (cs' := #[.int .u64 0, .int .u64 0, .int .u64 0, .int .u64 0, .slice none 0 0, rowV (i + 1) (some (ra, cap, sp)), .int .i64 0]) rfl rfl rfl rfl rfl rfl rfl rfl rfl rfl ?_; refine HL_nil ?_; refine HQ_blockN (hK20 _ _ _ _ ?_); refine HC_region (HLm rfl ?_)
            refine HLp rfl ?_; refine HL_as (show _ = Value.int .i64 ((i + 1 : Nat) : Int) from by rw [wrap_i64 (by omega) (by omega)]; congr 1 <;> omega) ?_; refine HLm rfl (HL_nil (HQ_then ?_))
            have hsn : ((pairL TY 0 os).take (i + 1)).map (gq s) = ((pairL TY 0 os).take i).map (gq s) ++ [gq s (inTy k 0 ins i, f, f2)] := by rw [take_snoc' hq, List.map_append]; rfl
            have hgy : getT (inTy k 0 ins i) ((s.take f2).drop f) = (erV (Vl.mk ya yb yc yd ybits ypb yitems ypi ypick), 0) := Prod.ext yer.symm (hge.trans (by omega))
            have hvc : vlsC vs ++ Vl.cells (Vl.mk ya yb yc yd ybits ypb yitems ypi ypick) = vlsC (vs ++ [Vl.mk ya yb yc yd ybits ypb yitems ypi ypick]) := by unfold vlsC; rw [List.flatMap_append]; simp
            refine HQ_perm' (perm_l ..) ?_
            exact HQ_again (i + 1, A2, m2, vs ++ [Vl.mk ya yb yc yd ybits ypb yitems ypi ypick], some (ra, cap, sp), E ++ yL) ⟨by simp only; omega, hrv, hAH2, by simp only; omega, by simp only [List.length_append, List.length_singleton]; omega, by simp only; rw [← hvc]; exact hra, fun z hz => by rcases List.mem_append.1 hz with hz | hz; exact (hin z hz).mono (fun q hq => List.mem_append_left _ hq); rw [List.mem_singleton.1 hz]; exact yok.mono (fun q hq => List.mem_append_right _ hq), by simp only; rw [hsn, List.map_append]; exact runG_snoc hrun hgy⟩ (by simp only; omega) (.cons rfl (.cons rfl (.cons rfl (.cons rfl (.cons rfl (.cons rfl (.cons rfl (.cons rfl (.cons rfl .nil))))))))) (by simp only; rw [← hvc]; exact .cons _ (.cons _ (.cons _ (List.Sublist.refl _)))) (fun _ _ h => h)
      · try exact Bool.noConfusion h19
        try simp only [ZZ] at h19
        refine HC_exit (HQ_thenE ?_); refine HQ_thenE (HQ_blockE (hK15 _ _ _ _ ?_)); refine HC_seq fun K40 hK40 => ?_
        have honeV : ([.int .u64 0, .int .u64 0, .int .u64 0, .int .u64 0, .slice none 0 0, rowV i row, .int .i64 0, .int .i64 0] : List Value).all oneB = true := by cases row <;> rfl
        refine HC_region (HL_r rfl rfl rfl rfl (R_loadArr (xs := [.int .u64 0, .int .u64 0, .int .u64 0, .int .u64 0, .slice none 0 0, rowV i row, .int .i64 0]) (n := 7) rfl (known_L (k := 0) rfl) rfl rfl rfl) (HL_r rfl rfl rfl rfl (R_build (r := [.int .u64 0, .int .u64 0, .int .u64 0, .int .u64 0, .slice none 0 0, rowV i row, .int .i64 0, .int .i64 0]) rfl rfl) ?_)); refine HL_storeArr (k := 1) (n := 8) (ys := [.int .u64 0, .int .u64 0, .int .u64 0, .int .u64 0, .slice none 0 0, rowV i row, .int .i64 0, .int .i64 0]) rfl rfl rfl rfl rfl rfl rfl honeV rfl ?_; refine HL_nil (hK40 _ _ _ _ ?_); refine HC_ret ?_; refine HQ_post rfl rfl (.cons (res_cellA (vs := [_, _, _, _, _, _, _, _]) rfl (known_L (k := 1) rfl) rfl rfl) .nil) (fun w1 hs1 => ?_)
        (have e1 := hgr
         have hiM : i = M := by omega
         rw [List.take_of_length_le (by rw [pairL_len]; omega)] at hrun; rw [hrun, if_neg (by simp)] at e1; rw [hvl] at hrow
         have hvr : rowV i row = plV vs.length (rowP row) := by rw [hvl]; exact (rowP_V _ _ (fun h => by rw [h] at hrow; exact hrow.1)).symm
         exact ⟨⟨.mk 0 0 0 0 [] none vs (rowP row) 0, rowL 31 (vlsC vs) row ++ E, items_in (by omega) (rowP_seg hrow (by decide)) hin i0, by rw [e1, erV_mk, erL_map]; rfl⟩, (congrArg (fun z => Ending.returned (Value.agg #[.int .u64 0, .int .u64 0, .int .u64 0, .int .u64 0, .slice none 0 0, z, .int .i64 0, .int .i64 0])) hvr).trans (congrArg (fun z => Ending.returned (gotV (.mk 0 0 0 0 [] none vs (rowP row) 0) z)) (congrArg Prod.snd e1).symm), hs1.weakL (.cons _ (.cons _ (.cons _ (.cons _ (List.Sublist.refl _)))))⟩)
end Go.Proofs.YtlcbfphioeppaaaGreatDoor
namespace Go.Proofs.YtlcbfphioeppaaaGreatDoor
set_option linter.all false
open Go.SL Go.RowKit Go.Shelf
open Go.Proofs (Enters enters_of)
set_option maxRecDepth 20000 in
set_option maxHeartbeats 4000000 in
theorem T_rOf {R : List (Nat × Obj)} {t : Ty} (ht : t.In R) : chk t 0 = 0 → ∀ s : BS, s.length ≤ 100000 → PureT (α := VR (getT t s).1) Tryz.prog 45 [t.val, strV s].toArray (fun y => gotV y.x (getT t s).2) [] (fun y => y.L) R := by
  induction ht with
  | @mk k n p ins hk hn hil hs hi ih =>
  intro hc s hl
  have ht : Ty.In R (.mk k n p ins) := .mk hk hn hil hs hi
  obtain ⟨hk8, ho, _, _⟩ := chk_mk hc
  have hsub := chk_sub hc
  have hF := S_ref_Fixed ht
  have hZ := S_ref_Size ht
  have hzz : isFix (.mk k n p ins) = true → sizeT (.mk k n p ins) = sizT (.mk k n p ins) := fun h => by unfold sizeT; rw [if_pos h]
  generalize sizeT (.mk k n p ins) = z at hZ hzz
  have hpl : ¬ (isFix (.mk k n p ins) = true ∧ (s.length : Int) ≠ sizT (.mk k n p ins)) → k = 1 ∨ k = 2 ∨ k = 5 → (s.length : Int) = if k = 1 then n else if k = 2 then 1 else (n + 7) / 8 := fun hnf h => by
    have hi0 : ins = [] := by
      unfold okForm at ho
      rcases h with rfl | rfl | rfl <;> simp at ho <;> first | exact ho.1 | exact ho.1.1
    have hx : isFix (.mk k n p ins) = true := by
      rw [fix_of hc, fixT, hi0, fixL]
      rcases h with rfl | rfl | rfl <;> rfl
    have e : (s.length : Int) = sizT (.mk k n p ins) := Decidable.byContradiction fun h2 => hnf ⟨hx, h2⟩
    rw [e, sizT]
    rcases h with rfl | rfl | rfl <;> simp
  have hn1 : k = 1 → 1 ≤ n ∧ n ≤ 32 := fun e => by subst e; unfold okForm at ho; simp at ho; omega
  have hn5 : k = 5 → 1 ≤ n ∧ n ≤ 512 := fun e => by subst e; unfold okForm at ho; simp at ho; omega
  have h16 : k = 8 → ins.length ≤ 8 := fun e => by subst e; unfold okForm at ho; simp at ho; omega
  have hbl := T_rbitlist (k := k) (p := p) (ins := ins) hl hn
  refine pureT_of_HC Tryz.func45 rfl rfl fun w => ?_; refine HC_seq fun K1 hK1 => HC_region ?_; refine HL_box (cs := #[_, _, _]) rfl rfl rfl rfl fun r1 => ?_; refine HL_alloc (cs := #[_, _, _, _, _, _, _, _]) rfl rfl rfl rfl fun r2 => ?_; refine HL_nil (hK1 _ _ _ _ ?_); refine HC_seq fun K2 hK2 => ?_; refine HC_seq fun K3 hK3 => HC_region ?_; refine HL_r rfl rfl rfl rfl (R_loadA (vs := [_, _, _]) rfl (known_L (k := 1) rfl) rfl rfl rfl rfl) ?_; refine HL_callR rfl rfl rfl (enters_of Tryz.func78 (by kernel_rfl) rfl) hF (fun q hq => Or.inr hq) ?_; refine HLm rfl ?_
  refine HL_case 8 rfl (fun hb4 => ?_) (fun hb4 => ?_) <;> (try simp only [ZZ] at hb4) <;> first | (refine HLm rfl ?_) | (refine HL_skip rfl rfl rfl ?_)
  all_goals first
    | (refine HL_r rfl rfl rfl rfl (R_lenBs rfl rfl) ?_)
    | (refine HL_skip rfl rfl rfl ?_)
  all_goals first
    | (refine HL_r rfl rfl rfl rfl (R_loadA (vs := [_, _, _]) rfl (known_L (k := 1) rfl) rfl rfl rfl rfl) ?_)
    | (refine HL_skip rfl rfl rfl ?_)
  all_goals first
    | (refine HL_callR rfl rfl rfl (enters_of Tryz.func86 (by kernel_rfl) rfl) hZ (fun q hq => Or.inr hq) ?_)
    | (refine HL_skip rfl rfl rfl ?_)
  all_goals first
    | (refine HLp rfl ?_)
    | (refine HL_skip rfl rfl rfl ?_)
  all_goals first
    | (refine HL_r rfl rfl rfl rfl (R_pickT rfl rfl) ?_)
    | (refine HL_r rfl rfl rfl rfl (R_pickF rfl rfl) ?_)
  all_goals refine HL_nil ?_
  all_goals (
   refine hK3 _ _ _ _ ?_; refine HC_cond rfl (fun h9 => ?_) (fun h9 => ?_)
   · try exact Bool.noConfusion h9
     all_goals try simp only [ZZ] at h9
     all_goals (
      refine HC_seq fun K10 hK10 => HC_region ?_; refine HL_r rfl rfl rfl rfl (R_build (r := [_, _, _, _, _, _, _, _]) rfl rfl) ?_
      refine HL_storeA (k := 0) (n := 8) (cs' := #[_, _, _, _, _, _, _, _]) (vs := #[_, _, _, _, _, _, _, _]) rfl rfl rfl rfl rfl rfl rfl (by exact Nat.le_of_ble_eq_true rfl) rfl (by first | (simp only [List.set_cons_zero, List.set_cons_succ]; exact rfl) | exact rfl) ?_; refine HL_nil (hK10 _ _ _ _ ?_); refine HC_ret (HQ_thenR ?_); refine HQ_post rfl rfl (.cons (res_cellA (vs := [_, _, _, _, _, _, _, _]) rfl (known_L (k := 0) rfl) rfl rfl) .nil) (fun w1 hs1 => ?_)
      (have e1 : getT (.mk k n p ins) s = (v0L, 2) := g_w ⟨‹isFix _ = true›, by have := hzz ‹isFix _ = true›; omega⟩
       exact ⟨⟨v0L, [], v0_in, by rw [e1]; rfl⟩, congrArg (fun z => Ending.returned (gotV v0L z)) (congrArg Prod.snd e1).symm, hs1.weakL (List.nil_sublist _)⟩)
      skip)
   · try exact Bool.noConfusion h9
     try simp only [ZZ] at h9
     refine HC_skip (hK2 _ _ _ _ ?_); refine HC_seq fun K11 hK11 => ?_; refine HC_seq fun K12 hK12 => ?_
     have hnf : ¬ (isFix (.mk k n p ins) = true ∧ (s.length : Int) ≠ sizT (.mk k n p ins)) := by
       rintro ⟨hA, hB⟩
       first
       | (have e := hzz hA; omega)
       | (have e : isFix (.mk k n p ins) = false := ‹_›; rw [e] at hA; cases hA)
     refine HC_region ?_
     refine HL_r rfl rfl rfl rfl (R_fieldAddr rfl rfl (by first | (simp only [Nat.zero_add, Nat.reduceAdd, Nat.reduceMul, Nat.zero_mul, Nat.mul_one, Nat.add_zero]; exact rfl) | exact rfl)) ?_; refine HL_r rfl rfl rfl rfl (R_load rfl (known_L (k := 1) rfl) rfl rfl) ?_; refine HL_nil (hK12 _ _ _ _ ?_); refine HC_block (HC_seq fun K13 hK13 => HC_region ?_); refine HLp rfl (HLm rfl ?_); refine HL_nil (hK13 _ _ _ _ ?_); refine HC_cond rfl (fun h14 => ?_) (fun h14 => ?_)
     · try exact Bool.noConfusion h14
       try simp only [ZZ] at h14
       refine HC_seq fun K15 hK15 => ?_
       have hln := hpl hnf (.inl ‹k = 1›)
       rw [if_pos ‹k = 1›] at hln
       have hnn := hn1 ‹_›
       obtain ⟨a, b, c, d, hnm⟩ := numD_4 s
       have hnu := P_rnumber (s := s) (by omega)
       rw [hnm] at hnu; refine HC_region (HLm rfl (HL_callP rfl rfl rfl (enters_of Tryz.func87 (by kernel_rfl) rfl) hnu ?_)); refine HL_r rfl rfl rfl rfl (R_build (r := [_, _, _, _, _, _, _]) rfl rfl) ?_; refine HL_r rfl rfl rfl rfl (R_build (r := [_, _, _, _, _, _, _, _]) rfl rfl) ?_
       refine HL_storeA (k := 0) (n := 8) (cs' := #[_, _, _, _, _, _, _, _]) (vs := #[_, _, _, _, _, _, _, _]) rfl rfl rfl rfl rfl rfl rfl (by exact Nat.le_of_ble_eq_true rfl) rfl (by first | (simp only [List.set_cons_zero, List.set_cons_succ]; exact rfl) | exact rfl) ?_; refine HL_nil (hK15 _ _ _ _ ?_); refine HC_ret (HQ_blockR (HQ_thenR ?_)); refine HQ_post rfl rfl (.cons (res_cellA (vs := [_, _, _, _, _, _, _, _]) rfl (known_L (k := 0) rfl) rfl rfl) .nil) (fun w1 hs1 => ?_)
       (have e1 : getT (.mk k n p ins) s = (mkNum (numD s), 0) := g_1 hnf ‹k = 1›
        exact ⟨⟨.mk a b c d [] none [] none 0, [], num_in hnm, by rw [e1, erV_mk, erL, hnm]; rfl⟩, congrArg (fun z => Ending.returned (gotV (.mk a b c d [] none [] none 0) z)) (congrArg Prod.snd e1).symm, hs1.weakL (List.nil_sublist _)⟩)
     · try exact Bool.noConfusion h14
       try simp only [ZZ] at h14
       refine HC_seq fun K16 hK16 => HC_region ?_; refine HLp rfl (HLm rfl ?_); refine HL_nil (hK16 _ _ _ _ ?_); refine HC_cond rfl (fun h17 => ?_) (fun h17 => ?_)
       · try exact Bool.noConfusion h17
         try simp only [ZZ] at h17
         refine HC_seq fun K18 hK18 => ?_; refine HC_seq fun K19 hK19 => ?_
         have hln := hpl hnf (.inr (.inl ‹k = 2›))
         rw [if_neg ‹k ≠ 1›, if_pos ‹k = 2›] at hln
         obtain ⟨a, b, c, d, hnm⟩ := numD_4 s
         have hnu := P_rnumber (s := s) (by omega)
         rw [hnm] at hnu; refine HC_region (HLm rfl (HL_r rfl rfl rfl rfl (R_indexBs (j := 0) rfl rfl rfl rfl (by omega) rfl) ?_)); refine HLp rfl ?_; refine HL_nil (hK19 _ _ _ _ ?_); refine HC_cond rfl (fun h20 => ?_) (fun h20 => ?_)
         · try exact Bool.noConfusion h20
           try simp only [ZZ] at h20
           refine HC_seq fun K21 hK21 => HC_region ?_; refine HL_r rfl rfl rfl rfl (R_build (r := [_, _, _, _, _, _, _, _]) rfl rfl) ?_
           refine HL_storeA (k := 0) (n := 8) (cs' := #[_, _, _, _, _, _, _, _]) (vs := #[_, _, _, _, _, _, _, _]) rfl rfl rfl rfl rfl rfl rfl (by exact Nat.le_of_ble_eq_true rfl) rfl (by first | (simp only [List.set_cons_zero, List.set_cons_succ]; exact rfl) | exact rfl) ?_; refine HL_nil (hK21 _ _ _ _ ?_); refine HC_ret (HQ_thenR ?_); refine HQ_blockR (HQ_thenR ?_); refine HQ_post rfl rfl (.cons (res_cellA (vs := [_, _, _, _, _, _, _, _]) rfl (known_L (k := 0) rfl) rfl rfl) .nil) (fun w1 hs1 => ?_)
           (have e1 : getT (.mk k n p ins) s = (v0L, 2) := by rw [g_2 hnf ‹k ≠ 1› ‹k = 2›, if_pos (by omega)]
            exact ⟨⟨v0L, [], v0_in, by rw [e1]; rfl⟩, congrArg (fun z => Ending.returned (gotV v0L z)) (congrArg Prod.snd e1).symm, hs1.weakL (List.nil_sublist _)⟩)
         · try exact Bool.noConfusion h20
           try simp only [ZZ] at h20
           refine HC_skip (hK18 _ _ _ _ ?_); refine HC_seq fun K22 hK22 => HC_region ?_; refine HLm rfl (HL_callP rfl rfl rfl (enters_of Tryz.func87 (by kernel_rfl) rfl) hnu (HL_r rfl rfl rfl rfl (R_build (r := [_, _, _, _, _, _, _]) rfl rfl) ?_)); refine HL_r rfl rfl rfl rfl (R_build (r := [_, _, _, _, _, _, _, _]) rfl rfl) ?_
           refine HL_storeA (k := 0) (n := 8) (cs' := #[_, _, _, _, _, _, _, _]) (vs := #[_, _, _, _, _, _, _, _]) rfl rfl rfl rfl rfl rfl rfl (by exact Nat.le_of_ble_eq_true rfl) rfl (by first | (simp only [List.set_cons_zero, List.set_cons_succ]; exact rfl) | exact rfl) ?_; refine HL_nil (hK22 _ _ _ _ ?_); refine HC_ret (HQ_blockR (HQ_thenR ?_)); refine HQ_post rfl rfl (.cons (res_cellA (vs := [_, _, _, _, _, _, _, _]) rfl (known_L (k := 0) rfl) rfl rfl) .nil) (fun w1 hs1 => ?_)
           (have e1 : getT (.mk k n p ins) s = (mkNum (numD s), 0) := by rw [g_2 hnf ‹k ≠ 1› ‹k = 2›, if_neg (by omega)]
            exact ⟨⟨.mk a b c d [] none [] none 0, [], num_in hnm, by rw [e1, erV_mk, erL, hnm]; rfl⟩, congrArg (fun z => Ending.returned (gotV (.mk a b c d [] none [] none 0) z)) (congrArg Prod.snd e1).symm, hs1.weakL (List.nil_sublist _)⟩)
       · try exact Bool.noConfusion h17
         try simp only [ZZ] at h17
         refine HC_seq fun K23 hK23 => HC_region ?_; refine HLp rfl (HLm rfl ?_); refine HL_nil (hK23 _ _ _ _ ?_); refine HC_cond rfl (fun h24 => ?_) (fun h24 => ?_)
         · try exact Bool.noConfusion h24
           try simp only [ZZ] at h24
           refine HC_seq fun K25 hK25 => ?_
           have hln := hpl hnf (.inr (.inr ‹k = 5›))
           rw [if_neg ‹k ≠ 1›, if_neg ‹k ≠ 2›] at hln
           have hnn := hn5 ‹_›
           have hb5 := T_rbits (k := k) (p := p) (ins := ins) (s := s) (n := n) (by omega) hl
           obtain ⟨ge, hge⟩ : ∃ g, (b5T n s).2 = g := ⟨_, rfl⟩
           rw [hge] at hb5; refine HC_region (HL_r rfl rfl rfl rfl (R_loadA (vs := [_, _, _]) rfl (known_L (k := 1) rfl) rfl rfl rfl rfl) ?_); refine HLm rfl (HL_callRE rfl rfl rfl (enters_of Tryz.func88 (by kernel_rfl) rfl) hb5 (fun q hq => nomatch hq) fun y => (HL_perm List.perm_append_comm ?_))
           obtain ⟨⟨ya, yb, yc, yd, ybits, ypb, yitems, ypi, ypick⟩, yL, yok, yer⟩ := y
           refine HL_as (show gotV (Vl.mk ya yb yc yd ybits ypb yitems ypi ypick) ge = .agg #[uV ya, uV yb, uV yc, uV yd, plV ybits.length ypb, plV yitems.length ypi, .int .i64 ypick, .int .i64 ge] from rfl) ?_
           refine HL_storeA (k := 0) (n := 8) (cs' := #[_, _, _, _, _, _, _, _]) (vs := #[_, _, _, _, _, _, _, _]) rfl rfl rfl rfl rfl rfl rfl (by exact Nat.le_of_ble_eq_true rfl) rfl (by first | (simp only [List.set_cons_zero, List.set_cons_succ]; exact rfl) | exact rfl) ?_; refine HL_nil (hK25 _ _ _ _ ?_); refine HC_ret (HQ_blockR (HQ_thenR ?_)); refine HQ_post rfl rfl (.cons (res_cellA (vs := [_, _, _, _, _, _, _, _]) rfl (known_L (k := 0) rfl) rfl rfl) .nil) (fun w1 hs1 => ?_)
           (have e1 := (g_5 hnf (s := s) ‹k ≠ 1› ‹k ≠ 2› ‹k = 5›).trans (rfl : _ = b5T n s)
            exact ⟨⟨Vl.mk ya yb yc yd ybits ypb yitems ypi ypick, yL, yok, by rw [e1]; exact yer⟩, congrArg (fun z => Ending.returned (gotV (Vl.mk ya yb yc yd ybits ypb yitems ypi ypick) z)) (hge.symm.trans (congrArg Prod.snd e1).symm), hs1.weakL (.cons _ (.cons _ (List.Sublist.refl _)))⟩)
         · try exact Bool.noConfusion h24
           try simp only [ZZ] at h24
           refine HC_seq fun K26 hK26 => HC_region ?_; refine HLp rfl (HLm rfl ?_); refine HL_nil (hK26 _ _ _ _ ?_); refine HC_cond rfl (fun h27 => ?_) (fun h27 => ?_)
           · try exact Bool.noConfusion h27
             try simp only [ZZ] at h27
             refine HC_seq fun K28 hK28 => ?_
             obtain ⟨ge, hge⟩ : ∃ g, (blT n s).2 = g := ⟨_, rfl⟩
             rw [hge] at hbl; refine HC_region (HL_r rfl rfl rfl rfl (R_loadA (vs := [_, _, _]) rfl (known_L (k := 1) rfl) rfl rfl rfl rfl) ?_); refine HLm rfl (HL_callRE rfl rfl rfl (enters_of Tryz.func89 (by kernel_rfl) rfl) hbl (fun q hq => nomatch hq) fun y => (HL_perm List.perm_append_comm ?_))
             obtain ⟨⟨ya, yb, yc, yd, ybits, ypb, yitems, ypi, ypick⟩, yL, yok, yer⟩ := y
             refine HL_as (show gotV (Vl.mk ya yb yc yd ybits ypb yitems ypi ypick) ge = .agg #[uV ya, uV yb, uV yc, uV yd, plV ybits.length ypb, plV yitems.length ypi, .int .i64 ypick, .int .i64 ge] from rfl) ?_
             refine HL_storeA (k := 0) (n := 8) (cs' := #[_, _, _, _, _, _, _, _]) (vs := #[_, _, _, _, _, _, _, _]) rfl rfl rfl rfl rfl rfl rfl (by exact Nat.le_of_ble_eq_true rfl) rfl (by first | (simp only [List.set_cons_zero, List.set_cons_succ]; exact rfl) | exact rfl) ?_; refine HL_nil (hK28 _ _ _ _ ?_); refine HC_ret (HQ_blockR (HQ_thenR ?_)); refine HQ_post rfl rfl (.cons (res_cellA (vs := [_, _, _, _, _, _, _, _]) rfl (known_L (k := 0) rfl) rfl rfl) .nil) (fun w1 hs1 => ?_)
             (have e1 := g_6 hnf (s := s) ‹k ≠ 1› ‹k ≠ 2› ‹k ≠ 5› ‹k = 6›
              exact ⟨⟨Vl.mk ya yb yc yd ybits ypb yitems ypi ypick, yL, yok, by rw [e1]; exact yer⟩, congrArg (fun z => Ending.returned (gotV (Vl.mk ya yb yc yd ybits ypb yitems ypi ypick) z)) (hge.symm.trans (congrArg Prod.snd e1).symm), hs1.weakL (.cons _ (.cons _ (List.Sublist.refl _)))⟩)
           · try exact Bool.noConfusion h27
             try simp only [ZZ] at h27
             refine HC_seq fun K29 hK29 => HC_region ?_; refine HLp rfl (HLm rfl ?_); refine HL_nil (hK29 _ _ _ _ ?_); refine HC_cond rfl (fun h30 => ?_) (fun h30 => ?_)
             · try exact Bool.noConfusion h30
               try simp only [ZZ] at h30
               refine HC_seq fun K31 hK31 => ?_; refine HC_seq fun K32 hK32 => HC_region ?_; refine HLm rfl (HL_r rfl rfl rfl rfl (R_strEq rfl rfl) ?_); refine HL_nil (hK32 _ _ _ _ ?_); refine HC_cond rfl (fun h33 => ?_) (fun h33 => ?_)
               · try exact Bool.noConfusion h33
                 try simp only [ZZ] at h33
                 refine HC_seq fun K34 hK34 => HC_region ?_; refine HL_r rfl rfl rfl rfl (R_build (r := [_, _, _, _, _, _, _, _]) rfl rfl) ?_
                 refine HL_storeA (k := 0) (n := 8) (cs' := #[_, _, _, _, _, _, _, _]) (vs := #[_, _, _, _, _, _, _, _]) rfl rfl rfl rfl rfl rfl rfl (by exact Nat.le_of_ble_eq_true rfl) rfl (by first | (simp only [List.set_cons_zero, List.set_cons_succ]; exact rfl) | exact rfl) ?_; refine HL_nil (hK34 _ _ _ _ ?_); refine HC_ret (HQ_thenR ?_); refine HQ_blockR (HQ_thenR ?_); refine HQ_post rfl rfl (.cons (res_cellA (vs := [_, _, _, _, _, _, _, _]) rfl (known_L (k := 0) rfl) rfl rfl) .nil) (fun w1 hs1 => ?_)
                 (have e1 : getT (.mk k n p ins) s = (v0L, 2) := g_8n hnf ‹k ≠ 1› ‹k ≠ 2› ‹k ≠ 5› ‹k ≠ 6› ‹k = 8› ‹s = []›
                  exact ⟨⟨v0L, [], v0_in, by rw [e1]; rfl⟩, congrArg (fun z => Ending.returned (gotV v0L z)) (congrArg Prod.snd e1).symm, hs1.weakL (List.nil_sublist _)⟩)
               · try exact Bool.noConfusion h33
                 try simp only [ZZ] at h33
                 refine HC_skip (hK31 _ _ _ _ ?_); refine HC_seq fun K35 hK35 => ?_; refine HC_seq fun K36 hK36 => ?_
                 have hsne : s ≠ [] := ‹_›
                 have hpos : 0 < s.length := List.length_pos_iff.2 hsne
                 refine HC_drawB [] [(0, .pure), (1, .pure), (2, .pure), (3, .pure), (5, .pure)] 6 [0, 1, 2, 3, 4, 5] (by kernel_rfl) (by kernel_rfl) (by first | exact (fun _ h => absurd h List.not_mem_nil) | simp [SubS] | (intro p hp; simp [hp])) ?_; refine HB_p (k := 0) rfl rfl rfl rfl rfl (fun _ hS => (R_move rfl)) ?_; refine HB_p (k := 1) rfl rfl rfl rfl rfl (fun _ _ => R_indexBs (j := 0) rfl rfl rfl rfl (by omega) rfl) ?_; refine HB_p (k := 2) rfl rfl rfl rfl rfl (fun _ _ => (R_pure rfl rfl rfl)) ?_; refine HB_as (show _ = Value.int .i64 ((s.getD 0 0).toNat : Nat) from congrArg (Value.int .i64) (wrap_i64 (by omega) (by have := u8_lt (s.getD 0 0); omega))) ?_
                 refine HB_p (k := 3) rfl rfl rfl rfl rfl (fun _ hS => (R_fieldAddr rfl rfl (by first | (simp only [Nat.zero_add, Nat.reduceAdd, Nat.reduceMul, Nat.zero_mul, Nat.mul_one, Nat.add_zero]; exact rfl) | exact rfl))) ?_; refine HB_r (k := 4) rfl rfl rfl rfl rfl (R_load rfl (known_L (k := 1) rfl) rfl rfl) ?_; refine HB_p (k := 5) rfl rfl rfl rfl rfl (fun _ _ => R_lenPl rfl hs rfl) ?_; refine HB_end ?_; refine HLp rfl ?_; refine HL_nil (hK36 _ _ _ _ ?_); refine HC_cond rfl (fun h37 => ?_) (fun h37 => ?_)
                 · try exact Bool.noConfusion h37
                   try simp only [ZZ] at h37
                   refine HC_seq fun K38 hK38 => HC_region ?_; refine HL_r rfl rfl rfl rfl (R_build (r := [_, _, _, _, _, _, _, _]) rfl rfl) ?_
                   refine HL_storeA (k := 0) (n := 8) (cs' := #[_, _, _, _, _, _, _, _]) (vs := #[_, _, _, _, _, _, _, _]) rfl rfl rfl rfl rfl rfl rfl (by exact Nat.le_of_ble_eq_true rfl) rfl (by first | (simp only [List.set_cons_zero, List.set_cons_succ]; exact rfl) | exact rfl) ?_; refine HL_nil (hK38 _ _ _ _ ?_); refine HC_ret (HQ_thenR ?_); refine HQ_blockR (HQ_thenR ?_); refine HQ_post rfl rfl (.cons (res_cellA (vs := [_, _, _, _, _, _, _, _]) rfl (known_L (k := 0) rfl) rfl rfl) .nil) (fun w1 hs1 => ?_)
                   (have e1 : getT (.mk k n p ins) s = (v0L, 9) := g_8k hnf ‹k ≠ 1› ‹k ≠ 2› ‹k ≠ 5› ‹k ≠ 6› ‹k = 8› hsne (by omega)
                    exact ⟨⟨v0L, [], v0_in, by rw [e1]; rfl⟩, congrArg (fun z => Ending.returned (gotV v0L z)) (congrArg Prod.snd e1).symm, hs1.weakL (List.nil_sublist _)⟩)
                 · try exact Bool.noConfusion h37
                   try simp only [ZZ] at h37
                   refine HC_skip (hK35 _ _ _ _ ?_); refine HC_seq fun K39 hK39 => ?_
                   obtain ⟨x, hx⟩ : ∃ x, ins[(s.getD 0 0).toNat]? = some x := ⟨_, List.getElem?_eq_getElem (by omega)⟩
                   have hlt : (s.getD 0 0).toNat < ins.length := (List.getElem?_eq_some_iff.1 hx).1
                   have hxm := List.mem_of_getElem? hx
                   have ihx := ih x hxm (hsub x hxm) (s.drop 1) (by rw [List.length_drop]; omega)
                   have hbd0 := getT_bad x (s.drop 1)
                   obtain ⟨x0⟩ := VR_get (hi x hxm) (hsub x hxm) (s.drop 1) (by rw [List.length_drop]; omega)
                   obtain ⟨ge, hge⟩ : ∃ g, (getT x (s.drop 1)).2 = g := ⟨_, rfl⟩
                   rw [hge] at ihx hbd0; refine HC_drawB [tBlk r1 (.mk k n p ins)] [(0, .pure), (1, .pure), (2, .pure), (3, .pure), (4, .pure), (5, .pure), (6, .pure), (7, .pure), (8, .pure), (9, .grow (geCall x0 (fun y => gotV y.x ge) (fun y => y.L))), (10, .grow (geNew ptrV (.cells #[.int .u64 0, .int .u64 0, .int .u64 0, .int .u64 0, .slice none 0 0, .slice none 0 0, .int .i64 0, .int .i64 0] 61 (0, 0))))] 11 [0, 1, 2, 3, 4, 5, 6, 7, 8, 9, 10] (by kernel_rfl) (by kernel_rfl) (fun q hq => List.mem_cons_of_mem _ hq) ?_
                   refine HB_p (k := 0) rfl rfl rfl rfl rfl (fun _ hS => (R_fieldAddr rfl rfl (by first | (simp only [Nat.zero_add, Nat.reduceAdd, Nat.reduceMul, Nat.zero_mul, Nat.mul_one, Nat.add_zero]; exact rfl) | exact rfl))) ?_; refine HB_p (k := 1) rfl rfl rfl rfl rfl (fun _ hS => (R_load rfl (.inl (hS _ (mem_nth (n := 0) rfl))) rfl rfl)) ?_; refine HB_p (k := 2) rfl rfl rfl rfl rfl (fun _ hS => (R_move rfl)) ?_; refine HB_p (k := 3) rfl rfl rfl rfl rfl (fun _ _ => R_indexBs (j := 0) rfl rfl rfl rfl (by omega) rfl) ?_; refine HB_p (k := 4) rfl rfl rfl rfl rfl (fun _ _ => (R_pure rfl rfl rfl)) ?_; refine HB_as (show _ = Value.int .i64 ((s.getD 0 0).toNat : Nat) from congrArg (Value.int .i64) (wrap_i64 (by omega) (by have := u8_lt (s.getD 0 0); omega))) ?_; refine HB_p (k := 5) rfl rfl rfl rfl rfl (fun _ _ => R_indexPl (j := (s.getD 0 0).toNat) rfl hs rfl rfl rfl rfl hlt) ?_; refine HB_p (k := 6) rfl rfl rfl rfl rfl (fun _ _ => R_loadTy (fun q hq => Or.inr hq) rfl hs hx rfl rfl) ?_; refine HB_p (k := 7) rfl rfl rfl rfl rfl (fun _ hS => (R_move rfl)) ?_; refine HB_p (k := 8) rfl rfl rfl rfl rfl (fun _ _ => R_sliceBs (kl := some (.i64, 1)) (kh := none) (m := 1) (n := s.length) rfl rfl rfl rfl rfl rfl (by omega) (by omega) (show _ = s.drop 1 from by rw [List.take_length])) ?_; refine HB_callRE (k := 9) rfl rfl rfl rfl rfl (enters_of Tryz.func45 (by kernel_rfl) rfl) ihx (fun q hq => Or.inr hq) fun y => ?_; obtain ⟨⟨ya, yb, yc, yd, ybits, ypb, yitems, ypi, ypick⟩, yL, yok, yer⟩ := y; refine HB_as (show gotV (Vl.mk ya yb yc yd ybits ypb yitems ypi ypick) ge = .agg #[uV ya, uV yb, uV yc, uV yd, plV ybits.length ypb, plV yitems.length ypi, .int .i64 ypick, .int .i64 ge] from rfl) ?_; refine HB_alloc (k := 10) (cs := #[_, _, _, _, _, _, _, _]) rfl rfl rfl rfl rfl rfl fun r3 => ?_; refine HB_end ?_; refine HL_perm (List.Perm.cons _ List.perm_append_comm) ?_
                   refine HL_storeA (k := 0) (n := 8) (vs := #[_, _, _, _, _, _, _, _]) rfl rfl rfl rfl rfl rfl rfl (by exact Nat.le_of_ble_eq_true rfl) (by first | (simp only [List.take_zero, List.nil_append, Array.toList_toArray, List.drop_succ_cons, List.drop_zero, List.take_succ_cons, List.cons_append, Nat.zero_add, Nat.reduceAdd, List.append_nil, List.drop_nil]; exact rfl) | exact rfl) (by first | (simp only [List.set_cons_zero, List.set_cons_succ]; exact rfl) | exact rfl) ?_; refine HL_nil (hK39 _ _ _ _ ?_); refine HC_seq fun K40 hK40 => ?_; refine HC_seq fun K41 hK41 => HC_region ?_
                   refine HL_r rfl rfl rfl rfl (R_fieldAddr rfl rfl (by first | (simp only [Nat.zero_add, Nat.reduceAdd, Nat.reduceMul, Nat.zero_mul, Nat.mul_one, Nat.add_zero]; exact rfl) | exact rfl)) ?_; refine HL_r rfl rfl rfl rfl (R_load rfl (known_L (k := 0) rfl) rfl rfl) ?_; refine HLp rfl ?_; refine HL_nil (hK41 _ _ _ _ ?_); refine HC_cond rfl (fun h42 => ?_) (fun h42 => ?_)
                   · try exact Bool.noConfusion h42
                     try simp only [ZZ] at h42
                     refine HC_seq fun K43 hK43 => HC_region ?_; refine HL_r rfl rfl rfl rfl (R_loadA (vs := [_, _, _, _, _, _, _, _]) rfl (known_L (k := 0) rfl) rfl rfl rfl rfl) ?_
                     refine HL_storeA (k := 1) (n := 8) (cs' := #[_, _, _, _, _, _, _, _]) (vs := #[_, _, _, _, _, _, _, _]) rfl rfl rfl rfl rfl rfl rfl (by exact Nat.le_of_ble_eq_true rfl) rfl (by first | (simp only [List.set_cons_zero, List.set_cons_succ]; exact rfl) | exact rfl) ?_; refine HL_nil (hK43 _ _ _ _ ?_); refine HC_ret (HQ_thenR ?_); refine HQ_blockR (HQ_thenR ?_); refine HQ_post rfl rfl (.cons (res_cellA (vs := [_, _, _, _, _, _, _, _]) rfl (known_L (k := 1) rfl) rfl rfl) .nil) (fun w1 hs1 => ?_)
                     (have hg0 : ge ≠ 0 := by assumption
                      have e1 := g_8 hnf (s := s) ‹k ≠ 1› ‹k ≠ 2› ‹k ≠ 5› ‹k ≠ 6› ‹k = 8› hsne hx
                      rw [hge, if_pos hg0] at e1
                      exact ⟨⟨Vl.mk ya yb yc yd ybits ypb yitems ypi ypick, yL, yok, by rw [e1]; exact yer.trans (hbd0 hg0)⟩, congrArg (fun z => Ending.returned (gotV (Vl.mk ya yb yc yd ybits ypb yitems ypi ypick) z)) (congrArg Prod.snd e1).symm, hs1.weakL (.cons _ (.cons _ (.cons _ (List.Sublist.refl _))))⟩)
                   · try exact Bool.noConfusion h42
                     try simp only [ZZ] at h42
                     refine HC_skip (hK40 _ _ _ _ ?_); refine HC_seq fun K44 hK44 => ?_
                     refine HC_drawB [(r3, .cells #[uV ya, uV yb, uV yc, uV yd, plV ybits.length ypb, plV yitems.length ypi, .int .i64 ypick, .int .i64 ge] 61 (0, 0))] [(0, .pure), (1, .pure), (2, .pure), (3, .pure), (4, .pure), (5, .grow (geNew (slV 1) (.cells #[uV ya, uV yb, uV yc, uV yd, plV ybits.length ypb, plV yitems.length ypi, .int .i64 ypick] 31 (0, 0))))] 6 [0, 1, 2, 3, 4, 5] (by kernel_rfl) (by kernel_rfl) (by first | exact (fun _ h => absurd h List.not_mem_nil) | simp [SubS] | (intro p hp; simp [hp])) ?_; refine HB_p (k := 0) rfl rfl rfl rfl rfl (fun _ hS => (R_move rfl)) ?_; refine HB_p (k := 1) rfl rfl rfl rfl rfl (fun _ _ => R_indexBs (j := 0) rfl rfl rfl rfl (by omega) rfl) ?_; refine HB_p (k := 2) rfl rfl rfl rfl rfl (fun _ _ => (R_pure rfl rfl rfl)) ?_; refine HB_as (show _ = Value.int .i64 ((s.getD 0 0).toNat : Nat) from congrArg (Value.int .i64) (wrap_i64 (by omega) (by have := u8_lt (s.getD 0 0); omega))) ?_
                     refine HB_p (k := 3) rfl rfl rfl rfl rfl (fun _ hS => (R_fieldAddr rfl rfl (by first | (simp only [Nat.zero_add, Nat.reduceAdd, Nat.reduceMul, Nat.zero_mul, Nat.mul_one, Nat.add_zero]; exact rfl) | exact rfl))) ?_; refine HB_p (k := 4) rfl rfl rfl rfl rfl (fun _ hS => (R_loadA (vs := [_, _, _, _, _, _, _]) rfl (.inl (hS _ (mem_nth (n := 0) rfl))) rfl rfl rfl rfl)) ?_; refine HB_buildSlice (k := 5) (n := 1) (sz := 7) (vs := [_]) (zs := [_, _, _, _, _, _, _]) (r := [uV ya, uV yb, uV yc, uV yd, plV ybits.length ypb, plV yitems.length ypi, .int .i64 ypick]) rfl rfl rfl rfl rfl rfl rfl rfl rfl rfl rfl (by rw [made_list]; exact rfl) rfl fun rv => ?_; refine HB_end ?_; refine HL_r rfl rfl rfl rfl (R_build (r := [_, _, _, _, _, _, _]) rfl rfl) ?_; refine HL_r rfl rfl rfl rfl (R_build (r := [_, _, _, _, _, _, _, _]) rfl rfl) ?_
                     refine HL_storeA (k := 2) (n := 8) (cs' := #[_, _, _, _, _, _, _, _]) (vs := #[_, _, _, _, _, _, _, _]) rfl rfl rfl rfl rfl rfl rfl (by exact Nat.le_of_ble_eq_true rfl) rfl (by first | (simp only [List.set_cons_zero, List.set_cons_succ]; exact rfl) | exact rfl) ?_; refine HL_nil (hK44 _ _ _ _ ?_); refine HC_ret (HQ_blockR (HQ_thenR ?_)); refine HQ_post rfl rfl (.cons (res_cellA (vs := [_, _, _, _, _, _, _, _]) rfl (known_L (k := 2) rfl) rfl rfl) .nil) (fun w1 hs1 => ?_)
                     (have hg0 : ge = 0 := by omega
                      have e1 := g_8 hnf (s := s) ‹k ≠ 1› ‹k ≠ 2› ‹k ≠ 5› ‹k ≠ 6› ‹k = 8› hsne hx
                      rw [hge, if_neg (by omega)] at e1
                      exact ⟨⟨.mk 0 0 0 0 [] none [Vl.mk ya yb yc yd ybits ypb yitems ypi ypick] (some (⟨rv, 0, none⟩, 1)) ((s.getD 0 0).toNat : Int), [(rv, _)] ++ yL, items_in (by simp) ⟨Nat.le_refl _, fun _ => ⟨rfl, _, _, _, List.mem_singleton_self _, rfl⟩⟩ (fun z hz => by rw [List.mem_singleton.1 hz]; exact yok) (by have := u8_lt (s.getD 0 0); unfold I64; omega), by rw [e1, erV_mk, erL, erL, yer]; rfl⟩, congrArg (fun z => Ending.returned (gotV (.mk 0 0 0 0 [] none [Vl.mk ya yb yc yd ybits ypb yitems ypi ypick] (some (⟨rv, 0, none⟩, 1)) ((s.getD 0 0).toNat : Int)) z)) (congrArg Prod.snd e1).symm, hs1.weakL ((List.cons_sublist_cons).2 (.cons _ (.cons _ (.cons _ (List.Sublist.refl _)))))⟩)
             · try exact Bool.noConfusion h30
               try simp only [ZZ] at h30
               refine HC_skip (HQ_blockN (hK11 _ _ _ _ ?_)); refine HC_seq fun K45 hK45 => ?_
               have hk3 : k = 3 ∨ k = 4 ∨ k = 7 := by have h1 : k ≠ 1 := ‹_›; have h2 : k ≠ 2 := ‹_›; have h5 : k ≠ 5 := ‹_›; have h6 : k ≠ 6 := ‹_›; have h8 : k ≠ 8 := ‹_›; omega
               have hrw := T_rrow (s := s) ht hc hk3 hl (fun x hx => ih x hx (hsub x hx))
               obtain ⟨ge, hge⟩ : ∃ g, (rowT k n ins (getF ins) s).2 = g := ⟨_, rfl⟩
               rw [hge] at hrw; refine HC_region (HL_r rfl rfl rfl rfl (R_loadA (vs := [_, _, _]) rfl (known_L (k := 1) rfl) rfl rfl rfl rfl) ?_); refine HLm rfl (HL_callRE (Rl := R) rfl rfl rfl (enters_of Tryz.func90 (by kernel_rfl) rfl) hrw (fun q hq => Or.inr hq) fun y => (HL_perm List.perm_append_comm ?_))
               obtain ⟨⟨ya, yb, yc, yd, ybits, ypb, yitems, ypi, ypick⟩, yL, yok, yer⟩ := y
               refine HL_as (show gotV (Vl.mk ya yb yc yd ybits ypb yitems ypi ypick) ge = .agg #[uV ya, uV yb, uV yc, uV yd, plV ybits.length ypb, plV yitems.length ypi, .int .i64 ypick, .int .i64 ge] from rfl) ?_
               refine HL_storeA (k := 0) (n := 8) (cs' := #[_, _, _, _, _, _, _, _]) (vs := #[_, _, _, _, _, _, _, _]) rfl rfl rfl rfl rfl rfl rfl (by exact Nat.le_of_ble_eq_true rfl) rfl (by first | (simp only [List.set_cons_zero, List.set_cons_succ]; exact rfl) | exact rfl) ?_; refine HL_nil (hK45 _ _ _ _ ?_); refine HC_ret ?_; refine HQ_post rfl rfl (.cons (res_cellA (vs := [_, _, _, _, _, _, _, _]) rfl (known_L (k := 0) rfl) rfl rfl) .nil) (fun w1 hs1 => ?_)
               (have e1 := g_r hnf (s := s) ‹k ≠ 1› ‹k ≠ 2› ‹k ≠ 5› ‹k ≠ 6› ‹k ≠ 8›
                exact ⟨⟨Vl.mk ya yb yc yd ybits ypb yitems ypi ypick, yL, yok, by rw [e1]; exact yer⟩, congrArg (fun z => Ending.returned (gotV (Vl.mk ya yb yc yd ybits ypb yitems ypi ypick) z)) (hge.symm.trans (congrArg Prod.snd e1).symm), hs1.weakL (.cons _ (.cons _ (List.Sublist.refl _)))⟩)
   skip)
end Go.Proofs.YtlcbfphioeppaaaGreatDoor
