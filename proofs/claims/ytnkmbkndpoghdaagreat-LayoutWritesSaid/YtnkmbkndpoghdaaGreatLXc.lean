import Derived.Test.YtnkmbkndpoghdaaGreatLXb
namespace Go.Proofs.YtnkmbkndpoghdaaGreat
set_option linter.all false
open Go.SL Go.RowKit Go.Shelf
set_option maxRecDepth 10000 in
theorem S_Put {R : List (Nat × Obj)} {s : StL} {a : AcL} (hs : s.In R) (ha : a.In R) : PureT (α := StRes R (putS s.er a.er)) Tryz.prog 91 [s.val, a.val].toArray (fun x => x.val) [] (fun x => x.L) R := by
  have hc := S_Check hs
  have hlk := S_look ha
  have hl := hs.len
  have hseg := hs.seg
  have hput : putS s.er a.er = if chkS s.er ≠ 0 then (s.er, chkS s.er) else if lkE a.er ≠ 0 then (s.er, lkE a.er) else if (insL AcE.addr a.er s.er).length > 32 then (s.er, 5) else (insL AcE.addr a.er s.er, 0) := rfl
  have hil : (insL AcE.addr a.er s.er).length = (insL AcL.addr a s.accts).length := by unfold StL.er; rw [← ins_er, List.length_map]
  rw [hil] at hput; refine pureT_of_HC Tryz.func91 rfl rfl fun w => ?_; refine HC_seq fun K1 hK1 => ?_; refine HC_region ?_; refine HL_box (cs := #[_]) rfl rfl rfl rfl fun r1 => ?_; refine HL_box (cs := #[_, _, _, _, _, _, _, _]) rfl rfl rfl rfl fun r2 => ?_; refine HL_alloc (cs := #[_]) rfl rfl rfl rfl fun r3 => ?_; refine HL_r rfl rfl rfl rfl (R_assign rfl) ?_; refine HL_nil ?_; refine HQ_then ?_; refine hK1 _ _ _ _ ?_; clear hK1 K1; refine HC_seq fun K2 hK2 => ?_; refine HC_seq fun K3 hK3 => ?_; refine HC_region ?_; refine HL_r rfl rfl rfl rfl (R_loadA (vs := [_]) rfl (known_L (k := 2) rfl) rfl rfl rfl rfl) ?_; refine HL_callR rfl rfl rfl (enters_of Tryz.func44 (by kernel_rfl) rfl) hc (fun q hq => Or.inr hq) ?_; refine HL_r rfl rfl rfl rfl (R_assign rfl) ?_; refine HL_nil ?_; refine HQ_then ?_; refine hK3 _ _ _ _ ?_; clear hK3 K3; refine HC_seq fun K4 hK4 => ?_; refine HC_region ?_; refine HL_r rfl rfl rfl rfl (R_move rfl) ?_; refine HL_r rfl rfl rfl rfl (R_pure rfl rfl rfl) ?_; refine HL_nil ?_; refine HQ_then ?_; refine hK4 _ _ _ _ ?_; clear hK4 K4; refine HC_cond rfl (fun h5 => ?_) (fun h5 => ?_)
  · try exact Bool.noConfusion h5
    try simp only [Z1, Z2, Z3, Z4, Z5, Z6, Z7, Z8, Z9, Z10, Z11, Z12, Z13] at h5
    refine HC_seq fun K6 hK6 => ?_; refine HC_region ?_; refine HL_r rfl rfl rfl rfl (R_loadA (vs := [_]) rfl (known_L (k := 2) rfl) rfl rfl rfl rfl) ?_; refine HL_r rfl rfl rfl rfl (R_move rfl) ?_
    refine HL_storeA (k := 0) (n := 1) (cs' := #[_]) (vs := #[_]) rfl rfl rfl rfl rfl rfl rfl (by exact Nat.le_of_ble_eq_true rfl) rfl (by first | (simp only [List.set_cons_zero, List.set_cons_succ]; exact rfl) | exact rfl) ?_; refine HL_r rfl rfl rfl rfl (R_assign rfl) ?_; refine HL_nil ?_; refine HQ_then ?_; refine hK6 _ _ _ _ ?_; clear hK6 K6; refine HC_ret ?_; refine HQ_thenR ?_; clear hK2 K2; refine HQ_post rfl rfl (.cons (res_cellA (vs := [_]) rfl (known_L (k := 0) rfl) rfl rfl) (.cons (res_tmp rfl) .nil)) (fun w1 hs1 => ?_); rw [hput, if_pos (by omega)]; exact ⟨⟨s, chkS s.er, [], hs, rfl⟩, rfl, hs1.weakL (List.nil_sublist _)⟩
  · try exact Bool.noConfusion h5
    try simp only [Z1, Z2, Z3, Z4, Z5, Z6, Z7, Z8, Z9, Z10, Z11, Z12, Z13] at h5
    refine HC_skip ?_; refine HQ_then ?_; refine hK2 _ _ _ _ ?_; clear hK2 K2; refine HC_seq fun K7 hK7 => ?_; refine HC_seq fun K8 hK8 => ?_; refine HC_region ?_; refine HL_r rfl rfl rfl rfl (R_loadA (vs := [_, _, _, _, _, _, _, _]) rfl (known_L (k := 1) rfl) rfl rfl rfl rfl) ?_; refine HL_callR rfl rfl rfl (enters_of Tryz.func88 (by kernel_rfl) rfl) hlk (fun q hq => Or.inr hq) ?_; refine HL_r rfl rfl rfl rfl (R_assign rfl) ?_; refine HL_nil ?_; refine HQ_then ?_; refine hK8 _ _ _ _ ?_; clear hK8 K8; refine HC_seq fun K9 hK9 => ?_; refine HC_region ?_; refine HL_r rfl rfl rfl rfl (R_move rfl) ?_; refine HL_r rfl rfl rfl rfl (R_pure rfl rfl rfl) ?_; refine HL_nil ?_; refine HQ_then ?_; refine hK9 _ _ _ _ ?_; clear hK9 K9; refine HC_cond rfl (fun h10 => ?_) (fun h10 => ?_)
    · try exact Bool.noConfusion h10
      try simp only [Z1, Z2, Z3, Z4, Z5, Z6, Z7, Z8, Z9, Z10, Z11, Z12, Z13] at h10
      refine HC_seq fun K11 hK11 => ?_; refine HC_region ?_; refine HL_r rfl rfl rfl rfl (R_loadA (vs := [_]) rfl (known_L (k := 2) rfl) rfl rfl rfl rfl) ?_; refine HL_r rfl rfl rfl rfl (R_move rfl) ?_
      refine HL_storeA (k := 0) (n := 1) (cs' := #[_]) (vs := #[_]) rfl rfl rfl rfl rfl rfl rfl (by exact Nat.le_of_ble_eq_true rfl) rfl (by first | (simp only [List.set_cons_zero, List.set_cons_succ]; exact rfl) | exact rfl) ?_; refine HL_r rfl rfl rfl rfl (R_assign rfl) ?_; refine HL_nil ?_; refine HQ_then ?_; refine hK11 _ _ _ _ ?_; clear hK11 K11; refine HC_ret ?_; refine HQ_thenR ?_; clear hK7 K7; refine HQ_post rfl rfl (.cons (res_cellA (vs := [_]) rfl (known_L (k := 0) rfl) rfl rfl) (.cons (res_tmp rfl) .nil)) (fun w1 hs1 => ?_); rw [hput, if_neg (by omega), if_pos (by omega)]; exact ⟨⟨s, lkE a.er, [], hs, rfl⟩, rfl, hs1.weakL (List.nil_sublist _)⟩
    · try exact Bool.noConfusion h10
      try simp only [Z1, Z2, Z3, Z4, Z5, Z6, Z7, Z8, Z9, Z10, Z11, Z12, Z13] at h10
      refine HC_skip ?_; refine HQ_then ?_; refine hK7 _ _ _ _ ?_; clear hK7 K7; refine HC_seq fun K12 hK12 => ?_
      have hok : s.accts.length ≤ 32 ∧ Sorted AcL.addr s.accts := by
        have h := chk_ok.1 (show chkS s.er = 0 by omega)
        rw [s.er_len] at h; exact ⟨h.1, (er_sorted s).2 h.2.2⟩
      refine HC_region ?_
      refine HL_r rfl rfl rfl rfl (R_fieldAddr rfl rfl (by first | (simp only [Nat.zero_add, Nat.reduceAdd, Nat.reduceMul, Nat.zero_mul, Nat.mul_one, Nat.add_zero]; exact rfl) | exact rfl)) ?_; refine HL_r rfl rfl rfl rfl (R_load rfl (known_L (k := 2) rfl) rfl rfl) ?_; refine HL_r rfl rfl rfl rfl (R_loadA (vs := [_, _, _, _, _, _, _, _]) rfl (known_L (k := 1) rfl) rfl rfl rfl rfl) ?_; refine HL_callRE rfl rfl rfl (enters_of Tryz.func112 (by kernel_rfl) rfl) (S_withA (by omega) hseg hok.2 a) (fun q hq => Or.inr hq) fun x => ?_
      obtain ⟨row, hrow⟩ := x
      refine HL_perm List.perm_append_comm ?_; change HL _ _ ((24, rowV (insL AcL.addr a s.accts).length row) :: _) ((r3, _) :: (r2, _) :: (r1, _) :: rowL _ _ row) _ _ _ _; refine HL_r rfl rfl rfl rfl (R_assign rfl) ?_; refine HL_nil ?_; refine HQ_then ?_; refine hK12 _ _ _ _ ?_; clear hK12 K12; refine HC_seq fun K13 hK13 => ?_; refine HC_seq fun K14 hK14 => ?_; refine HC_region ?_; refine HL_r rfl rfl rfl rfl (R_move rfl) ?_; refine HL_r rfl rfl rfl rfl (R_lenRow rfl hrow.zero rfl) ?_; refine HL_r rfl rfl rfl rfl (R_pure rfl rfl rfl) ?_; refine HL_nil ?_; refine HQ_then ?_; refine hK14 _ _ _ _ ?_; clear hK14 K14; refine HC_cond rfl (fun h15 => ?_) (fun h15 => ?_)
      · try exact Bool.noConfusion h15
        try simp only [Z1, Z2, Z3, Z4, Z5, Z6, Z7, Z8, Z9, Z10, Z11, Z12, Z13] at h15
        refine HC_seq fun K16 hK16 => ?_; refine HC_region ?_; refine HL_r rfl rfl rfl rfl (R_loadA (vs := [_]) rfl (known_L (k := 2) rfl) rfl rfl rfl rfl) ?_
        refine HL_storeA (k := 0) (n := 1) (cs' := #[_]) (vs := #[_]) rfl rfl rfl rfl rfl rfl rfl (by exact Nat.le_of_ble_eq_true rfl) rfl (by first | (simp only [List.set_cons_zero, List.set_cons_succ]; exact rfl) | exact rfl) ?_; refine HL_r rfl rfl rfl rfl (R_assign rfl) ?_; refine HL_nil ?_; refine HQ_then ?_; refine hK16 _ _ _ _ ?_; clear hK16 K16; refine HC_ret ?_; refine HQ_thenR ?_; clear hK13 K13; refine HQ_post rfl rfl (.cons (res_cellA (vs := [_]) rfl (known_L (k := 0) rfl) rfl rfl) (.cons (res_tmp rfl) .nil)) (fun w1 hs1 => ?_); rw [hput, if_neg (by omega), if_neg (by omega), if_pos (by omega)]; exact ⟨⟨s, 5, [], hs, rfl⟩, rfl, hs1.weakL (List.nil_sublist _)⟩
      · try exact Bool.noConfusion h15
        try simp only [Z1, Z2, Z3, Z4, Z5, Z6, Z7, Z8, Z9, Z10, Z11, Z12, Z13] at h15
        refine HC_skip ?_; refine HQ_then ?_; refine hK13 _ _ _ _ ?_; clear hK13 K13; refine HC_seq fun K17 hK17 => ?_; refine HC_region ?_; refine HL_r rfl rfl rfl rfl (R_move rfl) ?_
        refine HL_r rfl rfl rfl rfl (R_build (r := [rowV _ row]) rfl (by cases row <;> rfl)) ?_; refine HL_storeA (k := 0) (n := 1) (cs' := #[rowV (insL AcL.addr a s.accts).length row]) (vs := #[_]) rfl rfl rfl rfl rfl rfl (by show (oneB (rowV _ _) && true) = true; rw [rowV_one]; rfl) (by exact Nat.le_of_ble_eq_true rfl) rfl rfl ?_; refine HL_r rfl rfl rfl rfl (R_assign rfl) ?_; refine HL_nil ?_; refine HQ_then ?_; refine hK17 _ _ _ _ ?_; clear hK17 K17; refine HC_ret ?_; refine HQ_post rfl rfl (.cons (res_cellA (vs := [_]) rfl (known_L (k := 0) rfl) rfl rfl) (.cons (res_tmp rfl) .nil)) (fun w1 hs1 => ?_)
        (rw [hput, if_neg (by omega), if_neg (by omega), if_neg (by omega)]
         exact ⟨⟨⟨insL AcL.addr a s.accts, rowP row⟩, 0, rowL 55 ((insL AcL.addr a s.accts).flatMap AcL.cells) row, ⟨by show (insL AcL.addr a s.accts).length ≤ 9223372036854775807; omega, (rowP_seg hrow (by decide)).mono fun q hq => List.mem_append_left _ hq, fun x hx => ((ins_mem hx).elim (fun e => by rw [e]; exact ha) (hs.accts x)).mono fun q hq => List.mem_append_right _ hq⟩, by unfold StL.er; rw [ins_er]⟩, by show Ending.returned _ = Ending.returned (Value.tuple #[Value.agg #[plV (insL AcL.addr a s.accts).length (rowP row)], .int .i64 0]); rw [rowP_V _ _ hrow.zero]; rfl, hs1.weakL (List.sublist_append_right [_, _, _] _)⟩)
end Go.Proofs.YtnkmbkndpoghdaaGreat
/-! ### Iterators that hand out what lies in blocks of their own; calls that lay new blocks in a region that draws -/
namespace Go.SL
set_option linter.all false
open Go Go.RowKit Go.Shelf
open Go.Proofs (Enters enters_of)
/-- As 'Iter'; with each element go blocks of the iterator's own, that may be read. -/
def IterB {ι : Type} (P : Program) (gf : FuncId) (caps : List Value) (Rl : List (Nat × Obj)) (p0 : ι) (nx : ι → List Value → List (Nat × Obj) → ι → Prop) (fin : ι → Prop) : Prop :=
  ∀ (q : Nat) (xids : List Nat) (w2 : World) (XI : ι → XP) (XF : XP),
    (∀ p ∈ Rl, p.1 ∉ xids ∧ w2.heap[p.1]? = some p.2) → (∀ k ∈ xids, k < w2.heap.size) → Foot xids (XI p0) w2 →
    (∀ i v B i', nx i v B i' → ∀ xs w, (∀ k ∈ xs, k < w.heap.size ∧ (k ∈ xids ∨ w2.heap.size ≤ k)) → Keep xids w2 w → Foot xs (XI i) w → Has B w → (∀ p ∈ B, p.1 ∉ xs ∧ p.1 ∉ xids) → YS P q v.toArray xs w (XI i') XF) →
    Calls P gf (.func (.yield q) #[] #[] :: caps).toArray w2 fun e w' => (∃ v, e = .returned v) ∧ Keep xids w2 w' ∧ ((∃ i xs, fin i ∧ XI i xs w') ∨ ∃ xs, XF xs w')
section
variable {c : Cx} {l : List (Nat × Value)} {L : List (Nat × Obj)} {X : XP} {Q : Exit → Act → World → Prop} {d : List Deferred}
variable {ops : Array Oper} {rest : List Oper} {i : Nat} {v : Value} {t : TypeId} {ps : String} {af : Array Edge} {gd : Option (Nat × Bool)} {ty : TypeId}
theorem HL_yieldB {B : List (Nat × Obj)} {f : Operand} {args : Array Operand} {at_ : Array TypeId} {q : Nat} {vs : List Value} {XT XF : XP}
    (hg : goes l ops ⟨some i, .call ⟨.value f, args, at_⟩, ty, ps, af, gd⟩ = some true) (hi : Nat.ble (i + 1) c.n = true)
    (hf : evl l f = some (.func (.yield q) #[] #[])) (ha : evs l args.toList = some vs)
    (hY : ∀ xs w, (∀ k ∈ xs, k < w.heap.size ∧ (k ∈ c.xids ∨ c.w1.heap.size ≤ k)) → Keep (c.ids ++ c.xids) c.w1 w → Foot xs X w → Has B w → (∀ p ∈ B, p.1 ∉ xs ∧ p.1 ∉ c.xids) → YS c.P q vs.toArray xs w XT XF) (hBL : ∀ p ∈ B, p ∈ L)
    (h1 : HL c d ((i, .bool true) :: l) L XT ops rest Q) (h0 : HL c d ((i, .bool false) :: l) L XF ops rest Q) : HL c d l L X ops (⟨some i, .call ⟨.value f, args, at_⟩, ty, ps, af, gd⟩ :: rest) Q := fun a w hfr hs => by
  refine wpListIn_do (goes_wanted hfr hg) rfl ?_
  obtain ⟨xs, hx1, hx2⟩ := hs.x
  obtain ⟨fn, tmps, assign, body, hy, hR⟩ := hY xs w (fun k hk => ⟨(hx1 k hk).2.1, (hx1 k hk).1⟩) hs.keep hx2 (fun p hp => (hs.own p (hBL p hp)).2.2) (fun p hp => ⟨fun hm => (hx1 _ hm).2.2 p (hBL p hp) rfl, (hs.own p (hBL p hp)).2.1⟩)
  have h2 := hfr.evals ha
  have h3 : args.map a.eval = vs.toArray := by apply Array.toList_inj.1; rw [Array.toList_map]; simpa using h2
  have h4 : a.eval f = .func (.yield q) #[] #[] := hfr.eval hf
  have hrun : (execOp a.eval ⟨some i, .call ⟨.value f, args, at_⟩, ty, ps, af, gd⟩).run c.P w = .ok (.round q fn tmps assign body) w := by
    simp only [execOp, Sem.run_bind]
    simp [resolve, h3, h4, Deferred.ofValue, Result.andThen, invoke, hy]
  rw [hrun, Oper.uponIn_round]
  refine ⟨fun hdep => (by cases hdep), ?_⟩
  refine RoundIn.mono (show RoundIn (FW c.ro) (0 - 1) c.P q fn tmps assign body w _ from hR) ?_
  rintro e w' ⟨b, xs', rfl, hxs, hk, hb⟩
  have hs' : ∀ X', Foot xs' X' w' → St c L X' w' := fun X' hx => by
    refine ⟨hs.keep.glue hk fun k hm => ?_, fun p hp => ?_, hs.distinct, hs.ext, hs.xlt, xs', fun k hm => ?_, hx⟩
    · rcases (hx1 k hm).1 with g | g
      · exact .inl (List.mem_append_right _ g)
      · exact .inr g
    · obtain ⟨g1, g2, g3⟩ := hs.own p hp
      exact ⟨g1, g2, (hk.block p.1 (lt_of_some g3) fun hm => (hx1 _ hm).2.2 p hp rfl).trans g3⟩
    · obtain ⟨g1, g2⟩ := hxs k hm
      refine ⟨g2.elim (fun g => (hx1 k g).1) fun g => .inr (Nat.le_trans hs.keep.size g), g1, fun p hp => ?_⟩
      rcases g2 with g | g
      · exact (hx1 k g).2.2 p hp
      · have := lt_of_some (hs.own p hp).2.2; omega
  cases b with
  | true => exact h1 _ w' (hfr.put (Nat.le_of_ble_eq_true hi)) (hs' XT (by simpa using hb))
  | false => exact h0 _ w' (hfr.put (Nat.le_of_ble_eq_true hi)) (hs' XF (by simpa using hb))
theorem HC_rangeB {ι σ τ : Type} {f : Operand} {pp : List Nat} {assign body : Code} {gf : FuncId} {caps : List Value} {Rl : List (Nat × Obj)} {p0 : ι} {nx : ι → List Value → List (Nat × Obj) → ι → Prop} {fi : ι → Prop}
    (I : ι → σ → Prop) (LI : σ → List (Nat × Obj)) (E : Code → τ → Prop) (LE : τ → List (Nat × Obj)) (Lk : List (Nat × Obj)) (s0 : σ)
    (hro : c.ro = none) (hf : evl l f = some (.func (.func gf) #[] caps.toArray)) (eg : Enters c.P gf) (hit : IterB c.P gf caps Rl p0 nx fi) (hlen : ∀ i v B i', nx i v B i' → v.length = pp.length) (hpp : pp.all (Nat.blt · c.n) = true)
    (hRl : ∀ p ∈ Rl, p ∈ Lk ∨ p ∈ c.R) (hL : L = LI s0 ++ Lk) (h0 : I p0 s0)
    (hround : ∀ (q : Nat) (Xr Xb : XP) (w3 : World) (i : ι) (v : List Value) (B : List (Nat × Obj)) (i' : ι) (s : σ), nx i v B i' → I i s → ∀ K, BodyK (cxR c q w3 (idsOf (LI s)) (B ++ Lk)) Xr Xb body (roundQ (cxR c q w3 (idsOf (LI s)) (B ++ Lk)) Xb (I i') LI E LE) K →
      HC (cxR c q w3 (idsOf (LI s)) (B ++ Lk)) [] (zipL pp v l) (LI s) Xr assign (Exit.then K fun _ _ _ => False))
    (hdone : ∀ D i s, fi i → I i s → HQ c (markOf D :: d) l ((D, .deferred (some [])) :: (LI s ++ Lk)) X (Q .normal))
    (hstop : ∀ D j s, E j s → HC c (markOf D :: d) l ((D, .deferred (some [])) :: (LE s ++ Lk)) X j Q) :
    HC c d l L X (.rangeFunc f pp.toArray assign body) Q := fun a w hfr hs => by
  subst hL
  refine wpIn_rangeFunc ?_
  intro fn _
  have e0 : (FW c.ro).round = none := by rw [hro]; rfl
  rw [e0]
  obtain ⟨r, hr⟩ : ∃ r : Loop, r = { state := .ready, pending := none, fn, tmps := a.tmps, params := pp.toArray, assign, body, defers := w.heap.size } := ⟨_, rfl⟩
  obtain ⟨w2, hw2⟩ : ∃ w2, (w.alloc (.deferred (some []))).alloc (.loop r) = w2 := ⟨_, rfl⟩
  have hq : (w.alloc (.deferred (some []))).heap.size = w.heap.size + 1 := World.size_alloc _ _
  have hs2 : St c ((w.heap.size + 1, .loop r) :: (w.heap.size, .deferred (some [])) :: (LI s0 ++ Lk)) X w2 := by
    have := (hs.alloc (.deferred (some []))).alloc (.loop r)
    rw [hq, hw2] at this
    exact this
  have hq2 : w2.heap[w.heap.size + 1]? = some (.loop r) := (hs2.own _ List.mem_cons_self).2.2
  have hrr : ({ r with state := .ready, pending := none } : Loop) = r := by rw [hr]
  obtain ⟨M, hM⟩ : ∃ M, idsOf (LI s0) = M := ⟨_, rfl⟩
  refine ⟨w.heap.size + 1, [markOf w.heap.size], w2, { target := .fn (.func gf) caps.toArray, args := #[.func (.yield (w.heap.size + 1)) #[] #[]] }, w2, gf, (.func (.yield (w.heap.size + 1)) #[] #[] :: caps).toArray, w2, ?_, ?_, fun _ _ => trivial, ?_, fun hdep => (by cases hdep), ?_⟩
  · rw [← hw2, hr]; exact run_enterLoop_outer _ _ _ _ _
  · have := hfr.eval hf
    simp only [resolve, this]
    simp [Deferred.ofValue]
    rfl
  · have := eg (#[.func (.yield (w.heap.size + 1)) #[] #[]] ++ caps.toArray) w2
    have e1 : (#[Value.func (.yield (w.heap.size + 1)) #[] #[]] ++ caps.toArray) = (Value.func (.yield (w.heap.size + 1)) #[] #[] :: caps).toArray := by apply Array.toList_inj.1; simp
    rw [e1] at this
    simpa [invoke] using this
  · -- the iterator's contract at our invariant
    have hown := hs2.distinct
    have hMown : ∀ k ∈ M, ∃ o, (k, o) ∈ LI s0 := fun k hk => by
      rw [← hM] at hk
      obtain ⟨p, hp, rfl⟩ := List.mem_map.1 hk
      exact ⟨p.2, hp⟩
    have hpw := List.pairwise_cons.1 hown
    have hpw2 := List.pairwise_cons.1 hpw.2
    have hpw3 := List.pairwise_append.1 hpw2.2
    have hsz2 : w2.heap.size = w.heap.size + 2 := by rw [← hw2, World.size_alloc, World.size_alloc]
    have hLk2 : ∀ p ∈ Lk, p.1 < w2.heap.size := fun p hp => lt_of_some (hs2.own p (List.mem_cons_of_mem _ (List.mem_cons_of_mem _ (List.mem_append_right _ hp)))).2.2
    have hMk : ∀ p ∈ Lk, p.1 ∉ M ∧ p.1 ≠ w.heap.size + 1 := fun p hp => ⟨fun hm => by
      obtain ⟨o, ho⟩ := hMown _ hm
      exact hpw3.2.2 _ ho _ hp rfl, fun e => hpw.1 p (List.mem_cons_of_mem _ (List.mem_append_right _ hp)) e.symm⟩
    have hMq : w.heap.size + 1 ∉ M := fun hm => by
      obtain ⟨o, ho⟩ := hMown _ hm
      exact hpw.1 _ (List.mem_cons_of_mem _ (List.mem_append_left _ ho)) rfl
    have hMD : w.heap.size ∉ M := fun hm => by
      obtain ⟨o, ho⟩ := hMown _ hm
      exact hpw2.1 _ (List.mem_append_left _ ho) rfl
    have hMlt : ∀ k ∈ M, k < w2.heap.size := fun k hk => by
      obtain ⟨o, ho⟩ := hMown _ hk
      exact lt_of_some (hs2.own _ (List.mem_cons_of_mem _ (List.mem_cons_of_mem _ (List.mem_append_left _ ho)))).2.2
    -- what a place of one's own is apart from
    have apart : ∀ {k : Nat}, (k ∈ M ∨ w2.heap.size ≤ k) → k ≠ w.heap.size + 1 ∧ k ≠ w.heap.size ∧ (∀ p ∈ Lk, p.1 ≠ k) := fun {k} hk => by
      rcases hk with hk | hk
      · exact ⟨fun e => hMq (e ▸ hk), fun e => hMD (e ▸ hk), fun p hp e => (hMk p hp).1 (e ▸ hk)⟩
      · exact ⟨by omega, by omega, fun p hp e => by have := hLk2 p hp; omega⟩
    have apartR : ∀ {k : Nat}, (k ∈ M ∨ w2.heap.size ≤ k) → ∀ p ∈ c.R, p.1 ≠ k := fun {k} hk p hp e => by
      obtain ⟨e1, _, e3⟩ := hs2.ext p hp
      have h1 := lt_of_some e3
      have h2 := hs.keep.size
      rcases hk with hk | hk
      · obtain ⟨o, ho⟩ := hMown _ hk
        rcases (hs2.own _ (List.mem_cons_of_mem _ (List.mem_cons_of_mem _ (List.mem_append_left _ ho)))).1 with g | g
        · exact e1 (e ▸ g)
        · simp only at g; omega
      · omega
    have hcalls := hit (w.heap.size + 1) ((w.heap.size + 1) :: M) w2 (fun i => loopX (w.heap.size + 1) w2.heap.size M r (I i) LI)
      (fun xs w' => ∃ j, loopX (w.heap.size + 1) w2.heap.size M { r with state := .done, pending := some j } (E j) LE xs w')
      (fun p hp => by
        rcases hRl p hp with hL | hR
        · refine ⟨fun hm => ?_, (hs2.own p (List.mem_cons_of_mem _ (List.mem_cons_of_mem _ (List.mem_append_right _ hL)))).2.2⟩
          obtain ⟨h1, h2⟩ := hMk p hL
          rcases List.mem_cons.1 hm with hm | hm
          · exact h2 hm
          · exact h1 hm
        · refine ⟨fun hm => ?_, hs2.readR hR⟩
          rcases List.mem_cons.1 hm with hm | hm
          · have h1 := lt_of_some (hs2.ext p hR).2.2
            have h2 := hs.keep.size
            omega
          · exact apartR (.inl hm) p hR rfl)
      (fun k hk => by
        rcases List.mem_cons.1 hk with rfl | hk
        · exact lt_of_some hq2
        · exact hMlt k hk)
      (by
        have := foot_loopX (q := w.heap.size + 1) (B := w2.heap.size) (M := M) (rec := r) (I := I p0) (LI := LI) s0 h0 hpw3.1 (fun p hp => .inl (by rw [← hM]; exact List.mem_map_of_mem (f := (·.1)) hp)) (fun p hp => (hs2.own _ (List.mem_cons_of_mem _ (List.mem_cons_of_mem _ (List.mem_append_left _ hp)))).2.2) hq2
        rw [hM] at this
        exact this)
      ?_
    · refine CallsIn.mono (show CallsIn (FW c.ro) (0 - 1) c.P gf _ w2 _ from callsIn_wide (n := 0) |>.2 hcalls) ?_
      rintro e w' ⟨⟨v, rfl⟩, hk, hfin⟩
      have fin : ∀ (st : LoopState) (pe : Option Code) (LL : List (Nat × Obj)), st ≠ .busy → LL.Pairwise (fun p q => p.1 ≠ q.1) → (∀ p ∈ LL, p.1 ∈ M ∨ w2.heap.size ≤ p.1) → Has LL w' → w'.heap[w.heap.size + 1]? = some (.loop { r with state := st, pending := pe }) →
          (Instr.endLoop (w.heap.size + 1)).run c.P w' = .ok pe (w'.putObj (w.heap.size + 1) (.loop { r with state := .exhausted, pending := pe })) ∧
          St c ((w.heap.size, .deferred (some [])) :: (LL ++ Lk)) X (w'.putObj (w.heap.size + 1) (.loop { r with state := .exhausted, pending := pe })) := by
        intro st pe LL hst hpwL hLM hLL hl
        refine ⟨run_endLoop hl hst, ?_⟩
        have hk2 : Keep ((w.heap.size + 1) :: M) w2 (w'.putObj (w.heap.size + 1) (.loop { r with state := .exhausted, pending := pe })) :=
          hk.trans ((Keep.putObj _ _).weak fun k hm => by simp at hm; subst hm; exact List.mem_cons_self)
        have hput : ∀ k, k ≠ w.heap.size + 1 → (w'.putObj (w.heap.size + 1) (.loop { r with state := .exhausted, pending := pe })).heap[k]? = w'.heap[k]? := fun k hne => World.putObj_heap_other hne
        refine hs2.jump hk2 (fun k hm => ?_) ?_ (fun p hp => ?_)
        · rcases List.mem_cons.1 hm with rfl | hm
          · exact ⟨_, List.mem_cons_self⟩
          · obtain ⟨o, ho⟩ := hMown k hm
            exact ⟨o, List.mem_cons_of_mem _ (List.mem_cons_of_mem _ (List.mem_append_left _ ho))⟩
        · refine List.pairwise_cons.2 ⟨fun p hp => ?_, List.pairwise_append.2 ⟨hpwL, hpw3.2.1, fun p hp p' hp' => ?_⟩⟩
          · rcases List.mem_append.1 hp with hp | hp
            · exact fun e => (apart (hLM p hp)).2.1 e.symm
            · exact hpw2.1 p (List.mem_append_right _ hp)
          · exact fun e => (apart (hLM p hp)).2.2 p' hp' e.symm
        · rcases List.mem_cons.1 hp with rfl | hp
          · refine ⟨.inl ⟨_, List.mem_cons_of_mem _ List.mem_cons_self⟩, ?_⟩
            rw [hput _ (by simp)]
            refine (hk.block w.heap.size (lt_of_some (hs2.own _ (List.mem_cons_of_mem _ List.mem_cons_self)).2.2) ?_).trans (hs2.own _ (List.mem_cons_of_mem _ List.mem_cons_self)).2.2
            simp only [List.mem_cons, not_or]; exact ⟨by omega, hMD⟩
          · rcases List.mem_append.1 hp with hp | hp
            · refine ⟨?_, ?_⟩
              · rcases hLM p hp with g | g
                · obtain ⟨o, ho⟩ := hMown _ g
                  exact .inl ⟨o, List.mem_cons_of_mem _ (List.mem_cons_of_mem _ (List.mem_append_left _ ho))⟩
                · exact .inr g
              · rw [hput _ (apart (hLM p hp)).1]
                exact hLL p hp
            · have hmem := List.mem_cons_of_mem (w.heap.size + 1, Obj.loop r) (List.mem_cons_of_mem (w.heap.size, Obj.deferred (some [])) (List.mem_append_right (LI s0) hp))
              refine ⟨.inl ⟨p.2, hmem⟩, ?_⟩
              obtain ⟨g1, g2⟩ := hMk p hp
              rw [hput _ g2]
              refine (hk.block p.1 (lt_of_some (hs2.own _ hmem).2.2) ?_).trans (hs2.own _ hmem).2.2
              simp only [List.mem_cons, not_or]; exact ⟨g2, g1⟩
      have hfr2 : Fr c.n (markOf w.heap.size :: d) l { tmps := a.tmps, defers := [markOf w.heap.size] ++ a.defers } := ⟨hfr.size, by simp [hfr.defers], hfr.slots⟩
      rcases hfin with ⟨i, xs, hi, ⟨s, h1, h2, h3, h4, _⟩, h5⟩ | ⟨xs, j, ⟨s, h1, h2, h3, h4, _⟩, h5⟩
      · obtain ⟨g1, g2⟩ := fin .ready none (LI s) (by simp) h2 h3 h4 (by rw [hrr]; exact h5)
        exact ⟨none, _, g1, hdone _ i s hi h1 _ _ hfr2 g2⟩
      · obtain ⟨g1, g2⟩ := fin .done (some j) (LE s) (by simp) h2 h3 h4 h5
        exact ⟨some j, _, g1, hstop _ j s h1 _ _ hfr2 g2⟩
    · -- a round
      rintro i v B i' hi xs w3 hxs hk3 hfoot hB hBx
      obtain ⟨⟨s, h1, hpwS, hMS, h2, rfl⟩, h3⟩ := hfoot w3 fun _ _ => rfl
      have hargs : v.toArray.size = r.params.size := by rw [hr]; simpa using hlen i v B i' hi
      have hy := run_yield (P := c.P) (args := v.toArray) h3 hargs
      refine ⟨_, _, _, _, hy, ?_⟩
      obtain ⟨c3, hc3⟩ : ∃ c3, cxR c (w.heap.size + 1) w3 (idsOf (LI s)) (B ++ Lk) = c3 := ⟨_, rfl⟩
      have hc3x : c3.xids = [w.heap.size + 1] := by rw [← hc3]; rfl
      have hc3i : c3.ids = idsOf (LI s) := by rw [← hc3]; rfl
      have hc3w : c3.w1 = w3 := by rw [← hc3]; rfl
      have hmemS : ∀ p ∈ LI s, p.1 ∈ idsOf (LI s) := fun p hp => List.mem_map_of_mem (f := (·.1)) hp
      have hidS : ∀ {k : Nat}, k ∈ idsOf (LI s) → k ∈ M ∨ w2.heap.size ≤ k := fun {k} hk => by
        obtain ⟨p, hp, rfl⟩ := List.mem_map.1 hk
        exact hMS p hp
      have hst3 : St c3 (LI s) (recX (w.heap.size + 1) r) w3 := by
        subst hc3
        refine ⟨Keep.refl _ _, fun p hp => ⟨.inl (hmemS p hp), ?_, h2 p hp⟩, hpwS, ?_, ?_, [w.heap.size + 1], fun k hk => ?_, fun w' hw' => (hw' _ (by simp)).trans h3⟩
        · simp only [cxR, List.mem_singleton]; exact (apart (hMS p hp)).1
        · intro p hp
          simp only [cxR] at hp ⊢
          rcases List.mem_append.1 hp with hp | hp
          · rcases List.mem_append.1 hp with hp | hp
            · obtain ⟨b1, _⟩ := hBx p hp
              exact ⟨fun hm => b1 (List.mem_cons_of_mem _ hm), by simp only [List.mem_singleton]; exact fun e => b1 (by rw [e]; exact List.mem_cons_self), hB p hp⟩
            obtain ⟨g1, g2⟩ := hMk p hp
            refine ⟨fun hm => (apart (hidS hm)).2.2 p hp rfl, by simpa using g2, ?_⟩
            have hmem := List.mem_cons_of_mem (w.heap.size + 1, Obj.loop r) (List.mem_cons_of_mem (w.heap.size, Obj.deferred (some [])) (List.mem_append_right (LI s0) hp))
            exact (hk3.block p.1 (lt_of_some (hs2.own _ hmem).2.2) (by simp only [List.mem_cons, not_or]; exact ⟨g2, g1⟩)).trans (hs2.own _ hmem).2.2
          · have e3 := hs2.readR hp
            have hlt := lt_of_some (hs2.ext p hp).2.2
            have hsz := hs.keep.size
            have hnq : p.1 ≠ w.heap.size + 1 := fun e => by omega
            refine ⟨fun hm => apartR (hidS hm) p hp rfl, by simpa using hnq, ?_⟩
            exact (hk3.block p.1 (lt_of_some e3) (by simp only [List.mem_cons, not_or]; exact ⟨hnq, fun hm => apartR (.inl hm) p hp rfl⟩)).trans e3
        · intro k hk; simp only [cxR, List.mem_singleton] at hk; subst hk; exact lt_of_some h3
        · simp only [List.mem_singleton] at hk
          subst hk
          exact ⟨.inl (by simp [cxR]), lt_of_some h3, fun p hp => (apart (hMS p hp)).1⟩
      have hbusy : ∀ {LL : List (Nat × Obj)} {w' : World}, St c3 LL (recX (w.heap.size + 1) r) w' →
          St c3 LL (recX (w.heap.size + 1) { r with state := .busy, pending := none }) (w'.putObj (w.heap.size + 1) (.loop { r with state := .busy, pending := none })) := by
        intro LL w' hst
        have hlt : w.heap.size + 1 < w'.heap.size := lt_of_some hst.recd
        refine ⟨hst.keep.trans ((Keep.putObj _ _).weak fun k hm => by simp at hm; subst hm; rw [hc3x]; simp), fun p hp => ?_, hst.distinct, hst.ext, hst.xlt, [w.heap.size + 1], fun k hk => ?_, fun w'' hw'' => (hw'' _ (by simp)).trans (World.putObj_heap_same hlt)⟩
        · obtain ⟨g1, g2, g3⟩ := hst.own p hp
          refine ⟨g1, g2, (World.putObj_heap_other ?_).trans g3⟩
          intro e; exact g2 (by rw [e, hc3x]; simp)
        · simp only [List.mem_singleton] at hk
          subst hk
          exact ⟨.inl (by rw [hc3x]; simp), Nat.lt_of_lt_of_le hlt (Keep.putObj _ _).size, fun p hp e => (hst.own p hp).2.1 (by rw [hc3x, e]; simp)⟩
      have hfr3 : Fr c3.n [] (zipL pp v l) { tmps := (r.params.zip v.toArray).foldl (fun (t : Array Value) (pv : Nat × Value) => t.setIfInBounds pv.1 pv.2) r.tmps, defers := [] } := by
        have h5 := fr_zip (n := c.n) pp v l a.tmps (fun p hp => by have := List.all_eq_true.1 hpp p hp; simpa using this) ⟨hfr.size, rfl, hfr.slots⟩
        rw [hr, ← hc3]
        simp only [List.zip_toArray, List.foldl_toArray']
        exact h5
      have key : ∀ RR : Ending → World → Prop,
          (∀ s' w', I i' s' → St c3 (LI s') (recX (w.heap.size + 1) { r with state := .busy, pending := none }) w' → RR (.returned (.bool true)) (w'.putObj (w.heap.size + 1) (.loop { r with state := .ready, pending := none }))) →
          (∀ j s' w', E j s' → St c3 (LE s') (recX (w.heap.size + 1) { r with state := .busy, pending := none }) w' → RR (.returned (.bool false)) (w'.putObj (w.heap.size + 1) (.loop { r with state := .done, pending := some j }))) →
          RoundIn (FW none) 0 c.P (w.heap.size + 1) r.fn ((r.params.zip v.toArray).foldl (fun (t : Array Value) (pv : Nat × Value) => t.setIfInBounds pv.1 pv.2) r.tmps) r.assign r.body w3 RR := by
        intro RR g1 g2
        refine roundIn_of_wpIn (F := FW none) trivial ?_
        have hround' := hround (w.heap.size + 1) (recX (w.heap.size + 1) r) (recX (w.heap.size + 1) { r with state := .busy, pending := none }) w3 i v B i' s hi h1
          (fun a₁ w₁ => ∃ w₂, (Instr.beginRound (w.heap.size + 1)).run c.P w₁ = .ok () w₂ ∧ body.wpIn ((FW none).inRound (w.heap.size + 1)) 0 c.P (roundPost c.P (w.heap.size + 1) RR) a₁ w₂)
        rw [hc3] at hround'
        have hround'' := hround' (fun l' L' hb a₁ w₁ hf₁ hs₁ => ?_) _ w3 hfr3 hst3
        · have e1 : r.assign = assign := by rw [hr]
          have e2 : r.body = body := by rw [hr]
          have e3 : c3.P = c.P := by rw [← hc3]; rfl
          have e4 : c3.ro = some (w.heap.size + 1) := by rw [← hc3]; rfl
          rw [e3, e4] at hround''
          rw [e1, e2]
          exact hround''
        · have hx1 : w₁.heap[w.heap.size + 1]? = some (.loop r) := hs₁.recd
          refine ⟨_, run_beginRound hx1 (by rw [hr]), ?_⟩
          have hb2 := hb a₁ _ hf₁ (hbusy hs₁)
          have hb3 : ({ r with state := .busy } : Loop) = { r with state := .busy, pending := none } := by rw [hr]
          rw [hb3]
          have e3 : c3.P = c.P := by rw [← hc3]; rfl
          have e4 : c3.ro = some (w.heap.size + 1) := by rw [← hc3]; rfl
          rw [e3, e4] at hb2
          refine wpIn_mono (show body.wpIn ((FW none).inRound (w.heap.size + 1)) 0 c.P _ a₁ _ from hb2) ?_
          have := roundQ_post (c3 := c3) (q := w.heap.size + 1) (r := { r with pending := none }) (R := RR) g1 g2
          rw [e3] at this
          exact this
      have turn : ∀ (st : LoopState) (pe : Option Code) (LL : List (Nat × Obj)) (w' : World), St c3 LL (recX (w.heap.size + 1) { r with state := .busy, pending := none }) w' →
          (∀ k ∈ (w.heap.size + 1) :: idsOf LL, k < (w'.putObj (w.heap.size + 1) (.loop { r with state := st, pending := pe })).heap.size ∧ (k ∈ (w.heap.size + 1) :: idsOf (LI s) ∨ w3.heap.size ≤ k)) ∧
          Keep ((w.heap.size + 1) :: idsOf (LI s)) w3 (w'.putObj (w.heap.size + 1) (.loop { r with state := st, pending := pe })) ∧ (∀ p ∈ LL, p.1 ∈ M ∨ w2.heap.size ≤ p.1) ∧ Has LL (w'.putObj (w.heap.size + 1) (.loop { r with state := st, pending := pe })) ∧
          (w'.putObj (w.heap.size + 1) (.loop { r with state := st, pending := pe })).heap[w.heap.size + 1]? = some (.loop { r with state := st, pending := pe }) := by
        intro st pe LL w' hst'
        have hlt : w.heap.size + 1 < w'.heap.size := lt_of_some hst'.recd
        have hk' := hst'.keep
        rw [hc3x, hc3i, hc3w] at hk'
        have hown' : ∀ p ∈ LL, (p.1 ∈ idsOf (LI s) ∨ w3.heap.size ≤ p.1) ∧ p.1 ≠ w.heap.size + 1 ∧ w'.heap[p.1]? = some p.2 := fun p hp => by
          have := hst'.own p hp
          rw [hc3x, hc3i, hc3w] at this
          simpa using this
        refine ⟨fun k hk => ?_, ?_, fun p hp => ?_, fun p hp => (World.putObj_heap_other (hown' p hp).2.1).trans (hown' p hp).2.2, World.putObj_heap_same hlt⟩
        · rcases List.mem_cons.1 hk with rfl | hk
          · exact ⟨Nat.lt_of_lt_of_le hlt (Keep.putObj _ _).size, .inl List.mem_cons_self⟩
          · obtain ⟨p, hp, rfl⟩ := List.mem_map.1 hk
            obtain ⟨e1, e2, e3⟩ := hown' p hp
            exact ⟨Nat.lt_of_lt_of_le (lt_of_some e3) (Keep.putObj _ _).size, e1.imp (List.mem_cons_of_mem _) id⟩
        · refine (hk'.weak fun k hm => ?_).trans ((Keep.putObj _ _).weak fun k hm => by simp at hm; subst hm; exact List.mem_cons_self)
          rcases List.mem_append.1 hm with hm | hm
          · exact List.mem_cons_of_mem _ hm
          · simp only [List.mem_singleton] at hm; subst hm; exact List.mem_cons_self
        · rcases (hown' p hp).1 with g | g
          · exact hidS g
          · exact .inr (Nat.le_trans hk3.size g)
      refine key _ ?_ ?_
      · intro s' w' hI' hst'
        obtain ⟨t1, t2, t3, t4, t5⟩ := turn .ready none (LI s') w' hst'
        refine ⟨true, _, rfl, t1, t2, ?_⟩
        rw [if_pos rfl]
        exact foot_loopX s' hI' hst'.distinct t3 t4 (by rw [hrr] at t5 ⊢; exact t5)
      · intro j s' w' hE' hst'
        obtain ⟨t1, t2, t3, t4, t5⟩ := turn .done (some j) (LE s') w' hst'
        refine ⟨false, _, rfl, t1, t2, ?_⟩
        rw [if_neg (by simp)]
        exact fun w'' hw'' => ⟨j, foot_loopX s' hE' hst'.distinct t3 t4 t5 w'' hw''⟩
end
theorem iterB_of_HC {ι : Type} {P : Program} {f : FuncId} {fn : Func} {code : Code} {caps : List Value} {Rl : List (Nat × Obj)} {p0 : ι} {nx : ι → List Value → List (Nat × Obj) → ι → Prop} {fin : ι → Prop} (hf : P.funcs[f]? = some fn) (hb : fn.body = some code) (hlen : Nat.ble (caps.length + 1) fn.ntmps = true)
    (h : ∀ (q : Nat) (xids : List Nat) (w2 : World) (XI : ι → XP) (XF : XP),
      (∀ i v B i', nx i v B i' → ∀ xs w, (∀ k ∈ xs, k < w.heap.size ∧ (k ∈ xids ∨ w2.heap.size ≤ k)) → Keep ([] ++ xids) w2 w → Foot xs (XI i) w → Has B w → (∀ p ∈ B, p.1 ∉ xs ∧ p.1 ∉ xids) → YS P q v.toArray xs w (XI i') XF) →
      HC ⟨P, none, w2, [], xids, Rl, fn.ntmps⟩ [] (frame0 0 (.func (.yield q) #[] #[] :: caps)) [] (XI p0) code
        (bodyPostM (FW none) 0 P fn (fun e w' => (∃ v, e = .returned v) ∧ Keep ([] ++ xids) w2 w' ∧ ((∃ i xs, fin i ∧ XI i xs w') ∨ ∃ xs, XF xs w')))) : IterB P f caps Rl p0 nx fin :=
  fun q xids w2 XI XF hR hlt h0 hY =>
    calls_of_HC ⟨P, none, w2, [], xids, Rl, fn.ntmps⟩ hf hb rfl rfl rfl hlen
      ⟨Keep.refl _ _, by simp, by simp, fun p hp => ⟨by simp, (hR p hp).1, (hR p hp).2⟩, hlt, xids, fun k hk => ⟨.inl hk, hlt k hk, by simp⟩, h0⟩ (h q xids w2 XI XF hY)
section
variable {c : Cx} {d : List Deferred} {l : List (Nat × Value)} {E : List (Nat × Obj)} {X : XP} {S : List (Nat × Obj)} {ops : Array Oper} {tb : Kbs} {rest : List Nat} {T : List (Nat × Obj) → Act → Prop} {k i : Nat}
theorem HB_callRE {α : Type} {x0 : α} {V : α → Value} {LL : α → List (Nat × Obj)} {Rl : List (Nat × Obj)} {f : Operand} {args : Array Operand} {at_ : Array TypeId} {g : FuncId} {vs : List Value} {ty : TypeId} {ps : String} {af : Array Edge} {gd : Option (Nat × Bool)}
    (hk : nth ops.toList k = some ⟨some i, .call ⟨.value f, args, at_⟩, ty, ps, af, gd⟩) (hg : goes l ops ⟨some i, .call ⟨.value f, args, at_⟩, ty, ps, af, gd⟩ = some true) (hi : Nat.ble (i + 1) c.n = true) (hA : tb k = .grow (geCall x0 V LL)) (hca : callArgs l f args = some (g, vs)) (eg : Enters c.P g)
    (hp : PureT c.P g vs.toArray V [] LL Rl) (hR : ∀ p ∈ Rl, p ∈ S ∨ p ∈ c.R) (h : ∀ x, HB c d ((i, V x) :: l) (LL x ++ E) X S ops tb rest T) : HB c d l E X S ops tb (k :: rest) T :=
  HB_grow (e := geCall x0 V LL) hk hg rfl hi hA (fun E' hE a w hf hs => act_call hf hca eg ((hp.run w (fun p hp => by cases hp) (fun p hp => (hR p hp).elim (fun h => (hs.own _ (hE p h)).2.2) hs.readR) List.Pairwise.nil (fun p _ q hq => by cases hq)).mono fun _ _ ⟨x, he, hk, h1, h2⟩ => ⟨V x, he, x, rfl, hk, (fun p hp => ⟨((h1 p hp).1).elim (fun h => by cases h) id, (h1 p hp).2⟩), h2⟩)) h
end
end Go.SL
namespace Go.Proofs.YtnkmbkndpoghdaaGreat
set_option linter.all false
open Go.SL Go.RowKit Go.Shelf
theorem forked_dec (f : Int) : decide (Forked f) = (decide (f ≥ 0) && decide (f ≤ 5)) := by
  rw [Bool.eq_iff_iff, Bool.and_eq_true, decide_eq_true_eq, decide_eq_true_eq, decide_eq_true_eq]; exact Iff.rfl
set_option maxRecDepth 10000 in
theorem P_forked (f : Int) : Pure Tryz.prog 58 [.int .i64 f].toArray (.bool (decide (Forked f))) := by
  rw [forked_dec]; refine pure_of_HC Tryz.func58 rfl rfl fun w => ?_; refine HC_seq fun K1 hK1 => ?_; refine HC_region ?_; refine HL_r rfl rfl rfl rfl (R_assign rfl) ?_; refine HL_nil ?_; refine HQ_then ?_; refine hK1 _ _ _ _ ?_; clear hK1 K1; refine HC_seq fun K2 hK2 => ?_; refine HC_region ?_; refine HL_r rfl rfl rfl rfl (R_move rfl) ?_; refine HL_r rfl rfl rfl rfl (R_pure rfl rfl rfl) ?_; refine HL_r rfl rfl rfl rfl (R_move rfl) ?_
  refine HL_case 5 rfl (fun hb3 => ?_) (fun hb3 => ?_) <;> (try simp only [Z1, Z2, Z3, Z4, Z5, Z6, Z7, Z8, Z9, Z10, Z11, Z12, Z13] at hb3) <;> first | (refine HL_r rfl rfl rfl rfl (R_move rfl) ?_) | (refine HL_skip rfl rfl rfl ?_)
  all_goals first
    | (refine HL_r rfl rfl rfl rfl (R_pure rfl rfl rfl) ?_)
    | (refine HL_skip rfl rfl rfl ?_)
  all_goals first
    | (refine HL_r rfl rfl rfl rfl (R_pickT rfl rfl) ?_)
    | (refine HL_r rfl rfl rfl rfl (R_pickF rfl rfl) ?_)
  all_goals refine HL_r rfl rfl rfl rfl (R_assign rfl) ?_
  all_goals refine HL_nil ?_
  all_goals (
   refine HQ_then ?_; refine hK2 _ _ _ _ ?_; clear hK2 K2; refine HC_ret ?_; refine HQ_post rfl rfl (.cons (res_tmp rfl) .nil) (fun w1 hs1 => ?_); refine ⟨?_, hs1.keep⟩
   simp_all [resVal]
   all_goals first | done | omega | trace_state
   skip)
theorem zero_wok : WOk w40.l := w40_ok.wok
set_option maxRecDepth 10000 in
theorem P_lnone : Pure Tryz.prog 50 [].toArray (strV noneB) := by
  rw [none_b]; refine pure_of_HC Tryz.func50 rfl rfl fun w => ?_; refine HC_seq fun K1 hK1 => ?_; refine HC_region ?_; refine HL_r rfl rfl rfl rfl (R_assign rfl) ?_; refine HL_nil ?_; refine HQ_then ?_; refine hK1 _ _ _ _ ?_; clear hK1 K1; refine HC_seq fun K2 hK2 => ?_; refine HC_region ?_; refine HL_r rfl rfl rfl rfl (R_build (r := [_, _, _, _]) rfl rfl) ?_; refine HL_callP rfl rfl rfl (enters_of Tryz.func51 (by kernel_rfl) rfl) (P_word_Fixed zero_wok) ?_; refine HL_r rfl rfl rfl rfl (R_assign rfl) ?_; refine HL_nil ?_; refine HQ_then ?_; refine hK2 _ _ _ _ ?_; clear hK2 K2; refine HC_ret ?_; refine HQ_post rfl rfl (.cons (res_tmp rfl) .nil) (fun w1 hs1 => ?_); exact ⟨rfl, hs1.keep⟩
set_option maxRecDepth 10000 in
theorem P_lkey {n : Nat} (h : U64 n) : Pure Tryz.prog 72 [uV n].toArray (strV (keyE n)) := by
  refine pure_of_HC Tryz.func72 rfl rfl fun w => ?_; refine HC_seq fun K1 hK1 => ?_; refine HC_region ?_; refine HL_r rfl rfl rfl rfl (R_assign rfl) ?_; refine HL_nil ?_; refine HQ_then ?_; refine hK1 _ _ _ _ ?_; clear hK1 K1; refine HC_seq fun K2 hK2 => ?_; refine HC_region ?_; refine HL_r rfl rfl rfl rfl (R_move rfl) ?_; refine HL_callP rfl rfl rfl (enters_of Tryz.func103 (by kernel_rfl) rfl) (P_word_Of n) ?_; refine HL_callP rfl rfl rfl (enters_of Tryz.func51 (by kernel_rfl) rfl) (P_word_Fixed (wN1_ok h).wok) ?_; refine HL_r rfl rfl rfl rfl (R_assign rfl) ?_; refine HL_nil ?_; refine HQ_then ?_; refine hK2 _ _ _ _ ?_; clear hK2 K2; refine HC_ret ?_; refine HQ_post rfl rfl (.cons (res_tmp rfl) .nil) (fun w1 hs1 => ?_); exact ⟨rfl, hs1.keep⟩
set_option maxRecDepth 10000 in
theorem P_Addr0 : Pure Tryz.prog 23 [.int .i64 0].toArray (strV A0) := by
  refine pure_of_HC Tryz.func23 rfl rfl fun w => ?_; refine HC_seq fun K1 hK1 => ?_; refine HC_region ?_; refine HL_r rfl rfl rfl rfl (R_assign rfl) ?_; refine HL_nil ?_; refine HQ_then ?_; refine hK1 _ _ _ _ ?_; clear hK1 K1; refine HC_seq fun K2 hK2 => ?_; refine HC_seq fun K3 hK3 => ?_; refine HC_region ?_; refine HL_r rfl rfl rfl rfl (R_move rfl) ?_; refine HL_r rfl rfl rfl rfl (R_pure rfl rfl rfl) ?_; refine HL_r rfl rfl rfl rfl (R_move rfl) ?_; refine HL_r rfl rfl rfl rfl (R_move rfl) ?_; refine HL_r rfl rfl rfl rfl (R_pure rfl rfl rfl) ?_; refine HL_r rfl rfl rfl rfl (R_pickF rfl rfl) ?_; refine HL_nil ?_; refine HQ_then ?_; refine hK3 _ _ _ _ ?_; clear hK3 K3; refine HC_cond rfl (fun h6 => ?_) (fun h6 => ?_)
  · try exact Bool.noConfusion h6
  · try exact Bool.noConfusion h6
    try simp only [Z1, Z2, Z3, Z4, Z5, Z6, Z7, Z8, Z9, Z10, Z11, Z12, Z13] at h6
    refine HC_skip ?_; refine HQ_then ?_; refine hK2 _ _ _ _ ?_; clear hK2 K2; refine HC_seq fun K8 hK8 => ?_; refine HC_region ?_; refine HL_make (n := 20) (b := 1) rfl rfl rfl rfl rfl rfl rfl rfl rfl (by decide) (by decide) fun r1 => ?_; refine HL_r rfl rfl rfl rfl (R_assign rfl) ?_; refine HL_nil ?_; refine HQ_then ?_; refine hK8 _ _ _ _ ?_; clear hK8 K8; refine HC_seq fun K9 hK9 => ?_; refine HC_region ?_; refine HL_r rfl rfl rfl rfl (R_move rfl) ?_; refine HL_r rfl rfl rfl rfl (R_move rfl) ?_; refine HL_r rfl rfl rfl rfl (R_move rfl) ?_; refine HL_r rfl rfl rfl rfl (R_pure rfl rfl rfl) ?_; refine HL_wrap_i64 (by omega) (by omega) ?_; refine HL_r rfl rfl rfl rfl (R_pure rfl rfl rfl) ?_; refine HL_wrap_u8 (by omega) (by omega) ?_; refine HL_r rfl rfl rfl rfl (R_indexS (j := 0) (m := 1) rfl rfl rfl rfl rfl (by decide) rfl) ?_; refine HL_store (k := 0) rfl rfl rfl rfl rfl rfl rfl rfl rfl rfl ?_; refine HL_r rfl rfl rfl rfl (R_indexS (j := 19) (m := 1) rfl rfl rfl rfl rfl (by decide) rfl) ?_; refine HL_store (k := 0) rfl rfl rfl rfl rfl rfl rfl rfl rfl rfl ?_; refine HL_nil ?_; refine HQ_then ?_; refine hK9 _ _ _ _ ?_; clear hK9 K9; refine HC_seq fun K10 hK10 => ?_; refine HC_region ?_; refine HL_r rfl rfl rfl rfl (R_move rfl) ?_; refine HL_r rfl rfl rfl rfl (R_bytesStr (b := A0) (row := some (r1, 20, [])) (e := 5) rfl ⟨rfl, rfl⟩ (fun p hp => .inl (by rw [List.mem_singleton.1 hp]; exact List.mem_cons_self)) rfl rfl rfl) ?_; refine HL_r rfl rfl rfl rfl (R_assign rfl) ?_; refine HL_nil ?_; refine HQ_then ?_; refine hK10 _ _ _ _ ?_; clear hK10 K10; refine HC_ret ?_; refine HQ_post rfl rfl (.cons (res_tmp rfl) .nil) (fun w1 hs1 => ?_); exact ⟨rfl, hs1.keep⟩
set_option maxRecDepth 10000 in
theorem P_Addr1 : Pure Tryz.prog 23 [.int .i64 1].toArray (strV A1) := by
  refine pure_of_HC Tryz.func23 rfl rfl fun w => ?_; refine HC_seq fun K1 hK1 => ?_; refine HC_region ?_; refine HL_r rfl rfl rfl rfl (R_assign rfl) ?_; refine HL_nil ?_; refine HQ_then ?_; refine hK1 _ _ _ _ ?_; clear hK1 K1; refine HC_seq fun K2 hK2 => ?_; refine HC_seq fun K3 hK3 => ?_; refine HC_region ?_; refine HL_r rfl rfl rfl rfl (R_move rfl) ?_; refine HL_r rfl rfl rfl rfl (R_pure rfl rfl rfl) ?_; refine HL_r rfl rfl rfl rfl (R_move rfl) ?_; refine HL_r rfl rfl rfl rfl (R_move rfl) ?_; refine HL_r rfl rfl rfl rfl (R_pure rfl rfl rfl) ?_; refine HL_r rfl rfl rfl rfl (R_pickF rfl rfl) ?_; refine HL_nil ?_; refine HQ_then ?_; refine hK3 _ _ _ _ ?_; clear hK3 K3; refine HC_cond rfl (fun h6 => ?_) (fun h6 => ?_)
  · try exact Bool.noConfusion h6
  · try exact Bool.noConfusion h6
    try simp only [Z1, Z2, Z3, Z4, Z5, Z6, Z7, Z8, Z9, Z10, Z11, Z12, Z13] at h6
    refine HC_skip ?_; refine HQ_then ?_; refine hK2 _ _ _ _ ?_; clear hK2 K2; refine HC_seq fun K8 hK8 => ?_; refine HC_region ?_; refine HL_make (n := 20) (b := 1) rfl rfl rfl rfl rfl rfl rfl rfl rfl (by decide) (by decide) fun r1 => ?_; refine HL_r rfl rfl rfl rfl (R_assign rfl) ?_; refine HL_nil ?_; refine HQ_then ?_; refine hK8 _ _ _ _ ?_; clear hK8 K8; refine HC_seq fun K9 hK9 => ?_; refine HC_region ?_; refine HL_r rfl rfl rfl rfl (R_move rfl) ?_; refine HL_r rfl rfl rfl rfl (R_move rfl) ?_; refine HL_r rfl rfl rfl rfl (R_move rfl) ?_; refine HL_r rfl rfl rfl rfl (R_pure rfl rfl rfl) ?_; refine HL_wrap_i64 (by omega) (by omega) ?_; refine HL_r rfl rfl rfl rfl (R_pure rfl rfl rfl) ?_; refine HL_wrap_u8 (by omega) (by omega) ?_; refine HL_r rfl rfl rfl rfl (R_indexS (j := 0) (m := 1) rfl rfl rfl rfl rfl (by decide) rfl) ?_; refine HL_store (k := 0) rfl rfl rfl rfl rfl rfl rfl rfl rfl rfl ?_; refine HL_r rfl rfl rfl rfl (R_indexS (j := 19) (m := 1) rfl rfl rfl rfl rfl (by decide) rfl) ?_; refine HL_store (k := 0) rfl rfl rfl rfl rfl rfl rfl rfl rfl rfl ?_; refine HL_nil ?_; refine HQ_then ?_; refine hK9 _ _ _ _ ?_; clear hK9 K9; refine HC_seq fun K10 hK10 => ?_; refine HC_region ?_; refine HL_r rfl rfl rfl rfl (R_move rfl) ?_; refine HL_r rfl rfl rfl rfl (R_bytesStr (b := A1) (row := some (r1, 20, [])) (e := 5) rfl ⟨rfl, rfl⟩ (fun p hp => .inl (by rw [List.mem_singleton.1 hp]; exact List.mem_cons_self)) rfl rfl rfl) ?_; refine HL_r rfl rfl rfl rfl (R_assign rfl) ?_; refine HL_nil ?_; refine HQ_then ?_; refine hK10 _ _ _ _ ?_; clear hK10 K10; refine HC_ret ?_; refine HQ_post rfl rfl (.cons (res_tmp rfl) .nil) (fun w1 hs1 => ?_); exact ⟨rfl, hs1.keep⟩
set_option maxRecDepth 10000 in
theorem P_AddrN {f : Int} (h : f < 0 ∨ f > 1) : Pure Tryz.prog 23 [.int .i64 f].toArray (strV []) := by
  refine pure_of_HC Tryz.func23 rfl rfl fun w => ?_; refine HC_seq fun K1 hK1 => ?_; refine HC_region ?_; refine HL_r rfl rfl rfl rfl (R_assign rfl) ?_; refine HL_nil ?_; refine HQ_then ?_; refine hK1 _ _ _ _ ?_; clear hK1 K1; refine HC_seq fun K2 hK2 => ?_; refine HC_seq fun K3 hK3 => ?_; refine HC_region ?_; refine HL_r rfl rfl rfl rfl (R_move rfl) ?_; refine HL_r rfl rfl rfl rfl (R_pure rfl rfl rfl) ?_; refine HL_r rfl rfl rfl rfl (R_move rfl) ?_
  refine HL_case 6 rfl (fun hb4 => ?_) (fun hb4 => ?_) <;> (try simp only [Z1, Z2, Z3, Z4, Z5, Z6, Z7, Z8, Z9, Z10, Z11, Z12, Z13] at hb4) <;> first | (refine HL_r rfl rfl rfl rfl (R_move rfl) ?_) | (refine HL_skip rfl rfl rfl ?_)
  all_goals first
    | (refine HL_r rfl rfl rfl rfl (R_pure rfl rfl rfl) ?_)
    | (refine HL_skip rfl rfl rfl ?_)
  all_goals first
    | (refine HL_r rfl rfl rfl rfl (R_pickT rfl rfl) ?_)
    | (refine HL_r rfl rfl rfl rfl (R_pickF rfl rfl) ?_)
  all_goals refine HL_nil ?_
  all_goals (
   refine HQ_then ?_; refine hK3 _ _ _ _ ?_; clear hK3 K3; refine HC_cond rfl (fun h6 => ?_) (fun h6 => ?_)
   · try exact Bool.noConfusion h6
     try simp only [Z1, Z2, Z3, Z4, Z5, Z6, Z7, Z8, Z9, Z10, Z11, Z12, Z13] at h6
     refine HC_seq fun K7 hK7 => ?_; refine HC_region ?_; refine HL_r rfl rfl rfl rfl (R_assign rfl) ?_; refine HL_nil ?_; refine HQ_then ?_; refine hK7 _ _ _ _ ?_; clear hK7 K7; refine HC_ret ?_; refine HQ_thenR ?_; clear hK2 K2; refine HQ_post rfl rfl (.cons (res_tmp rfl) .nil) (fun w1 hs1 => ?_)
     first | exact ⟨rfl, hs1.keep⟩ | (exfalso; omega)
   · try exact Bool.noConfusion h6
     all_goals try simp only [Z1, Z2, Z3, Z4, Z5, Z6, Z7, Z8, Z9, Z10, Z11, Z12, Z13] at h6
     all_goals (
      refine HC_skip ?_; refine HQ_then ?_; refine hK2 _ _ _ _ ?_; clear hK2 K2; refine HC_seq fun K8 hK8 => ?_; refine HC_region ?_
      exfalso; omega
      skip)
   skip)
theorem P_Addr (f : Int) : Pure Tryz.prog 23 [.int .i64 f].toArray (strV (addrE f)) := by
  by_cases h0 : f = 0
  · subst h0; exact P_Addr0
  · by_cases h1 : f = 1
    · subst h1; exact P_Addr1
    · have h : f < 0 ∨ f > 1 := by omega
      have e : addrE f = [] := by unfold addrE; rw [if_pos h]
      rw [e]; exact P_AddrN h
end Go.Proofs.YtnkmbkndpoghdaaGreat
namespace Go.Proofs.YtnkmbkndpoghdaaGreat
set_option linter.all false
open Go.SL Go.RowKit Go.Shelf
def cdC (p : Int × BS) : List Value := [.int .i64 p.1, strV p.2]
theorem cdC_len (p : Int × BS) : (cdC p).length = 2 := rfl
def codes0 : List (Int × BS) := [(0, cOne), (1, cTwo), (3, cThree), (5, cFive)]
def codes1 : List (Int × BS) := [(2, cFee)]
def foldC (f : Int) : List (Int × BS) → BS × Bool → BS × Bool
  | [], acc => acc
  | p :: l, acc => foldC f l (if f ≥ p.1 then (p.2, true) else acc)
theorem foldC_codes {f : Int} (h : Forked f) : foldC f codes0 ([], false) = codeE f 0 ∧ foldC f codes1 ([], false) = codeE f 1 := by
  rcases forked_cases h with rfl | rfl | rfl | rfl | rfl | rfl <;> exact ⟨by decide +kernel, by decide +kernel⟩
theorem foldC_snoc {f : Int} {p : Int × BS} : ∀ (l : List (Int × BS)) (acc : BS × Bool), foldC f (l ++ [p]) acc = if f ≥ p.1 then (p.2, true) else foldC f l acc
  | [], acc => rfl
  | q :: l, acc => by rw [List.cons_append, foldC, foldC, foldC_snoc l]
theorem foldC_take {f : Int} {l : List (Int × BS)} {i : Nat} {p : Int × BS} (h : l[i]? = some p) : foldC f (l.take (i + 1)) ([], false) = if f ≥ p.1 then (p.2, true) else foldC f (l.take i) ([], false) := by
  obtain ⟨h1, h2⟩ := List.getElem?_eq_some_iff.1 h
  rw [List.take_succ_eq_append_getElem h1, h2, foldC_snoc]
set_option maxRecDepth 10000 in
theorem E_codes : PureE (α := Nat × Nat) Tryz.prog 92 [].toArray (fun p => .agg #[.slice (some ⟨p.1, 0, none⟩) 4 4, .slice (some ⟨p.2, 0, none⟩) 1 1]) (fun p => [(p.2, .cells (codes1.flatMap cdC).toArray 107 (0, 0)), (p.1, .cells (codes0.flatMap cdC).toArray 107 (0, 0))]) := by
  refine pureE_of_HC Tryz.func92 rfl rfl fun w => ?_; refine HC_seq fun K1 hK1 => ?_; refine HC_region ?_; refine HL_alloc (cs := #[_, _]) rfl rfl rfl rfl fun r1 => ?_; refine HL_nil ?_; refine HQ_then ?_; refine hK1 _ _ _ _ ?_; clear hK1 K1; refine HC_seq fun K2 hK2 => ?_; refine HC_region ?_; refine HL_r rfl rfl rfl rfl (R_build (r := [_, _]) rfl rfl) ?_; refine HL_r rfl rfl rfl rfl (R_build (r := [_, _]) rfl rfl) ?_; refine HL_r rfl rfl rfl rfl (R_build (r := [_, _]) rfl rfl) ?_; refine HL_r rfl rfl rfl rfl (R_build (r := [_, _]) rfl rfl) ?_; refine HL_buildSlice (vs := [_, _, _, _]) (zs := [_, _, _, _, _, _, _, _]) (r := [_, _, _, _, _, _, _, _]) rfl rfl rfl rfl rfl rfl rfl rfl rfl (by rw [made_list]; exact rfl) rfl fun r2 => ?_; refine HL_r rfl rfl rfl rfl (R_build (r := [_, _]) rfl rfl) ?_; refine HL_buildSlice (vs := [_]) (zs := [_, _]) (r := [_, _]) rfl rfl rfl rfl rfl rfl rfl rfl rfl (by rw [made_list]; exact rfl) rfl fun r3 => ?_; refine HL_r rfl rfl rfl rfl (R_build (r := [_, _]) rfl rfl) ?_
  refine HL_storeA (k := 2) (n := 2) (cs' := #[_, _]) (vs := #[_, _]) rfl rfl rfl rfl rfl rfl rfl (by exact Nat.le_of_ble_eq_true rfl) rfl (by first | (simp only [List.set_cons_zero, List.set_cons_succ]; exact rfl) | exact rfl) ?_; refine HL_nil ?_; refine HQ_then ?_; refine hK2 _ _ _ _ ?_; clear hK2 K2; refine HC_ret ?_; refine HQ_post rfl rfl (.cons (res_cellA (vs := [_, _]) rfl (known_L (k := 2) rfl) rfl rfl) .nil) (fun w1 hs1 => ?_); exact ⟨(r2, r3), rfl, hs1.weakL (.cons_cons _ (.cons_cons _ (List.nil_sublist _)))⟩
set_option maxRecDepth 10000 in
theorem P_of0 {f : Int} (hf : Forked f) : Pure Tryz.prog 47 [.int .i64 f, .int .i64 0].toArray (.tuple #[strV (codeE f 0).1, .bool (codeE f 0).2]) := by
  refine pure_of_HC Tryz.func47 rfl rfl fun w => ?_; refine HC_seq fun K1 hK1 => ?_; refine HC_region ?_; refine HL_r rfl rfl rfl rfl (R_assign rfl) ?_; refine HL_r rfl rfl rfl rfl (R_assign rfl) ?_; refine HL_nil ?_; refine HQ_then ?_; refine hK1 _ _ _ _ ?_; clear hK1 K1; refine HC_seq fun K2 hK2 => ?_; refine HC_region ?_; refine HL_r rfl rfl rfl rfl (R_assign rfl) ?_; refine HL_r rfl rfl rfl rfl (R_assign rfl) ?_; refine HL_nil ?_; refine HQ_then ?_; refine hK2 _ _ _ _ ?_; clear hK2 K2; refine HC_seq fun K3 hK3 => ?_; refine HC_seq fun K4 hK4 => ?_; refine HC_region ?_; refine HL_callPE rfl rfl rfl (enters_of Tryz.func92 (by kernel_rfl) rfl) E_codes fun pp => ?_
  obtain ⟨p1, p2⟩ := pp
  change HL _ _ _ [(p2, _), (p1, _)] _ _ _ _; refine HL_r rfl rfl rfl rfl (R_move rfl) ?_; refine HL_r rfl rfl rfl rfl (R_indexV (j := 0) rfl rfl rfl rfl rfl rfl (by decide) rfl) ?_; refine HL_r rfl rfl rfl rfl (R_lenSl rfl rfl) ?_; refine HL_r rfl rfl rfl rfl (R_move rfl) ?_; refine HL_nil ?_; refine HQ_then ?_; refine hK4 _ _ _ _ ?_; clear hK4 K4; refine HC_block ?_; refine HC_loop (σ := Nat) (fun i => i ≤ 4) (fun i => [(0, .int .i64 f), (6, strV (foldC f (codes0.take i) ([], false)).1), (7, .bool (foldC f (codes0.take i) ([], false)).2), (12, .slice (some ⟨p1, 0, none⟩) 4 4), (13, .int .i64 4), (14, .int .i64 (i : Int))]) (fun _ => [(p2, .cells (codes1.flatMap cdC).toArray 107 (0, 0)), (p1, .cells (codes0.flatMap cdC).toArray 107 (0, 0))]) (fun _ _ _ => True) (fun i => 4 - i) 0 (Nat.zero_le _) (.cons rfl (.cons rfl (.cons rfl (.cons rfl (.cons rfl (.cons rfl .nil)))))) (List.Sublist.refl _) (fun _ _ h => h) ?_; intro i hi1; refine HC_seq fun K5 hK5 => ?_; refine HC_region ?_; refine HL_r rfl rfl rfl rfl (R_pure rfl rfl rfl) ?_; refine HL_nil ?_; refine HQ_then ?_; refine hK5 _ _ _ _ ?_; clear hK5 K5; refine HC_seq fun K6 hK6 => ?_; refine HC_cond rfl (fun h7 => ?_) (fun h7 => ?_)
  · try exact Bool.noConfusion h7
    try simp only [Z1, Z2, Z3, Z4, Z5, Z6, Z7, Z8, Z9, Z10, Z11, Z12, Z13] at h7
    refine HC_skip ?_; refine HQ_then ?_; refine hK6 _ _ _ _ ?_; clear hK6 K6; refine HC_seq fun K8 hK8 => ?_; refine HC_block ?_; refine HC_seq fun K9 hK9 => ?_
    obtain ⟨p, hp, -⟩ := getI (l := codes0) (show i < 4 by omega)
    refine HC_region ?_; refine HL_r rfl rfl rfl rfl (R_indexS (j := i) (m := 2) (off' := i * 2) rfl rfl rfl rfl rfl (by omega) (by omega)) ?_; refine HL_r rfl rfl rfl rfl (R_loadA (n := 2) (vs := cdC p) rfl (known_L (k := 1) rfl) rfl rfl (cat_get cdC_len hp) rfl) ?_; refine HL_alloc (cs := #[_, _]) rfl rfl rfl rfl fun r1 => ?_
    refine HL_storeA (k := 0) (n := 2) (cs' := #[_, _]) (vs := #[_, _]) rfl rfl rfl rfl rfl rfl rfl (by exact Nat.le_of_ble_eq_true rfl) rfl (by first | (simp only [List.set_cons_zero, List.set_cons_succ]; exact rfl) | exact rfl) ?_; refine HL_nil ?_; refine HQ_then ?_; refine hK9 _ _ _ _ ?_; clear hK9 K9; refine HC_seq fun K10 hK10 => ?_; refine HC_region ?_; refine HL_r rfl rfl rfl rfl (R_move rfl) ?_
    refine HL_r rfl rfl rfl rfl (R_fieldAddr rfl rfl (by first | (simp only [Nat.zero_add, Nat.reduceAdd, Nat.reduceMul, Nat.zero_mul, Nat.mul_one, Nat.add_zero]; exact rfl) | exact rfl)) ?_; refine HL_r rfl rfl rfl rfl (R_load rfl (known_L (k := 0) rfl) rfl rfl) ?_; refine HL_r rfl rfl rfl rfl (R_pure rfl rfl rfl) ?_; refine HL_nil ?_; refine HQ_then ?_; refine hK10 _ _ _ _ ?_; clear hK10 K10; refine HC_cond rfl (fun h11 => ?_) (fun h11 => ?_)
    · try exact Bool.noConfusion h11
      try simp only [Z1, Z2, Z3, Z4, Z5, Z6, Z7, Z8, Z9, Z10, Z11, Z12, Z13] at h11
      refine HC_region ?_
      refine HL_r rfl rfl rfl rfl (R_fieldAddr rfl rfl (by first | (simp only [Nat.zero_add, Nat.reduceAdd, Nat.reduceMul, Nat.zero_mul, Nat.mul_one, Nat.add_zero]; exact rfl) | exact rfl)) ?_; refine HL_r rfl rfl rfl rfl (R_load rfl (known_L (k := 0) rfl) rfl rfl) ?_; refine HL_r rfl rfl rfl rfl (R_assign rfl) ?_; refine HL_r rfl rfl rfl rfl (R_assign rfl) ?_; refine HL_nil ?_; refine HQ_blockN ?_; refine HQ_then ?_; refine hK8 _ _ _ _ ?_; clear hK8 K8; refine HC_region ?_; refine HL_r rfl rfl rfl rfl (R_pure rfl rfl rfl) ?_; refine HL_wrap_i64 (by omega) (by omega) ?_; refine HL_r rfl rfl rfl rfl (R_move rfl) ?_; refine HL_nil ?_; refine HQ_then ?_; exact HQ_again (i + 1) (by omega) (by omega) (.cons rfl (.cons (by rw [foldC_take hp, if_pos (by omega)]; rfl) (.cons (by rw [foldC_take hp, if_pos (by omega)]; rfl) (.cons rfl (.cons rfl (.cons rfl .nil)))))) (List.sublist_cons_self _ _) (fun _ _ h => h)
    · try exact Bool.noConfusion h11
      try simp only [Z1, Z2, Z3, Z4, Z5, Z6, Z7, Z8, Z9, Z10, Z11, Z12, Z13] at h11
      refine HC_skip ?_; refine HQ_blockN ?_; refine HQ_then ?_; refine hK8 _ _ _ _ ?_; clear hK8 K8; refine HC_region ?_; refine HL_r rfl rfl rfl rfl (R_pure rfl rfl rfl) ?_; refine HL_wrap_i64 (by omega) (by omega) ?_; refine HL_r rfl rfl rfl rfl (R_move rfl) ?_; refine HL_nil ?_; refine HQ_then ?_; exact HQ_again (i + 1) (by omega) (by omega) (.cons rfl (.cons (by rw [foldC_take hp, if_neg (by omega)]; rfl) (.cons (by rw [foldC_take hp, if_neg (by omega)]; rfl) (.cons rfl (.cons rfl (.cons rfl .nil)))))) (List.sublist_cons_self _ _) (fun _ _ h => h)
  · try exact Bool.noConfusion h7
    try simp only [Z1, Z2, Z3, Z4, Z5, Z6, Z7, Z8, Z9, Z10, Z11, Z12, Z13] at h7
    refine HC_exit ?_; refine HQ_thenE ?_; clear hK6 K6; refine HQ_thenE ?_; refine HQ_blockE ?_; refine HQ_then ?_; refine hK3 _ _ _ _ ?_; clear hK3 K3; refine HC_seq fun K12 hK12 => ?_; refine HC_region ?_; refine HL_r rfl rfl rfl rfl (R_move rfl) ?_; refine HL_r rfl rfl rfl rfl (R_move rfl) ?_; refine HL_r rfl rfl rfl rfl (R_assign rfl) ?_; refine HL_r rfl rfl rfl rfl (R_assign rfl) ?_; refine HL_nil ?_; refine HQ_then ?_; refine hK12 _ _ _ _ ?_; clear hK12 K12; refine HC_ret ?_; refine HQ_post rfl rfl (.cons (res_tmp rfl) (.cons (res_tmp rfl) .nil)) (fun w1 hs1 => ?_); refine ⟨?_, hs1.keep⟩
    obtain rfl : i = 4 := by omega
    rw [← (foldC_codes hf).1]
    rfl
set_option maxRecDepth 10000 in
theorem P_of1 {f : Int} (hf : Forked f) : Pure Tryz.prog 47 [.int .i64 f, .int .i64 1].toArray (.tuple #[strV (codeE f 1).1, .bool (codeE f 1).2]) := by
  refine pure_of_HC Tryz.func47 rfl rfl fun w => ?_; refine HC_seq fun K1 hK1 => ?_; refine HC_region ?_; refine HL_r rfl rfl rfl rfl (R_assign rfl) ?_; refine HL_r rfl rfl rfl rfl (R_assign rfl) ?_; refine HL_nil ?_; refine HQ_then ?_; refine hK1 _ _ _ _ ?_; clear hK1 K1; refine HC_seq fun K2 hK2 => ?_; refine HC_region ?_; refine HL_r rfl rfl rfl rfl (R_assign rfl) ?_; refine HL_r rfl rfl rfl rfl (R_assign rfl) ?_; refine HL_nil ?_; refine HQ_then ?_; refine hK2 _ _ _ _ ?_; clear hK2 K2; refine HC_seq fun K3 hK3 => ?_; refine HC_seq fun K4 hK4 => ?_; refine HC_region ?_; refine HL_callPE rfl rfl rfl (enters_of Tryz.func92 (by kernel_rfl) rfl) E_codes fun pp => ?_
  obtain ⟨p1, p2⟩ := pp
  change HL _ _ _ [(p2, _), (p1, _)] _ _ _ _; refine HL_r rfl rfl rfl rfl (R_move rfl) ?_; refine HL_r rfl rfl rfl rfl (R_indexV (j := 1) rfl rfl rfl rfl rfl rfl (by decide) rfl) ?_; refine HL_r rfl rfl rfl rfl (R_lenSl rfl rfl) ?_; refine HL_r rfl rfl rfl rfl (R_move rfl) ?_; refine HL_nil ?_; refine HQ_then ?_; refine hK4 _ _ _ _ ?_; clear hK4 K4; refine HC_block ?_; refine HC_loop (σ := Nat) (fun i => i ≤ 1) (fun i => [(0, .int .i64 f), (6, strV (foldC f (codes1.take i) ([], false)).1), (7, .bool (foldC f (codes1.take i) ([], false)).2), (12, .slice (some ⟨p2, 0, none⟩) 1 1), (13, .int .i64 1), (14, .int .i64 (i : Int))]) (fun _ => [(p2, .cells (codes1.flatMap cdC).toArray 107 (0, 0)), (p1, .cells (codes0.flatMap cdC).toArray 107 (0, 0))]) (fun _ _ _ => True) (fun i => 1 - i) 0 (Nat.zero_le _) (.cons rfl (.cons rfl (.cons rfl (.cons rfl (.cons rfl (.cons rfl .nil)))))) (List.Sublist.refl _) (fun _ _ h => h) ?_; intro i hi1; refine HC_seq fun K5 hK5 => ?_; refine HC_region ?_; refine HL_r rfl rfl rfl rfl (R_pure rfl rfl rfl) ?_; refine HL_nil ?_; refine HQ_then ?_; refine hK5 _ _ _ _ ?_; clear hK5 K5; refine HC_seq fun K6 hK6 => ?_; refine HC_cond rfl (fun h7 => ?_) (fun h7 => ?_)
  · try exact Bool.noConfusion h7
    try simp only [Z1, Z2, Z3, Z4, Z5, Z6, Z7, Z8, Z9, Z10, Z11, Z12, Z13] at h7
    refine HC_skip ?_; refine HQ_then ?_; refine hK6 _ _ _ _ ?_; clear hK6 K6; refine HC_seq fun K8 hK8 => ?_; refine HC_block ?_; refine HC_seq fun K9 hK9 => ?_
    obtain ⟨p, hp, -⟩ := getI (l := codes1) (show i < 1 by omega)
    refine HC_region ?_; refine HL_r rfl rfl rfl rfl (R_indexS (j := i) (m := 2) (off' := i * 2) rfl rfl rfl rfl rfl (by omega) (by omega)) ?_; refine HL_r rfl rfl rfl rfl (R_loadA (n := 2) (vs := cdC p) rfl (known_L (k := 0) rfl) rfl rfl (cat_get cdC_len hp) rfl) ?_; refine HL_alloc (cs := #[_, _]) rfl rfl rfl rfl fun r1 => ?_
    refine HL_storeA (k := 0) (n := 2) (cs' := #[_, _]) (vs := #[_, _]) rfl rfl rfl rfl rfl rfl rfl (by exact Nat.le_of_ble_eq_true rfl) rfl (by first | (simp only [List.set_cons_zero, List.set_cons_succ]; exact rfl) | exact rfl) ?_; refine HL_nil ?_; refine HQ_then ?_; refine hK9 _ _ _ _ ?_; clear hK9 K9; refine HC_seq fun K10 hK10 => ?_; refine HC_region ?_; refine HL_r rfl rfl rfl rfl (R_move rfl) ?_
    refine HL_r rfl rfl rfl rfl (R_fieldAddr rfl rfl (by first | (simp only [Nat.zero_add, Nat.reduceAdd, Nat.reduceMul, Nat.zero_mul, Nat.mul_one, Nat.add_zero]; exact rfl) | exact rfl)) ?_; refine HL_r rfl rfl rfl rfl (R_load rfl (known_L (k := 0) rfl) rfl rfl) ?_; refine HL_r rfl rfl rfl rfl (R_pure rfl rfl rfl) ?_; refine HL_nil ?_; refine HQ_then ?_; refine hK10 _ _ _ _ ?_; clear hK10 K10; refine HC_cond rfl (fun h11 => ?_) (fun h11 => ?_)
    · try exact Bool.noConfusion h11
      try simp only [Z1, Z2, Z3, Z4, Z5, Z6, Z7, Z8, Z9, Z10, Z11, Z12, Z13] at h11
      refine HC_region ?_
      refine HL_r rfl rfl rfl rfl (R_fieldAddr rfl rfl (by first | (simp only [Nat.zero_add, Nat.reduceAdd, Nat.reduceMul, Nat.zero_mul, Nat.mul_one, Nat.add_zero]; exact rfl) | exact rfl)) ?_; refine HL_r rfl rfl rfl rfl (R_load rfl (known_L (k := 0) rfl) rfl rfl) ?_; refine HL_r rfl rfl rfl rfl (R_assign rfl) ?_; refine HL_r rfl rfl rfl rfl (R_assign rfl) ?_; refine HL_nil ?_; refine HQ_blockN ?_; refine HQ_then ?_; refine hK8 _ _ _ _ ?_; clear hK8 K8; refine HC_region ?_; refine HL_r rfl rfl rfl rfl (R_pure rfl rfl rfl) ?_; refine HL_wrap_i64 (by omega) (by omega) ?_; refine HL_r rfl rfl rfl rfl (R_move rfl) ?_; refine HL_nil ?_; refine HQ_then ?_; exact HQ_again (i + 1) (by omega) (by omega) (.cons rfl (.cons (by rw [foldC_take hp, if_pos (by omega)]; rfl) (.cons (by rw [foldC_take hp, if_pos (by omega)]; rfl) (.cons rfl (.cons rfl (.cons rfl .nil)))))) (List.sublist_cons_self _ _) (fun _ _ h => h)
    · try exact Bool.noConfusion h11
      try simp only [Z1, Z2, Z3, Z4, Z5, Z6, Z7, Z8, Z9, Z10, Z11, Z12, Z13] at h11
      refine HC_skip ?_; refine HQ_blockN ?_; refine HQ_then ?_; refine hK8 _ _ _ _ ?_; clear hK8 K8; refine HC_region ?_; refine HL_r rfl rfl rfl rfl (R_pure rfl rfl rfl) ?_; refine HL_wrap_i64 (by omega) (by omega) ?_; refine HL_r rfl rfl rfl rfl (R_move rfl) ?_; refine HL_nil ?_; refine HQ_then ?_; exact HQ_again (i + 1) (by omega) (by omega) (.cons rfl (.cons (by rw [foldC_take hp, if_neg (by omega)]; rfl) (.cons (by rw [foldC_take hp, if_neg (by omega)]; rfl) (.cons rfl (.cons rfl (.cons rfl .nil)))))) (List.sublist_cons_self _ _) (fun _ _ h => h)
  · try exact Bool.noConfusion h7
    try simp only [Z1, Z2, Z3, Z4, Z5, Z6, Z7, Z8, Z9, Z10, Z11, Z12, Z13] at h7
    refine HC_exit ?_; refine HQ_thenE ?_; clear hK6 K6; refine HQ_thenE ?_; refine HQ_blockE ?_; refine HQ_then ?_; refine hK3 _ _ _ _ ?_; clear hK3 K3; refine HC_seq fun K12 hK12 => ?_; refine HC_region ?_; refine HL_r rfl rfl rfl rfl (R_move rfl) ?_; refine HL_r rfl rfl rfl rfl (R_move rfl) ?_; refine HL_r rfl rfl rfl rfl (R_assign rfl) ?_; refine HL_r rfl rfl rfl rfl (R_assign rfl) ?_; refine HL_nil ?_; refine HQ_then ?_; refine hK12 _ _ _ _ ?_; clear hK12 K12; refine HC_ret ?_; refine HQ_post rfl rfl (.cons (res_tmp rfl) (.cons (res_tmp rfl) .nil)) (fun w1 hs1 => ?_); refine ⟨?_, hs1.keep⟩
    obtain rfl : i = 1 := by omega
    rw [← (foldC_codes hf).2]
    rfl
set_option maxRecDepth 10000 in
theorem P_Code (f g : Int) : Pure Tryz.prog 19 [.int .i64 f, .int .i64 g].toArray (.tuple #[strV (codeR f g).1, .bool (codeR f g).2.1, .int .i64 (codeR f g).2.2]) := by
  by_cases hf : Forked f
  · by_cases hg : g = 0 ∨ g = 1
    · have hE : Pure Tryz.prog 47 [.int .i64 f, .int .i64 g].toArray (.tuple #[strV (codeE f g).1, .bool (codeE f g).2]) := by
        rcases hg with rfl | rfl
        · exact P_of0 hf
        · exact P_of1 hf
      have e : codeR f g = ((codeE f g).1, (codeE f g).2, 0) := by unfold codeR; rw [if_neg (by simpa using hf), if_neg (by omega)]
      rw [e]; refine pure_of_HC Tryz.func19 rfl rfl fun w => ?_; refine HC_seq fun K1 hK1 => ?_; refine HC_region ?_; refine HL_r rfl rfl rfl rfl (R_assign rfl) ?_; refine HL_r rfl rfl rfl rfl (R_assign rfl) ?_; refine HL_r rfl rfl rfl rfl (R_assign rfl) ?_; refine HL_nil ?_; refine HQ_then ?_; refine hK1 _ _ _ _ ?_; clear hK1 K1; refine HC_seq fun K2 hK2 => ?_; refine HC_block ?_; refine HC_seq fun K3 hK3 => ?_; refine HC_region ?_; refine HL_r rfl rfl rfl rfl (R_move rfl) ?_; refine HL_callP rfl rfl rfl (enters_of Tryz.func58 (by kernel_rfl) rfl) (P_forked f) ?_; refine HL_r rfl rfl rfl rfl (R_pure rfl rfl rfl) ?_; refine HL_r rfl rfl rfl rfl (R_assign rfl) ?_; refine HL_nil ?_; refine HQ_then ?_; refine hK3 _ _ _ _ ?_; clear hK3 K3; refine HC_cond rfl (fun h4 => ?_) (fun h4 => ?_)
      · try exact Bool.noConfusion h4
        try simp only [Z1, Z2, Z3, Z4, Z5, Z6, Z7, Z8, Z9, Z10, Z11, Z12, Z13] at h4
        refine HC_seq fun K5 hK5 => ?_; refine HC_region ?_; refine HL_r rfl rfl rfl rfl (R_assign rfl) ?_; refine HL_r rfl rfl rfl rfl (R_assign rfl) ?_; refine HL_r rfl rfl rfl rfl (R_assign rfl) ?_; refine HL_nil ?_; refine HQ_then ?_; refine hK5 _ _ _ _ ?_; clear hK5 K5; refine HC_ret ?_; refine HQ_blockR ?_; refine HQ_thenR ?_; clear hK2 K2; refine HQ_post rfl rfl (.cons (res_tmp rfl) (.cons (res_tmp rfl) (.cons (res_tmp rfl) .nil))) (fun w1 hs1 => ?_)
        exfalso; first | contradiction | omega | (simp_all; done) | (simp_all; omega)
      · try exact Bool.noConfusion h4
        try simp only [Z1, Z2, Z3, Z4, Z5, Z6, Z7, Z8, Z9, Z10, Z11, Z12, Z13] at h4
        refine HC_seq fun K6 hK6 => ?_; refine HC_region ?_; refine HL_r rfl rfl rfl rfl (R_move rfl) ?_; refine HL_r rfl rfl rfl rfl (R_pure rfl rfl rfl) ?_; refine HL_r rfl rfl rfl rfl (R_move rfl) ?_
        refine HL_case 16 rfl (fun hb7 => ?_) (fun hb7 => ?_) <;> (try simp only [Z1, Z2, Z3, Z4, Z5, Z6, Z7, Z8, Z9, Z10, Z11, Z12, Z13] at hb7) <;> first | (refine HL_r rfl rfl rfl rfl (R_move rfl) ?_) | (refine HL_skip rfl rfl rfl ?_)
        all_goals first
          | (refine HL_r rfl rfl rfl rfl (R_pure rfl rfl rfl) ?_)
          | (refine HL_skip rfl rfl rfl ?_)
        all_goals first
          | (refine HL_r rfl rfl rfl rfl (R_pickT rfl rfl) ?_)
          | (refine HL_r rfl rfl rfl rfl (R_pickF rfl rfl) ?_)
        all_goals refine HL_r rfl rfl rfl rfl (R_assign rfl) ?_
        all_goals refine HL_nil ?_
        all_goals (
         refine HQ_then ?_; refine hK6 _ _ _ _ ?_; clear hK6 K6; refine HC_cond rfl (fun h9 => ?_) (fun h9 => ?_)
         · try exact Bool.noConfusion h9
           try simp only [Z1, Z2, Z3, Z4, Z5, Z6, Z7, Z8, Z9, Z10, Z11, Z12, Z13] at h9
           refine HC_seq fun K10 hK10 => ?_; refine HC_region ?_; refine HL_r rfl rfl rfl rfl (R_assign rfl) ?_; refine HL_r rfl rfl rfl rfl (R_assign rfl) ?_; refine HL_r rfl rfl rfl rfl (R_assign rfl) ?_; refine HL_nil ?_; refine HQ_then ?_; refine hK10 _ _ _ _ ?_; clear hK10 K10; refine HC_ret ?_; refine HQ_blockR ?_; refine HQ_thenR ?_; clear hK2 K2; refine HQ_post rfl rfl (.cons (res_tmp rfl) (.cons (res_tmp rfl) (.cons (res_tmp rfl) .nil))) (fun w1 hs1 => ?_)
           exfalso; first | contradiction | omega | (simp_all; done) | (simp_all; omega)
         · try exact Bool.noConfusion h9
           all_goals try simp only [Z1, Z2, Z3, Z4, Z5, Z6, Z7, Z8, Z9, Z10, Z11, Z12, Z13] at h9
           all_goals (
            refine HC_skip ?_; refine HQ_blockN ?_; refine HQ_then ?_; refine hK2 _ _ _ _ ?_; clear hK2 K2; refine HC_seq fun K11 hK11 => ?_; refine HC_region ?_; refine HL_r rfl rfl rfl rfl (R_move rfl) ?_; refine HL_r rfl rfl rfl rfl (R_move rfl) ?_; refine HL_callP rfl rfl rfl (enters_of Tryz.func47 (by kernel_rfl) rfl) hE ?_; refine HL_r rfl rfl rfl rfl (R_move rfl) ?_; refine HL_r rfl rfl rfl rfl (R_extract rfl rfl) ?_; refine HL_r rfl rfl rfl rfl (R_extract rfl rfl) ?_; refine HL_r rfl rfl rfl rfl (R_assign rfl) ?_; refine HL_r rfl rfl rfl rfl (R_assign rfl) ?_; refine HL_nil ?_; refine HQ_then ?_; refine hK11 _ _ _ _ ?_; clear hK11 K11; refine HC_seq fun K12 hK12 => ?_; refine HC_region ?_; refine HL_r rfl rfl rfl rfl (R_move rfl) ?_; refine HL_r rfl rfl rfl rfl (R_move rfl) ?_; refine HL_r rfl rfl rfl rfl (R_assign rfl) ?_; refine HL_r rfl rfl rfl rfl (R_assign rfl) ?_; refine HL_r rfl rfl rfl rfl (R_assign rfl) ?_; refine HL_nil ?_; refine HQ_then ?_; refine hK12 _ _ _ _ ?_; clear hK12 K12; refine HC_ret ?_; refine HQ_post rfl rfl (.cons (res_tmp rfl) (.cons (res_tmp rfl) (.cons (res_tmp rfl) .nil))) (fun w1 hs1 => ?_); exact ⟨rfl, hs1.keep⟩
            skip)
         skip)
    · have e : codeR f g = ([], false, 1) := by unfold codeR; rw [if_neg (by simpa using hf), if_pos (by omega)]
      rw [e]; refine pure_of_HC Tryz.func19 rfl rfl fun w => ?_; refine HC_seq fun K1 hK1 => ?_; refine HC_region ?_; refine HL_r rfl rfl rfl rfl (R_assign rfl) ?_; refine HL_r rfl rfl rfl rfl (R_assign rfl) ?_; refine HL_r rfl rfl rfl rfl (R_assign rfl) ?_; refine HL_nil ?_; refine HQ_then ?_; refine hK1 _ _ _ _ ?_; clear hK1 K1; refine HC_seq fun K2 hK2 => ?_; refine HC_block ?_; refine HC_seq fun K3 hK3 => ?_; refine HC_region ?_; refine HL_r rfl rfl rfl rfl (R_move rfl) ?_; refine HL_callP rfl rfl rfl (enters_of Tryz.func58 (by kernel_rfl) rfl) (P_forked f) ?_; refine HL_r rfl rfl rfl rfl (R_pure rfl rfl rfl) ?_; refine HL_r rfl rfl rfl rfl (R_assign rfl) ?_; refine HL_nil ?_; refine HQ_then ?_; refine hK3 _ _ _ _ ?_; clear hK3 K3; refine HC_cond rfl (fun h4 => ?_) (fun h4 => ?_)
      · try exact Bool.noConfusion h4
        try simp only [Z1, Z2, Z3, Z4, Z5, Z6, Z7, Z8, Z9, Z10, Z11, Z12, Z13] at h4
        refine HC_seq fun K5 hK5 => ?_; refine HC_region ?_; refine HL_r rfl rfl rfl rfl (R_assign rfl) ?_; refine HL_r rfl rfl rfl rfl (R_assign rfl) ?_; refine HL_r rfl rfl rfl rfl (R_assign rfl) ?_; refine HL_nil ?_; refine HQ_then ?_; refine hK5 _ _ _ _ ?_; clear hK5 K5; refine HC_ret ?_; refine HQ_blockR ?_; refine HQ_thenR ?_; clear hK2 K2; refine HQ_post rfl rfl (.cons (res_tmp rfl) (.cons (res_tmp rfl) (.cons (res_tmp rfl) .nil))) (fun w1 hs1 => ?_)
        exfalso; first | contradiction | omega | (simp_all; done) | (simp_all; omega)
      · try exact Bool.noConfusion h4
        try simp only [Z1, Z2, Z3, Z4, Z5, Z6, Z7, Z8, Z9, Z10, Z11, Z12, Z13] at h4
        refine HC_seq fun K6 hK6 => ?_; refine HC_region ?_; refine HL_r rfl rfl rfl rfl (R_move rfl) ?_; refine HL_r rfl rfl rfl rfl (R_pure rfl rfl rfl) ?_; refine HL_r rfl rfl rfl rfl (R_move rfl) ?_
        refine HL_case 16 rfl (fun hb7 => ?_) (fun hb7 => ?_) <;> (try simp only [Z1, Z2, Z3, Z4, Z5, Z6, Z7, Z8, Z9, Z10, Z11, Z12, Z13] at hb7) <;> first | (refine HL_r rfl rfl rfl rfl (R_move rfl) ?_) | (refine HL_skip rfl rfl rfl ?_)
        all_goals first
          | (refine HL_r rfl rfl rfl rfl (R_pure rfl rfl rfl) ?_)
          | (refine HL_skip rfl rfl rfl ?_)
        all_goals first
          | (refine HL_r rfl rfl rfl rfl (R_pickT rfl rfl) ?_)
          | (refine HL_r rfl rfl rfl rfl (R_pickF rfl rfl) ?_)
        all_goals refine HL_r rfl rfl rfl rfl (R_assign rfl) ?_
        all_goals refine HL_nil ?_
        all_goals (
         refine HQ_then ?_; refine hK6 _ _ _ _ ?_; clear hK6 K6; refine HC_cond rfl (fun h9 => ?_) (fun h9 => ?_)
         · try exact Bool.noConfusion h9
           try simp only [Z1, Z2, Z3, Z4, Z5, Z6, Z7, Z8, Z9, Z10, Z11, Z12, Z13] at h9
           refine HC_seq fun K10 hK10 => ?_; refine HC_region ?_; refine HL_r rfl rfl rfl rfl (R_assign rfl) ?_; refine HL_r rfl rfl rfl rfl (R_assign rfl) ?_; refine HL_r rfl rfl rfl rfl (R_assign rfl) ?_; refine HL_nil ?_; refine HQ_then ?_; refine hK10 _ _ _ _ ?_; clear hK10 K10; refine HC_ret ?_; refine HQ_blockR ?_; refine HQ_thenR ?_; clear hK2 K2; refine HQ_post rfl rfl (.cons (res_tmp rfl) (.cons (res_tmp rfl) (.cons (res_tmp rfl) .nil))) (fun w1 hs1 => ?_); exact ⟨rfl, hs1.keep⟩
         · try exact Bool.noConfusion h9
           all_goals try simp only [Z1, Z2, Z3, Z4, Z5, Z6, Z7, Z8, Z9, Z10, Z11, Z12, Z13] at h9
           all_goals (
            refine HC_skip ?_; refine HQ_blockN ?_; refine HQ_then ?_; refine hK2 _ _ _ _ ?_; clear hK2 K2; refine HC_seq fun K11 hK11 => ?_; refine HC_region ?_; refine HL_r rfl rfl rfl rfl (R_move rfl) ?_; refine HL_r rfl rfl rfl rfl (R_move rfl) ?_
            exfalso; omega
            skip)
         skip)
  · have e : codeR f g = ([], false, 10) := by unfold codeR; rw [if_pos hf]
    rw [e]; refine pure_of_HC Tryz.func19 rfl rfl fun w => ?_; refine HC_seq fun K1 hK1 => ?_; refine HC_region ?_; refine HL_r rfl rfl rfl rfl (R_assign rfl) ?_; refine HL_r rfl rfl rfl rfl (R_assign rfl) ?_; refine HL_r rfl rfl rfl rfl (R_assign rfl) ?_; refine HL_nil ?_; refine HQ_then ?_; refine hK1 _ _ _ _ ?_; clear hK1 K1; refine HC_seq fun K2 hK2 => ?_; refine HC_block ?_; refine HC_seq fun K3 hK3 => ?_; refine HC_region ?_; refine HL_r rfl rfl rfl rfl (R_move rfl) ?_; refine HL_callP rfl rfl rfl (enters_of Tryz.func58 (by kernel_rfl) rfl) (P_forked f) ?_; refine HL_r rfl rfl rfl rfl (R_pure rfl rfl rfl) ?_; refine HL_r rfl rfl rfl rfl (R_assign rfl) ?_; refine HL_nil ?_; refine HQ_then ?_; refine hK3 _ _ _ _ ?_; clear hK3 K3; refine HC_cond rfl (fun h4 => ?_) (fun h4 => ?_)
    · try exact Bool.noConfusion h4
      try simp only [Z1, Z2, Z3, Z4, Z5, Z6, Z7, Z8, Z9, Z10, Z11, Z12, Z13] at h4
      refine HC_seq fun K5 hK5 => ?_; refine HC_region ?_; refine HL_r rfl rfl rfl rfl (R_assign rfl) ?_; refine HL_r rfl rfl rfl rfl (R_assign rfl) ?_; refine HL_r rfl rfl rfl rfl (R_assign rfl) ?_; refine HL_nil ?_; refine HQ_then ?_; refine hK5 _ _ _ _ ?_; clear hK5 K5; refine HC_ret ?_; refine HQ_blockR ?_; refine HQ_thenR ?_; clear hK2 K2; refine HQ_post rfl rfl (.cons (res_tmp rfl) (.cons (res_tmp rfl) (.cons (res_tmp rfl) .nil))) (fun w1 hs1 => ?_); exact ⟨rfl, hs1.keep⟩
    · try exact Bool.noConfusion h4
      try simp only [Z1, Z2, Z3, Z4, Z5, Z6, Z7, Z8, Z9, Z10, Z11, Z12, Z13] at h4
      refine HC_seq fun K6 hK6 => ?_; refine HC_region ?_; refine HL_r rfl rfl rfl rfl (R_move rfl) ?_; refine HL_r rfl rfl rfl rfl (R_pure rfl rfl rfl) ?_; refine HL_r rfl rfl rfl rfl (R_move rfl) ?_
      refine HL_case 16 rfl (fun hb7 => ?_) (fun hb7 => ?_) <;> (try simp only [Z1, Z2, Z3, Z4, Z5, Z6, Z7, Z8, Z9, Z10, Z11, Z12, Z13] at hb7) <;> first | (refine HL_r rfl rfl rfl rfl (R_move rfl) ?_) | (refine HL_skip rfl rfl rfl ?_)
      all_goals first
        | (refine HL_r rfl rfl rfl rfl (R_pure rfl rfl rfl) ?_)
        | (refine HL_skip rfl rfl rfl ?_)
      all_goals first
        | (refine HL_r rfl rfl rfl rfl (R_pickT rfl rfl) ?_)
        | (refine HL_r rfl rfl rfl rfl (R_pickF rfl rfl) ?_)
      all_goals refine HL_r rfl rfl rfl rfl (R_assign rfl) ?_
      all_goals refine HL_nil ?_
      all_goals (
       refine HQ_then ?_; refine hK6 _ _ _ _ ?_; clear hK6 K6; refine HC_cond rfl (fun h9 => ?_) (fun h9 => ?_)
       · try exact Bool.noConfusion h9
         try simp only [Z1, Z2, Z3, Z4, Z5, Z6, Z7, Z8, Z9, Z10, Z11, Z12, Z13] at h9
         refine HC_seq fun K10 hK10 => ?_; refine HC_region ?_; refine HL_r rfl rfl rfl rfl (R_assign rfl) ?_; refine HL_r rfl rfl rfl rfl (R_assign rfl) ?_; refine HL_r rfl rfl rfl rfl (R_assign rfl) ?_; refine HL_nil ?_; refine HQ_then ?_; refine hK10 _ _ _ _ ?_; clear hK10 K10; refine HC_ret ?_; refine HQ_blockR ?_; refine HQ_thenR ?_; clear hK2 K2; refine HQ_post rfl rfl (.cons (res_tmp rfl) (.cons (res_tmp rfl) (.cons (res_tmp rfl) .nil))) (fun w1 hs1 => ?_)
         exfalso; first | contradiction | omega | (simp_all; done) | (simp_all; omega)
       · try exact Bool.noConfusion h9
         all_goals try simp only [Z1, Z2, Z3, Z4, Z5, Z6, Z7, Z8, Z9, Z10, Z11, Z12, Z13] at h9
         all_goals (
          refine HC_skip ?_; refine HQ_blockN ?_; refine HQ_then ?_; refine hK2 _ _ _ _ ?_; clear hK2 K2; refine HC_seq fun K11 hK11 => ?_; refine HC_region ?_; refine HL_r rfl rfl rfl rfl (R_move rfl) ?_; refine HL_r rfl rfl rfl rfl (R_move rfl) ?_
          exfalso; first | contradiction | omega | (simp_all; done)
          skip)
       skip)
end Go.Proofs.YtnkmbkndpoghdaaGreat
namespace Go.Proofs.YtnkmbkndpoghdaaGreat
set_option linter.all false
open Go.SL Go.RowKit Go.Shelf
def ptV (r o : Nat) : Value := .pointer (some ⟨r, o, none⟩)
set_option maxRecDepth 10000 in
theorem P_ptr1 (r : Nat) : Pure Tryz.prog 118 [ptV r 0].toArray (ptV r 14) := by
  refine pure_of_HC Tryz.func118 rfl rfl fun w => ?_; refine HC_seq fun K1 hK1 => ?_; refine HC_region ?_; refine HL_r rfl rfl rfl rfl (R_assign rfl) ?_; refine HL_nil ?_; refine HQ_then ?_; refine hK1 _ _ _ _ ?_; clear hK1 K1; refine HC_seq fun K2 hK2 => ?_; refine HC_region ?_; refine HL_r rfl rfl rfl rfl (R_move rfl) ?_; refine HL_r rfl rfl rfl rfl (R_pure rfl rfl rfl) ?_
  refine HL_r rfl rfl rfl rfl (R_fieldAddr rfl rfl (by first | (simp only [Nat.zero_add, Nat.reduceAdd, Nat.reduceMul, Nat.zero_mul, Nat.mul_one, Nat.add_zero]; exact rfl) | exact rfl)) ?_; refine HL_r rfl rfl rfl rfl (R_assign rfl) ?_; refine HL_nil ?_; refine HQ_then ?_; refine hK2 _ _ _ _ ?_; clear hK2 K2; refine HC_ret ?_; refine HQ_post rfl rfl (.cons (res_tmp rfl) .nil) (fun w1 hs1 => ?_); exact ⟨rfl, hs1.keep⟩
set_option maxRecDepth 10000 in
theorem P_ptr2 (r : Nat) : Pure Tryz.prog 120 [ptV r 0].toArray (ptV r 0) := by
  refine pure_of_HC Tryz.func120 rfl rfl fun w => ?_; refine HC_seq fun K1 hK1 => ?_; refine HC_region ?_; refine HL_r rfl rfl rfl rfl (R_assign rfl) ?_; refine HL_nil ?_; refine HQ_then ?_; refine hK1 _ _ _ _ ?_; clear hK1 K1; refine HC_seq fun K2 hK2 => ?_; refine HC_region ?_; refine HL_r rfl rfl rfl rfl (R_move rfl) ?_; refine HL_r rfl rfl rfl rfl (R_pure rfl rfl rfl) ?_
  refine HL_r rfl rfl rfl rfl (R_fieldAddr rfl rfl (by first | (simp only [Nat.zero_add, Nat.reduceAdd, Nat.reduceMul, Nat.zero_mul, Nat.mul_one, Nat.add_zero]; exact rfl) | exact rfl)) ?_; refine HL_r rfl rfl rfl rfl (R_assign rfl) ?_; refine HL_nil ?_; refine HQ_then ?_; refine hK2 _ _ _ _ ?_; clear hK2 K2; refine HC_ret ?_; refine HQ_post rfl rfl (.cons (res_tmp rfl) .nil) (fun w1 hs1 => ?_); exact ⟨rfl, hs1.keep⟩
set_option maxRecDepth 10000 in
theorem P_ptr3 (r : Nat) : Pure Tryz.prog 121 [ptV r 0].toArray (ptV r 1) := by
  refine pure_of_HC Tryz.func121 rfl rfl fun w => ?_; refine HC_seq fun K1 hK1 => ?_; refine HC_region ?_; refine HL_r rfl rfl rfl rfl (R_assign rfl) ?_; refine HL_nil ?_; refine HQ_then ?_; refine hK1 _ _ _ _ ?_; clear hK1 K1; refine HC_seq fun K2 hK2 => ?_; refine HC_region ?_; refine HL_r rfl rfl rfl rfl (R_move rfl) ?_; refine HL_r rfl rfl rfl rfl (R_pure rfl rfl rfl) ?_
  refine HL_r rfl rfl rfl rfl (R_fieldAddr rfl rfl (by first | (simp only [Nat.zero_add, Nat.reduceAdd, Nat.reduceMul, Nat.zero_mul, Nat.mul_one, Nat.add_zero]; exact rfl) | exact rfl)) ?_; refine HL_r rfl rfl rfl rfl (R_assign rfl) ?_; refine HL_nil ?_; refine HQ_then ?_; refine hK2 _ _ _ _ ?_; clear hK2 K2; refine HC_ret ?_; refine HQ_post rfl rfl (.cons (res_tmp rfl) .nil) (fun w1 hs1 => ?_); exact ⟨rfl, hs1.keep⟩
set_option maxRecDepth 10000 in
theorem P_ptr4 (r : Nat) : Pure Tryz.prog 123 [ptV r 0].toArray (ptV r 2) := by
  refine pure_of_HC Tryz.func123 rfl rfl fun w => ?_; refine HC_seq fun K1 hK1 => ?_; refine HC_region ?_; refine HL_r rfl rfl rfl rfl (R_assign rfl) ?_; refine HL_nil ?_; refine HQ_then ?_; refine hK1 _ _ _ _ ?_; clear hK1 K1; refine HC_seq fun K2 hK2 => ?_; refine HC_region ?_; refine HL_r rfl rfl rfl rfl (R_move rfl) ?_; refine HL_r rfl rfl rfl rfl (R_pure rfl rfl rfl) ?_
  refine HL_r rfl rfl rfl rfl (R_fieldAddr rfl rfl (by first | (simp only [Nat.zero_add, Nat.reduceAdd, Nat.reduceMul, Nat.zero_mul, Nat.mul_one, Nat.add_zero]; exact rfl) | exact rfl)) ?_; refine HL_r rfl rfl rfl rfl (R_assign rfl) ?_; refine HL_nil ?_; refine HQ_then ?_; refine hK2 _ _ _ _ ?_; clear hK2 K2; refine HC_ret ?_; refine HQ_post rfl rfl (.cons (res_tmp rfl) .nil) (fun w1 hs1 => ?_); exact ⟨rfl, hs1.keep⟩
set_option maxRecDepth 10000 in
theorem P_ptr5 (r : Nat) : Pure Tryz.prog 124 [ptV r 0].toArray (ptV r 10) := by
  refine pure_of_HC Tryz.func124 rfl rfl fun w => ?_; refine HC_seq fun K1 hK1 => ?_; refine HC_region ?_; refine HL_r rfl rfl rfl rfl (R_assign rfl) ?_; refine HL_nil ?_; refine HQ_then ?_; refine hK1 _ _ _ _ ?_; clear hK1 K1; refine HC_seq fun K2 hK2 => ?_; refine HC_region ?_; refine HL_r rfl rfl rfl rfl (R_move rfl) ?_; refine HL_r rfl rfl rfl rfl (R_pure rfl rfl rfl) ?_
  refine HL_r rfl rfl rfl rfl (R_fieldAddr rfl rfl (by first | (simp only [Nat.zero_add, Nat.reduceAdd, Nat.reduceMul, Nat.zero_mul, Nat.mul_one, Nat.add_zero]; exact rfl) | exact rfl)) ?_; refine HL_r rfl rfl rfl rfl (R_assign rfl) ?_; refine HL_nil ?_; refine HQ_then ?_; refine hK2 _ _ _ _ ?_; clear hK2 K2; refine HC_ret ?_; refine HQ_post rfl rfl (.cons (res_tmp rfl) .nil) (fun w1 hs1 => ?_); exact ⟨rfl, hs1.keep⟩
set_option maxRecDepth 10000 in
theorem P_ptr6 (r : Nat) : Pure Tryz.prog 125 [ptV r 0].toArray (ptV r 15) := by
  refine pure_of_HC Tryz.func125 rfl rfl fun w => ?_; refine HC_seq fun K1 hK1 => ?_; refine HC_region ?_; refine HL_r rfl rfl rfl rfl (R_assign rfl) ?_; refine HL_nil ?_; refine HQ_then ?_; refine hK1 _ _ _ _ ?_; clear hK1 K1; refine HC_seq fun K2 hK2 => ?_; refine HC_region ?_; refine HL_r rfl rfl rfl rfl (R_move rfl) ?_; refine HL_r rfl rfl rfl rfl (R_pure rfl rfl rfl) ?_
  refine HL_r rfl rfl rfl rfl (R_fieldAddr rfl rfl (by first | (simp only [Nat.zero_add, Nat.reduceAdd, Nat.reduceMul, Nat.zero_mul, Nat.mul_one, Nat.add_zero]; exact rfl) | exact rfl)) ?_; refine HL_r rfl rfl rfl rfl (R_assign rfl) ?_; refine HL_nil ?_; refine HQ_then ?_; refine hK2 _ _ _ _ ?_; clear hK2 K2; refine HC_ret ?_; refine HQ_post rfl rfl (.cons (res_tmp rfl) .nil) (fun w1 hs1 => ?_); exact ⟨rfl, hs1.keep⟩
set_option maxRecDepth 10000 in
theorem P_ptr7 (r : Nat) : Pure Tryz.prog 126 [ptV r 0].toArray (ptV r 6) := by
  refine pure_of_HC Tryz.func126 rfl rfl fun w => ?_; refine HC_seq fun K1 hK1 => ?_; refine HC_region ?_; refine HL_r rfl rfl rfl rfl (R_assign rfl) ?_; refine HL_nil ?_; refine HQ_then ?_; refine hK1 _ _ _ _ ?_; clear hK1 K1; refine HC_seq fun K2 hK2 => ?_; refine HC_region ?_; refine HL_r rfl rfl rfl rfl (R_move rfl) ?_; refine HL_r rfl rfl rfl rfl (R_pure rfl rfl rfl) ?_
  refine HL_r rfl rfl rfl rfl (R_fieldAddr rfl rfl (by first | (simp only [Nat.zero_add, Nat.reduceAdd, Nat.reduceMul, Nat.zero_mul, Nat.mul_one, Nat.add_zero]; exact rfl) | exact rfl)) ?_; refine HL_r rfl rfl rfl rfl (R_assign rfl) ?_; refine HL_nil ?_; refine HQ_then ?_; refine hK2 _ _ _ _ ?_; clear hK2 K2; refine HC_ret ?_; refine HQ_post rfl rfl (.cons (res_tmp rfl) .nil) (fun w1 hs1 => ?_); exact ⟨rfl, hs1.keep⟩
set_option maxRecDepth 10000 in
theorem P_ptr8 (r : Nat) : Pure Tryz.prog 127 [ptV r 0].toArray (ptV r 16) := by
  refine pure_of_HC Tryz.func127 rfl rfl fun w => ?_; refine HC_seq fun K1 hK1 => ?_; refine HC_region ?_; refine HL_r rfl rfl rfl rfl (R_assign rfl) ?_; refine HL_nil ?_; refine HQ_then ?_; refine hK1 _ _ _ _ ?_; clear hK1 K1; refine HC_seq fun K2 hK2 => ?_; refine HC_region ?_; refine HL_r rfl rfl rfl rfl (R_move rfl) ?_; refine HL_r rfl rfl rfl rfl (R_pure rfl rfl rfl) ?_
  refine HL_r rfl rfl rfl rfl (R_fieldAddr rfl rfl (by first | (simp only [Nat.zero_add, Nat.reduceAdd, Nat.reduceMul, Nat.zero_mul, Nat.mul_one, Nat.add_zero]; exact rfl) | exact rfl)) ?_; refine HL_r rfl rfl rfl rfl (R_assign rfl) ?_; refine HL_nil ?_; refine HQ_then ?_; refine hK2 _ _ _ _ ?_; clear hK2 K2; refine HC_ret ?_; refine HQ_post rfl rfl (.cons (res_tmp rfl) .nil) (fun w1 hs1 => ?_); exact ⟨rfl, hs1.keep⟩
set_option maxRecDepth 10000 in
theorem S_hold2 {R : List (Nat × Obj)} {b1 b2 e1 e2 : Nat} {gl gh : FuncId} {ol oh x y : Nat} (egl : Enters Tryz.prog gl) (egh : Enters Tryz.prog gh) (hgl : ∀ ρ, Pure Tryz.prog gl [ptV ρ 0].toArray (ptV ρ ol)) (hgh : ∀ ρ, Pure Tryz.prog gh [ptV ρ 0].toArray (ptV ρ oh))
    (h1 : (b1, Obj.cells #[fV gl] e1 (0, 0)) ∈ R) (h2 : (b2, Obj.cells #[fV gh] e2 (0, 0)) ∈ R) (r : Rec) (hx : nth r.cells ol = some (uV x)) (hy : nth r.cells oh = some (uV y)) : PureR Tryz.prog 143 [r.val, ptV b1 0, ptV b2 0].toArray (wV [x, y, 0, 0]) R := by
  refine pureR_of_HC Tryz.func143 rfl rfl fun w => ?_; refine HC_seq fun K1 hK1 => ?_; refine HC_region ?_; refine HL_box (cs := r.cells.toArray) rfl rfl rfl rfl fun rb => ?_; refine HL_alloc (cs := #[_, _, _, _]) rfl rfl rfl rfl fun r1 => ?_; refine HL_nil ?_; refine HQ_then ?_; refine hK1 _ _ _ _ ?_; clear hK1 K1; refine HC_seq fun K2 hK2 => ?_; refine HC_region ?_; refine HL_r rfl rfl rfl rfl (R_load rfl (Or.inr h1) rfl rfl) ?_; refine HL_callP rfl rfl rfl egl (hgl rb) ?_; refine HL_r rfl rfl rfl rfl (R_pure rfl rfl rfl) ?_; refine HL_r rfl rfl rfl rfl (R_load rfl (known_L (k := 1) rfl) rfl hx) ?_; refine HL_callP rfl rfl rfl (enters_of Tryz.func103 (by kernel_rfl) rfl) (P_word_Of x) ?_; refine HL_alloc (cs := #[_, _, _, _]) rfl rfl rfl rfl fun r2 => ?_
  refine HL_storeA (k := 0) (n := 4) (cs' := #[_, _, _, _]) (vs := #[_, _, _, _]) rfl rfl rfl rfl rfl rfl rfl (by exact Nat.le_of_ble_eq_true rfl) rfl (by first | (simp only [List.set_cons_zero, List.set_cons_succ]; exact rfl) | exact rfl) ?_; refine HL_nil ?_; refine HQ_then ?_; refine hK2 _ _ _ _ ?_; clear hK2 K2; refine HC_seq fun K3 hK3 => ?_; refine HC_seq fun K4 hK4 => ?_; refine HC_region ?_; refine HL_r rfl rfl rfl rfl (R_load rfl (Or.inr h2) rfl rfl) ?_; refine HL_r rfl rfl rfl rfl (R_pure rfl rfl rfl) ?_; refine HL_nil ?_; refine HQ_then ?_; refine hK4 _ _ _ _ ?_; clear hK4 K4; refine HC_cond rfl (fun h5 => ?_) (fun h5 => ?_)
  · try exact Bool.noConfusion h5
    try simp only [Z1, Z2, Z3, Z4, Z5, Z6, Z7, Z8, Z9, Z10, Z11, Z12, Z13] at h5
    refine HC_region ?_; refine HL_r rfl rfl rfl rfl (R_load rfl (Or.inr h2) rfl rfl) ?_; refine HL_callP rfl rfl rfl egh (hgh rb) ?_; refine HL_r rfl rfl rfl rfl (R_pure rfl rfl rfl) ?_; refine HL_r rfl rfl rfl rfl (R_load rfl (known_L (k := 2) rfl) rfl hy) ?_
    refine HL_r rfl rfl rfl rfl (R_indexA (j := 1) rfl rfl rfl rfl rfl (by first | decide | omega) (by first | (simp only [Nat.zero_add, Nat.reduceAdd, Nat.reduceMul, Nat.zero_mul, Nat.mul_one, Nat.add_zero]; exact rfl) | exact rfl)) ?_
    refine HL_store (k := 0) rfl rfl rfl rfl rfl rfl rfl rfl (by first | (simp only [List.setIfInBounds_toArray, List.set_cons_zero, List.set_cons_succ]; exact rfl) | exact rfl) (by first | (simp only [List.set_cons_zero, List.set_cons_succ]; exact rfl) | exact rfl) ?_; refine HL_nil ?_; refine HQ_then ?_; refine hK3 _ _ _ _ ?_; clear hK3 K3; refine HC_seq fun K6 hK6 => ?_; refine HC_region ?_; refine HL_r rfl rfl rfl rfl (R_loadA (vs := [_, _, _, _]) rfl (known_L (k := 0) rfl) rfl rfl rfl rfl) ?_
    refine HL_storeA (k := 1) (n := 4) (cs' := #[_, _, _, _]) (vs := #[_, _, _, _]) rfl rfl rfl rfl rfl rfl rfl (by exact Nat.le_of_ble_eq_true rfl) rfl (by first | (simp only [List.set_cons_zero, List.set_cons_succ]; exact rfl) | exact rfl) ?_; refine HL_nil ?_; refine HQ_then ?_; refine hK6 _ _ _ _ ?_; clear hK6 K6; refine HC_ret ?_; refine HQ_post rfl rfl (.cons (res_cellA (vs := [_, _, _, _]) rfl (known_L (k := 1) rfl) rfl rfl) .nil) (fun w1 hs1 => ?_); exact ⟨rfl, hs1.keep⟩
  · try exact Bool.noConfusion h5
set_option maxRecDepth 10000 in
theorem S_hold1 {R : List (Nat × Obj)} {b1 b2 e1 e2 : Nat} {gl gh : FuncId} {ol oh x y : Nat} (egl : Enters Tryz.prog gl) (egh : Enters Tryz.prog gh) (hgl : ∀ ρ, Pure Tryz.prog gl [ptV ρ 0].toArray (ptV ρ ol)) (hgh : ∀ ρ, Pure Tryz.prog gh [ptV ρ 0].toArray (ptV ρ oh))
    (h1 : (b1, Obj.cells #[fV gl] e1 (0, 0)) ∈ R) (h2 : (b2, Obj.cells #[.nilFunc] e2 (0, 0)) ∈ R) (r : Rec) (hx : nth r.cells ol = some (uV x)) (hy : nth r.cells oh = some (uV y)) : PureR Tryz.prog 143 [r.val, ptV b1 0, ptV b2 0].toArray (wV [x, 0, 0, 0]) R := by
  refine pureR_of_HC Tryz.func143 rfl rfl fun w => ?_; refine HC_seq fun K1 hK1 => ?_; refine HC_region ?_; refine HL_box (cs := r.cells.toArray) rfl rfl rfl rfl fun rb => ?_; refine HL_alloc (cs := #[_, _, _, _]) rfl rfl rfl rfl fun r1 => ?_; refine HL_nil ?_; refine HQ_then ?_; refine hK1 _ _ _ _ ?_; clear hK1 K1; refine HC_seq fun K2 hK2 => ?_; refine HC_region ?_; refine HL_r rfl rfl rfl rfl (R_load rfl (Or.inr h1) rfl rfl) ?_; refine HL_callP rfl rfl rfl egl (hgl rb) ?_; refine HL_r rfl rfl rfl rfl (R_pure rfl rfl rfl) ?_; refine HL_r rfl rfl rfl rfl (R_load rfl (known_L (k := 1) rfl) rfl hx) ?_; refine HL_callP rfl rfl rfl (enters_of Tryz.func103 (by kernel_rfl) rfl) (P_word_Of x) ?_; refine HL_alloc (cs := #[_, _, _, _]) rfl rfl rfl rfl fun r2 => ?_
  refine HL_storeA (k := 0) (n := 4) (cs' := #[_, _, _, _]) (vs := #[_, _, _, _]) rfl rfl rfl rfl rfl rfl rfl (by exact Nat.le_of_ble_eq_true rfl) rfl (by first | (simp only [List.set_cons_zero, List.set_cons_succ]; exact rfl) | exact rfl) ?_; refine HL_nil ?_; refine HQ_then ?_; refine hK2 _ _ _ _ ?_; clear hK2 K2; refine HC_seq fun K3 hK3 => ?_; refine HC_seq fun K4 hK4 => ?_; refine HC_region ?_; refine HL_r rfl rfl rfl rfl (R_load rfl (Or.inr h2) rfl rfl) ?_; refine HL_r rfl rfl rfl rfl (R_pure rfl rfl rfl) ?_; refine HL_nil ?_; refine HQ_then ?_; refine hK4 _ _ _ _ ?_; clear hK4 K4; refine HC_cond rfl (fun h5 => ?_) (fun h5 => ?_)
  · try exact Bool.noConfusion h5
  · try exact Bool.noConfusion h5
    try simp only [Z1, Z2, Z3, Z4, Z5, Z6, Z7, Z8, Z9, Z10, Z11, Z12, Z13] at h5
    refine HC_skip ?_; refine HQ_then ?_; refine hK3 _ _ _ _ ?_; clear hK3 K3; refine HC_seq fun K7 hK7 => ?_; refine HC_region ?_; refine HL_r rfl rfl rfl rfl (R_loadA (vs := [_, _, _, _]) rfl (known_L (k := 0) rfl) rfl rfl rfl rfl) ?_
    refine HL_storeA (k := 1) (n := 4) (cs' := #[_, _, _, _]) (vs := #[_, _, _, _]) rfl rfl rfl rfl rfl rfl rfl (by exact Nat.le_of_ble_eq_true rfl) rfl (by first | (simp only [List.set_cons_zero, List.set_cons_succ]; exact rfl) | exact rfl) ?_; refine HL_nil ?_; refine HQ_then ?_; refine hK7 _ _ _ _ ?_; clear hK7 K7; refine HC_ret ?_; refine HQ_post rfl rfl (.cons (res_cellA (vs := [_, _, _, _]) rfl (known_L (k := 1) rfl) rfl rfl) .nil) (fun w1 hs1 => ?_); exact ⟨rfl, hs1.keep⟩
set_option maxRecDepth 10000 in
theorem S_holdW {R : List (Nat × Obj)} {b1 e1 : Nat} {g : FuncId} {o : Nat} {x : W4} (eg : Enters Tryz.prog g) (hg : ∀ ρ, Pure Tryz.prog g [ptV ρ 0].toArray (ptV ρ o)) (h1 : (b1, Obj.cells #[fV g] e1 (0, 0)) ∈ R) (r : Rec) (hx : (r.cells.drop o).take 4 = x.l.map uV) : PureR Tryz.prog 145 [r.val, ptV b1 0].toArray (wV x.l) R := by
  refine pureR_of_HC Tryz.func145 rfl rfl fun w => ?_; refine HC_seq fun K1 hK1 => ?_; refine HC_region ?_; refine HL_box (cs := r.cells.toArray) rfl rfl rfl rfl fun rb => ?_; refine HL_alloc (cs := #[_, _, _, _]) rfl rfl rfl rfl fun r1 => ?_; refine HL_nil ?_; refine HQ_then ?_; refine hK1 _ _ _ _ ?_; clear hK1 K1; refine HC_seq fun K2 hK2 => ?_; refine HC_region ?_; refine HL_r rfl rfl rfl rfl (R_load rfl (Or.inr h1) rfl rfl) ?_; refine HL_callP rfl rfl rfl eg (hg rb) ?_; refine HL_r rfl rfl rfl rfl (R_pure rfl rfl rfl) ?_; refine HL_r rfl rfl rfl rfl (R_loadA (n := 4) (vs := x.l.map uV) rfl (known_L (k := 1) rfl) rfl rfl hx rfl) ?_
  refine HL_storeA (k := 0) (n := 4) (cs' := #[_, _, _, _]) (vs := #[_, _, _, _]) rfl rfl rfl rfl rfl rfl rfl (by exact Nat.le_of_ble_eq_true rfl) rfl (by first | (simp only [List.set_cons_zero, List.set_cons_succ]; exact rfl) | exact rfl) ?_; refine HL_nil ?_; refine HQ_then ?_; refine hK2 _ _ _ _ ?_; clear hK2 K2; refine HC_ret ?_; refine HQ_post rfl rfl (.cons (res_cellA (vs := [_, _, _, _]) rfl (known_L (k := 0) rfl) rfl rfl) .nil) (fun w1 hs1 => ?_); exact ⟨rfl, hs1.keep⟩
set_option maxRecDepth 10000 in
theorem S_take2 {R : List (Nat × Obj)} {ρ b1 b2 e1 e2 : Nat} {gl gh : FuncId} {ol oh : Nat} (egl : Enters Tryz.prog gl) (egh : Enters Tryz.prog gh) (hgl : ∀ ρ, Pure Tryz.prog gl [ptV ρ 0].toArray (ptV ρ ol)) (hgh : ∀ ρ, Pure Tryz.prog gh [ptV ρ 0].toArray (ptV ρ oh))
    (h1 : (b1, Obj.cells #[fV gl] e1 (0, 0)) ∈ R) (h2 : (b2, Obj.cells #[fV gh] e2 (0, 0)) ∈ R) (r : Rec) (w4 : W4) (ho : ol < 17) (ho2 : oh < 17) : PureT (α := Unit) Tryz.prog 144 [ptV ρ 0, wV w4.l, ptV b1 0, ptV b2 0].toArray (fun _ => .tuple #[]) [(ρ, .cells r.cells.toArray 29 (0, 0))] (fun _ => [(ρ, .cells ((r.cells.set ol (uV w4.a)).set oh (uV w4.b)).toArray 29 (0, 0))]) R := by
  refine pureT_of_HC Tryz.func144 rfl rfl fun w => ?_; refine HC_seq fun K1 hK1 => ?_; refine HC_region ?_; refine HL_box (cs := #[_, _, _, _]) rfl rfl rfl rfl fun r1 => ?_; refine HL_nil ?_; refine HQ_then ?_; refine hK1 _ _ _ _ ?_; clear hK1 K1; refine HC_seq fun K2 hK2 => ?_; refine HC_draw 5 (by kernel_rfl) (by kernel_rfl) ?_; refine HD_r rfl rfl rfl (R_load rfl (Or.inr h1) rfl rfl) ?_; refine HD_r rfl rfl rfl (R_move rfl) ?_; refine HD_callP rfl rfl rfl egl (hgl ρ) ?_
  refine HD_r rfl rfl rfl (R_indexA (j := 0) rfl rfl rfl rfl rfl (by first | decide | omega) (by first | (simp only [Nat.zero_add, Nat.reduceAdd, Nat.reduceMul, Nat.zero_mul, Nat.mul_one, Nat.add_zero]; exact rfl) | exact rfl)) ?_; refine HD_r rfl rfl rfl (R_load rfl (known_L (k := 0) rfl) rfl rfl) ?_; refine HD_end ?_; refine HL_r rfl rfl rfl rfl (R_pure rfl rfl rfl) ?_; refine HL_store (k := 1) (cs' := (r.cells.set ol (uV w4.a)).toArray) rfl rfl rfl rfl rfl rfl (by rw [List.getElem?_toArray, List.getElem?_eq_getElem (show ol < r.cells.length from ho)]; rfl) rfl (by simp) rfl ?_; refine HL_nil ?_; refine HQ_then ?_; refine hK2 _ _ _ _ ?_; clear hK2 K2; refine HC_seq fun K3 hK3 => ?_; refine HC_region ?_; refine HL_r rfl rfl rfl rfl (R_load rfl (Or.inr h2) rfl rfl) ?_; refine HL_r rfl rfl rfl rfl (R_pure rfl rfl rfl) ?_; refine HL_nil ?_; refine HQ_then ?_; refine hK3 _ _ _ _ ?_; clear hK3 K3; refine HC_cond rfl (fun h4 => ?_) (fun h4 => ?_)
  · try exact Bool.noConfusion h4
    try simp only [Z1, Z2, Z3, Z4, Z5, Z6, Z7, Z8, Z9, Z10, Z11, Z12, Z13] at h4
    refine HC_draw 5 (by kernel_rfl) (by kernel_rfl) ?_; refine HD_r rfl rfl rfl (R_load rfl (Or.inr h2) rfl rfl) ?_; refine HD_r rfl rfl rfl (R_move rfl) ?_; refine HD_callP rfl rfl rfl egh (hgh ρ) ?_
    refine HD_r rfl rfl rfl (R_indexA (j := 1) rfl rfl rfl rfl rfl (by first | decide | omega) (by first | (simp only [Nat.zero_add, Nat.reduceAdd, Nat.reduceMul, Nat.zero_mul, Nat.mul_one, Nat.add_zero]; exact rfl) | exact rfl)) ?_; refine HD_r rfl rfl rfl (R_load rfl (known_L (k := 0) rfl) rfl rfl) ?_; refine HD_end ?_; refine HL_r rfl rfl rfl rfl (R_pure rfl rfl rfl) ?_; refine HL_store (k := 1) (cs' := ((r.cells.set ol (uV w4.a)).set oh (uV w4.b)).toArray) rfl rfl rfl rfl rfl rfl (by rw [List.getElem?_toArray, List.getElem?_eq_getElem (show oh < (r.cells.set ol (uV w4.a)).length from by rw [List.length_set]; exact ho2)]; rfl) rfl (by simp) rfl ?_; refine HL_nil ?_; refine HQ_postN rfl rfl .nil (fun w1 hs1 => ?_); exact ⟨(), rfl, hs1.weakL (List.sublist_cons_self _ _)⟩
  · try exact Bool.noConfusion h4
set_option maxRecDepth 10000 in
theorem S_take1 {R : List (Nat × Obj)} {ρ b1 b2 e1 e2 : Nat} {gl gh : FuncId} {ol oh : Nat} (egl : Enters Tryz.prog gl) (egh : Enters Tryz.prog gh) (hgl : ∀ ρ, Pure Tryz.prog gl [ptV ρ 0].toArray (ptV ρ ol)) (hgh : ∀ ρ, Pure Tryz.prog gh [ptV ρ 0].toArray (ptV ρ oh))
    (h1 : (b1, Obj.cells #[fV gl] e1 (0, 0)) ∈ R) (h2 : (b2, Obj.cells #[.nilFunc] e2 (0, 0)) ∈ R) (r : Rec) (w4 : W4) (ho : ol < 17) (ho2 : oh < 17) : PureT (α := Unit) Tryz.prog 144 [ptV ρ 0, wV w4.l, ptV b1 0, ptV b2 0].toArray (fun _ => .tuple #[]) [(ρ, .cells r.cells.toArray 29 (0, 0))] (fun _ => [(ρ, .cells (r.cells.set ol (uV w4.a)).toArray 29 (0, 0))]) R := by
  refine pureT_of_HC Tryz.func144 rfl rfl fun w => ?_; refine HC_seq fun K1 hK1 => ?_; refine HC_region ?_; refine HL_box (cs := #[_, _, _, _]) rfl rfl rfl rfl fun r1 => ?_; refine HL_nil ?_; refine HQ_then ?_; refine hK1 _ _ _ _ ?_; clear hK1 K1; refine HC_seq fun K2 hK2 => ?_; refine HC_draw 5 (by kernel_rfl) (by kernel_rfl) ?_; refine HD_r rfl rfl rfl (R_load rfl (Or.inr h1) rfl rfl) ?_; refine HD_r rfl rfl rfl (R_move rfl) ?_; refine HD_callP rfl rfl rfl egl (hgl ρ) ?_
  refine HD_r rfl rfl rfl (R_indexA (j := 0) rfl rfl rfl rfl rfl (by first | decide | omega) (by first | (simp only [Nat.zero_add, Nat.reduceAdd, Nat.reduceMul, Nat.zero_mul, Nat.mul_one, Nat.add_zero]; exact rfl) | exact rfl)) ?_; refine HD_r rfl rfl rfl (R_load rfl (known_L (k := 0) rfl) rfl rfl) ?_; refine HD_end ?_; refine HL_r rfl rfl rfl rfl (R_pure rfl rfl rfl) ?_; refine HL_store (k := 1) (cs' := (r.cells.set ol (uV w4.a)).toArray) rfl rfl rfl rfl rfl rfl (by rw [List.getElem?_toArray, List.getElem?_eq_getElem (show ol < r.cells.length from ho)]; rfl) rfl (by simp) rfl ?_; refine HL_nil ?_; refine HQ_then ?_; refine hK2 _ _ _ _ ?_; clear hK2 K2; refine HC_seq fun K3 hK3 => ?_; refine HC_region ?_; refine HL_r rfl rfl rfl rfl (R_load rfl (Or.inr h2) rfl rfl) ?_; refine HL_r rfl rfl rfl rfl (R_pure rfl rfl rfl) ?_; refine HL_nil ?_; refine HQ_then ?_; refine hK3 _ _ _ _ ?_; clear hK3 K3; refine HC_cond rfl (fun h4 => ?_) (fun h4 => ?_)
  · try exact Bool.noConfusion h4
  · try exact Bool.noConfusion h4
    try simp only [Z1, Z2, Z3, Z4, Z5, Z6, Z7, Z8, Z9, Z10, Z11, Z12, Z13] at h4
    refine HC_skip ?_; refine HQ_postN rfl rfl .nil (fun w1 hs1 => ?_); exact ⟨(), rfl, hs1.weakL (List.sublist_cons_self _ _)⟩
set_option maxRecDepth 10000 in
theorem S_takeW {R : List (Nat × Obj)} {ρ b1 e1 : Nat} {g : FuncId} {o : Nat} {cs : List Value} (eg : Enters Tryz.prog g) (hg : ∀ ρ, Pure Tryz.prog g [ptV ρ 0].toArray (ptV ρ o)) (h1 : (b1, Obj.cells #[fV g] e1 (0, 0)) ∈ R) (r : Rec) (w4 : W4) (ho : o + 4 ≤ 17) (hcs : r.cells.take o ++ w4.l.map uV ++ r.cells.drop (o + 4) = cs) : PureT (α := Unit) Tryz.prog 146 [ptV ρ 0, wV w4.l, ptV b1 0].toArray (fun _ => .tuple #[]) [(ρ, .cells r.cells.toArray 29 (0, 0))] (fun _ => [(ρ, .cells cs.toArray 29 (0, 0))]) R := by
  refine pureT_of_HC Tryz.func146 rfl rfl fun w => ?_; refine HC_seq fun K1 hK1 => ?_; refine HC_region ?_; refine HL_box (cs := #[_, _, _, _]) rfl rfl rfl rfl fun r1 => ?_; refine HL_nil ?_; refine HQ_then ?_; refine hK1 _ _ _ _ ?_; clear hK1 K1; refine HC_draw 4 (by kernel_rfl) (by kernel_rfl) ?_; refine HD_r rfl rfl rfl (R_load rfl (Or.inr h1) rfl rfl) ?_; refine HD_r rfl rfl rfl (R_move rfl) ?_; refine HD_callP rfl rfl rfl eg (hg ρ) ?_; refine HD_r rfl rfl rfl (R_loadA (vs := [_, _, _, _]) rfl (known_L (k := 0) rfl) rfl rfl rfl rfl) ?_; refine HD_end ?_; refine HL_r rfl rfl rfl rfl (R_pure rfl rfl rfl) ?_; refine HL_storeA (k := 1) (n := 4) (vs := (w4.l.map uV).toArray) (cs' := cs.toArray) rfl rfl rfl rfl rfl rfl rfl ho (by rw [← hcs]) rfl ?_; refine HL_nil ?_; refine HQ_postN rfl rfl .nil (fun w1 hs1 => ?_); exact ⟨(), rfl, hs1.weakL (List.sublist_cons_self _ _)⟩
end Go.Proofs.YtnkmbkndpoghdaaGreat
namespace Go.Proofs.YtnkmbkndpoghdaaGreat
set_option linter.all false
open Go.SL Go.RowKit Go.Shelf
def frN : Nat → Int
  | 0 => 0
  | 1 => 0
  | 2 => 0
  | 3 => 0
  | 4 => 3
  | 5 => 3
  | _ => 5
def toN : Nat → Int
  | 0 => 5
  | 1 => 5
  | 2 => 2
  | 3 => 2
  | 4 => 5
  | 5 => 5
  | _ => 5
def holdF : Nat → FuncId
  | 0 => 143
  | 1 => 145
  | 2 => 145
  | 3 => 143
  | 4 => 143
  | 5 => 145
  | _ => 143
def takeF : Nat → FuncId
  | 0 => 144
  | 1 => 146
  | 2 => 146
  | 3 => 144
  | 4 => 144
  | 5 => 146
  | _ => 144
def capsR (p : Nat → Nat) : Nat → List Value
  | 0 => [ptV (p 1) 0, ptV (p 2) 0]
  | 1 => [ptV (p 3) 0]
  | 2 => [ptV (p 4) 0]
  | 3 => [ptV (p 5) 0, ptV (p 6) 0]
  | 4 => [ptV (p 7) 0, ptV (p 8) 0]
  | 5 => [ptV (p 9) 0]
  | _ => [ptV (p 10) 0, ptV (p 11) 0]
def rowB (p : Nat → Nat) : Nat → List (Nat × Obj)
  | 0 => [(p 2, .cells #[fV 121] 135 (0, 0)), (p 1, .cells #[fV 120] 135 (0, 0))]
  | 1 => [(p 3, .cells #[fV 123] 139 (0, 0))]
  | 2 => [(p 4, .cells #[fV 124] 139 (0, 0))]
  | 3 => [(p 6, .cells #[.nilFunc] 135 (0, 0)), (p 5, .cells #[fV 118] 135 (0, 0))]
  | 4 => [(p 8, .cells #[fV 125] 135 (0, 0)), (p 7, .cells #[fV 118] 135 (0, 0))]
  | 5 => [(p 9, .cells #[fV 126] 139 (0, 0))]
  | _ => [(p 11, .cells #[.nilFunc] 135 (0, 0)), (p 10, .cells #[fV 127] 135 (0, 0))]
def rowC (p : Nat → Nat) (i : Nat) : List Value := [uV (keyN i), .int .i64 (frN i), .int .i64 (toN i), .func (.func (holdF i)) #[] (capsR p i).toArray, .func (.func (takeF i)) #[] (capsR p i).toArray]
theorem rowC_len (p : Nat → Nat) (i : Nat) : (rowC p i).length = 5 := rfl
theorem tab_get {i : Nat} (h : i < 7) : tab[i]? = some i := by
  have : i = 0 ∨ i = 1 ∨ i = 2 ∨ i = 3 ∨ i = 4 ∨ i = 5 ∨ i = 6 := by omega
  rcases this with rfl | rfl | rfl | rfl | rfl | rfl | rfl <;> rfl
theorem lt7 {i : Nat} (h : i < 7) : i = 0 ∨ i = 1 ∨ i = 2 ∨ i = 3 ∨ i = 4 ∨ i = 5 ∨ i = 6 := by omega
theorem has_eq {f : Int} (hf : Forked f) {i : Nat} (hi : i < 7) : hasE f i = (decide (f ≥ frN i) && decide (f ≤ toN i)) := by
  rcases forked_cases hf with rfl | rfl | rfl | rfl | rfl | rfl <;> rcases lt7 hi with rfl | rfl | rfl | rfl | rfl | rfl | rfl <;> rfl
theorem enters_hold {i : Nat} (h : i < 7) : Enters Tryz.prog (holdF i) := by
  rcases lt7 h with rfl | rfl | rfl | rfl | rfl | rfl | rfl
  · exact (enters_of Tryz.func143 (by kernel_rfl) rfl)
  · exact (enters_of Tryz.func145 (by kernel_rfl) rfl)
  · exact (enters_of Tryz.func145 (by kernel_rfl) rfl)
  · exact (enters_of Tryz.func143 (by kernel_rfl) rfl)
  · exact (enters_of Tryz.func143 (by kernel_rfl) rfl)
  · exact (enters_of Tryz.func145 (by kernel_rfl) rfl)
  · exact (enters_of Tryz.func143 (by kernel_rfl) rfl)
theorem enters_take {i : Nat} (h : i < 7) : Enters Tryz.prog (takeF i) := by
  rcases lt7 h with rfl | rfl | rfl | rfl | rfl | rfl | rfl
  · exact (enters_of Tryz.func144 (by kernel_rfl) rfl)
  · exact (enters_of Tryz.func146 (by kernel_rfl) rfl)
  · exact (enters_of Tryz.func146 (by kernel_rfl) rfl)
  · exact (enters_of Tryz.func144 (by kernel_rfl) rfl)
  · exact (enters_of Tryz.func144 (by kernel_rfl) rfl)
  · exact (enters_of Tryz.func146 (by kernel_rfl) rfl)
  · exact (enters_of Tryz.func144 (by kernel_rfl) rfl)
theorem S_holdR {R : List (Nat × Obj)} {p : Nat → Nat} {i : Nat} (hi : i < 7) (hR : ∀ q ∈ rowB p i, q ∈ R) (r : Rec) : PureR Tryz.prog (holdF i) (r.val :: capsR p i).toArray (wV (holdsE r i).l) R := by
  rcases lt7 hi with rfl | rfl | rfl | rfl | rfl | rfl | rfl
  · exact S_hold2 (enters_of Tryz.func120 (by kernel_rfl) rfl) (enters_of Tryz.func121 (by kernel_rfl) rfl) P_ptr2 P_ptr3 (hR _ (List.mem_cons_of_mem _ List.mem_cons_self)) (hR _ List.mem_cons_self) r rfl rfl
  · exact S_holdW (enters_of Tryz.func123 (by kernel_rfl) rfl) P_ptr4 (hR _ List.mem_cons_self) r rfl
  · exact S_holdW (enters_of Tryz.func124 (by kernel_rfl) rfl) P_ptr5 (hR _ List.mem_cons_self) r rfl
  · exact S_hold1 (enters_of Tryz.func118 (by kernel_rfl) rfl) (enters_of Tryz.func118 (by kernel_rfl) rfl) P_ptr1 P_ptr1 (hR _ (List.mem_cons_of_mem _ List.mem_cons_self)) (hR _ List.mem_cons_self) r rfl rfl
  · exact S_hold2 (enters_of Tryz.func118 (by kernel_rfl) rfl) (enters_of Tryz.func125 (by kernel_rfl) rfl) P_ptr1 P_ptr6 (hR _ (List.mem_cons_of_mem _ List.mem_cons_self)) (hR _ List.mem_cons_self) r rfl rfl
  · exact S_holdW (enters_of Tryz.func126 (by kernel_rfl) rfl) P_ptr7 (hR _ List.mem_cons_self) r rfl
  · exact S_hold1 (enters_of Tryz.func127 (by kernel_rfl) rfl) (enters_of Tryz.func127 (by kernel_rfl) rfl) P_ptr8 P_ptr8 (hR _ (List.mem_cons_of_mem _ List.mem_cons_self)) (hR _ List.mem_cons_self) r rfl rfl
theorem S_takeR {R : List (Nat × Obj)} {p : Nat → Nat} {i ρ : Nat} (hi : i < 7) (hR : ∀ q ∈ rowB p i, q ∈ R) (r : Rec) (w4 : W4) : PureT (α := Unit) Tryz.prog (takeF i) (ptV ρ 0 :: wV w4.l :: capsR p i).toArray (fun _ => .tuple #[]) [(ρ, .cells r.cells.toArray 29 (0, 0))] (fun _ => [(ρ, .cells (takeE r w4 i).cells.toArray 29 (0, 0))]) R := by
  rcases lt7 hi with rfl | rfl | rfl | rfl | rfl | rfl | rfl
  · exact S_take2 (enters_of Tryz.func120 (by kernel_rfl) rfl) (enters_of Tryz.func121 (by kernel_rfl) rfl) P_ptr2 P_ptr3 (hR _ (List.mem_cons_of_mem _ List.mem_cons_self)) (hR _ List.mem_cons_self) r w4 (by decide) (by decide)
  · exact S_takeW (enters_of Tryz.func123 (by kernel_rfl) rfl) P_ptr4 (hR _ List.mem_cons_self) r w4 (by decide) rfl
  · exact S_takeW (enters_of Tryz.func124 (by kernel_rfl) rfl) P_ptr5 (hR _ List.mem_cons_self) r w4 (by decide) rfl
  · exact S_take1 (enters_of Tryz.func118 (by kernel_rfl) rfl) (enters_of Tryz.func118 (by kernel_rfl) rfl) P_ptr1 P_ptr1 (hR _ (List.mem_cons_of_mem _ List.mem_cons_self)) (hR _ List.mem_cons_self) r w4 (by decide) (by decide)
  · exact S_take2 (enters_of Tryz.func118 (by kernel_rfl) rfl) (enters_of Tryz.func125 (by kernel_rfl) rfl) P_ptr1 P_ptr6 (hR _ (List.mem_cons_of_mem _ List.mem_cons_self)) (hR _ List.mem_cons_self) r w4 (by decide) (by decide)
  · exact S_takeW (enters_of Tryz.func126 (by kernel_rfl) rfl) P_ptr7 (hR _ List.mem_cons_self) r w4 (by decide) rfl
  · exact S_take1 (enters_of Tryz.func127 (by kernel_rfl) rfl) (enters_of Tryz.func127 (by kernel_rfl) rfl) P_ptr8 P_ptr8 (hR _ (List.mem_cons_of_mem _ List.mem_cons_self)) (hR _ List.mem_cons_self) r w4 (by decide) (by decide)
set_option maxRecDepth 10000 in
theorem E_packed2 (k : Nat) (a b : Int) (gl gh : FuncId) : PureE (α := Nat × Nat) Tryz.prog 119 [uV k, .int .i64 a, .int .i64 b, fV gl, fV gh].toArray (fun p => .agg #[uV k, .int .i64 a, .int .i64 b, .func (.func 143) #[] #[ptV p.1 0, ptV p.2 0], .func (.func 144) #[] #[ptV p.1 0, ptV p.2 0]]) (fun p => [(p.2, .cells #[fV gh] 135 (0, 0)), (p.1, .cells #[fV gl] 135 (0, 0))]) := by
  refine pureE_of_HC Tryz.func119 rfl rfl fun w => ?_; refine HC_seq fun K1 hK1 => ?_; refine HC_region ?_; refine HL_box (cs := #[_]) rfl rfl rfl rfl fun r1 => ?_; refine HL_box (cs := #[_]) rfl rfl rfl rfl fun r2 => ?_; refine HL_alloc (cs := #[_, _, _, _, _]) rfl rfl rfl rfl fun r3 => ?_; refine HL_nil ?_; refine HQ_then ?_; refine hK1 _ _ _ _ ?_; clear hK1 K1; refine HC_seq fun K2 hK2 => ?_; refine HC_region ?_; refine HL_r rfl rfl rfl rfl (R_makeFunc rfl rfl) ?_; refine HL_r rfl rfl rfl rfl (R_assign rfl) ?_; refine HL_nil ?_; refine HQ_then ?_; refine hK2 _ _ _ _ ?_; clear hK2 K2; refine HC_seq fun K3 hK3 => ?_; refine HC_region ?_; refine HL_r rfl rfl rfl rfl (R_makeFunc rfl rfl) ?_; refine HL_r rfl rfl rfl rfl (R_assign rfl) ?_; refine HL_nil ?_; refine HQ_then ?_; refine hK3 _ _ _ _ ?_; clear hK3 K3; refine HC_seq fun K4 hK4 => ?_; refine HC_region ?_; refine HL_r rfl rfl rfl rfl (R_move rfl) ?_; refine HL_r rfl rfl rfl rfl (R_move rfl) ?_; refine HL_r rfl rfl rfl rfl (R_move rfl) ?_; refine HL_r rfl rfl rfl rfl (R_move rfl) ?_; refine HL_r rfl rfl rfl rfl (R_move rfl) ?_; refine HL_r rfl rfl rfl rfl (R_build (r := [_, _, _, _, _]) rfl rfl) ?_
  refine HL_storeA (k := 0) (n := 5) (cs' := #[_, _, _, _, _]) (vs := #[_, _, _, _, _]) rfl rfl rfl rfl rfl rfl rfl (by exact Nat.le_of_ble_eq_true rfl) rfl (by first | (simp only [List.set_cons_zero, List.set_cons_succ]; exact rfl) | exact rfl) ?_; refine HL_nil ?_; refine HQ_then ?_; refine hK4 _ _ _ _ ?_; clear hK4 K4; refine HC_ret ?_; refine HQ_post rfl rfl (.cons (res_cellA (vs := [_, _, _, _, _]) rfl (known_L (k := 0) rfl) rfl rfl) .nil) (fun w1 hs1 => ?_); exact ⟨(r1, r2), rfl, hs1.weakL (List.sublist_cons_self _ _)⟩
set_option maxRecDepth 10000 in
theorem E_packed1 (k : Nat) (a b : Int) (gl gh : FuncId) : PureE (α := Nat × Nat) Tryz.prog 119 [uV k, .int .i64 a, .int .i64 b, fV gl, .nilFunc].toArray (fun p => .agg #[uV k, .int .i64 a, .int .i64 b, .func (.func 143) #[] #[ptV p.1 0, ptV p.2 0], .func (.func 144) #[] #[ptV p.1 0, ptV p.2 0]]) (fun p => [(p.2, .cells #[.nilFunc] 135 (0, 0)), (p.1, .cells #[fV gl] 135 (0, 0))]) := by
  refine pureE_of_HC Tryz.func119 rfl rfl fun w => ?_; refine HC_seq fun K1 hK1 => ?_; refine HC_region ?_; refine HL_box (cs := #[_]) rfl rfl rfl rfl fun r1 => ?_; refine HL_box (cs := #[_]) rfl rfl rfl rfl fun r2 => ?_; refine HL_alloc (cs := #[_, _, _, _, _]) rfl rfl rfl rfl fun r3 => ?_; refine HL_nil ?_; refine HQ_then ?_; refine hK1 _ _ _ _ ?_; clear hK1 K1; refine HC_seq fun K2 hK2 => ?_; refine HC_region ?_; refine HL_r rfl rfl rfl rfl (R_makeFunc rfl rfl) ?_; refine HL_r rfl rfl rfl rfl (R_assign rfl) ?_; refine HL_nil ?_; refine HQ_then ?_; refine hK2 _ _ _ _ ?_; clear hK2 K2; refine HC_seq fun K3 hK3 => ?_; refine HC_region ?_; refine HL_r rfl rfl rfl rfl (R_makeFunc rfl rfl) ?_; refine HL_r rfl rfl rfl rfl (R_assign rfl) ?_; refine HL_nil ?_; refine HQ_then ?_; refine hK3 _ _ _ _ ?_; clear hK3 K3; refine HC_seq fun K4 hK4 => ?_; refine HC_region ?_; refine HL_r rfl rfl rfl rfl (R_move rfl) ?_; refine HL_r rfl rfl rfl rfl (R_move rfl) ?_; refine HL_r rfl rfl rfl rfl (R_move rfl) ?_; refine HL_r rfl rfl rfl rfl (R_move rfl) ?_; refine HL_r rfl rfl rfl rfl (R_move rfl) ?_; refine HL_r rfl rfl rfl rfl (R_build (r := [_, _, _, _, _]) rfl rfl) ?_
  refine HL_storeA (k := 0) (n := 5) (cs' := #[_, _, _, _, _]) (vs := #[_, _, _, _, _]) rfl rfl rfl rfl rfl rfl rfl (by exact Nat.le_of_ble_eq_true rfl) rfl (by first | (simp only [List.set_cons_zero, List.set_cons_succ]; exact rfl) | exact rfl) ?_; refine HL_nil ?_; refine HQ_then ?_; refine hK4 _ _ _ _ ?_; clear hK4 K4; refine HC_ret ?_; refine HQ_post rfl rfl (.cons (res_cellA (vs := [_, _, _, _, _]) rfl (known_L (k := 0) rfl) rfl rfl) .nil) (fun w1 hs1 => ?_); exact ⟨(r1, r2), rfl, hs1.weakL (List.sublist_cons_self _ _)⟩
set_option maxRecDepth 10000 in
theorem E_plain (k : Nat) (a b : Int) (g : FuncId) : PureE (α := Nat) Tryz.prog 122 [uV k, .int .i64 a, .int .i64 b, fV g].toArray (fun p => .agg #[uV k, .int .i64 a, .int .i64 b, .func (.func 145) #[] #[ptV p 0], .func (.func 146) #[] #[ptV p 0]]) (fun p => [(p, .cells #[fV g] 139 (0, 0))]) := by
  refine pureE_of_HC Tryz.func122 rfl rfl fun w => ?_; refine HC_seq fun K1 hK1 => ?_; refine HC_region ?_; refine HL_box (cs := #[_]) rfl rfl rfl rfl fun r1 => ?_; refine HL_alloc (cs := #[_, _, _, _, _]) rfl rfl rfl rfl fun r2 => ?_; refine HL_nil ?_; refine HQ_then ?_; refine hK1 _ _ _ _ ?_; clear hK1 K1; refine HC_seq fun K2 hK2 => ?_; refine HC_region ?_; refine HL_r rfl rfl rfl rfl (R_move rfl) ?_; refine HL_r rfl rfl rfl rfl (R_move rfl) ?_; refine HL_r rfl rfl rfl rfl (R_move rfl) ?_; refine HL_r rfl rfl rfl rfl (R_makeFunc rfl rfl) ?_; refine HL_r rfl rfl rfl rfl (R_makeFunc rfl rfl) ?_; refine HL_r rfl rfl rfl rfl (R_build (r := [_, _, _, _, _]) rfl rfl) ?_
  refine HL_storeA (k := 0) (n := 5) (cs' := #[_, _, _, _, _]) (vs := #[_, _, _, _, _]) rfl rfl rfl rfl rfl rfl rfl (by exact Nat.le_of_ble_eq_true rfl) rfl (by first | (simp only [List.set_cons_zero, List.set_cons_succ]; exact rfl) | exact rfl) ?_; refine HL_nil ?_; refine HQ_then ?_; refine hK2 _ _ _ _ ?_; clear hK2 K2; refine HC_ret ?_; refine HQ_post rfl rfl (.cons (res_cellA (vs := [_, _, _, _, _]) rfl (known_L (k := 0) rfl) rfl rfl) .nil) (fun w1 hs1 => ?_); exact ⟨r1, rfl, hs1.weakL (List.sublist_cons_self _ _)⟩
def tabL (p : Nat → Nat) : List (Nat × Obj) := (p 0, .cells (tab.flatMap (rowC p)).toArray 72 (0, 0)) :: (rowB p 6 ++ (rowB p 5 ++ (rowB p 4 ++ (rowB p 3 ++ (rowB p 2 ++ (rowB p 1 ++ rowB p 0))))))
set_option maxRecDepth 10000 in
theorem E_table : PureE (α := Nat → Nat) Tryz.prog 102 [].toArray (fun p => .slice (some ⟨p 0, 0, none⟩) 7 7) tabL := by
  refine pureE_of_HC Tryz.func102 rfl rfl fun w => ?_; refine HC_seq fun K1 hK1 => ?_; refine HC_region ?_; refine HL_r rfl rfl rfl rfl (R_assign rfl) ?_; refine HL_nil ?_; refine HQ_then ?_; refine hK1 _ _ _ _ ?_; clear hK1 K1; refine HC_seq fun K2 hK2 => ?_; refine HC_region ?_; refine HL_r rfl rfl rfl rfl (R_assign rfl) ?_; refine HL_nil ?_; refine HQ_then ?_; refine hK2 _ _ _ _ ?_; clear hK2 K2; refine HC_seq fun K3 hK3 => ?_; refine HC_region ?_; refine HL_callPE rfl rfl rfl (enters_of Tryz.func119 (by kernel_rfl) rfl) (E_packed2 0 0 5 120 121) fun pp => ?_
  obtain ⟨a1, a2⟩ := pp
  refine HL_callPE rfl rfl rfl (enters_of Tryz.func122 (by kernel_rfl) rfl) (E_plain 1 0 5 123) fun a3 => ?_; refine HL_callPE rfl rfl rfl (enters_of Tryz.func122 (by kernel_rfl) rfl) (E_plain 5 0 2 124) fun a4 => ?_; refine HL_r rfl rfl rfl rfl (R_move rfl) ?_; refine HL_callPE rfl rfl rfl (enters_of Tryz.func119 (by kernel_rfl) rfl) (E_packed1 6 0 2 118 118) fun pp => ?_
  obtain ⟨a5, a6⟩ := pp
  refine HL_r rfl rfl rfl rfl (R_move rfl) ?_; refine HL_callPE rfl rfl rfl (enters_of Tryz.func119 (by kernel_rfl) rfl) (E_packed2 3 3 5 118 125) fun pp => ?_
  obtain ⟨a7, a8⟩ := pp
  refine HL_callPE rfl rfl rfl (enters_of Tryz.func122 (by kernel_rfl) rfl) (E_plain 7 3 5 126) fun a9 => ?_; refine HL_callPE rfl rfl rfl (enters_of Tryz.func119 (by kernel_rfl) rfl) (E_packed1 8 5 5 127 127) fun pp => ?_
  obtain ⟨a10, a11⟩ := pp
  refine HL_buildSlice (n := 7) (sz := 5) (vs := [_, _, _, _, _, _, _]) (zs := [_, _, _, _, _, _, _, _, _, _, _, _, _, _, _, _, _, _, _, _, _, _, _, _, _, _, _, _, _, _, _, _, _, _, _]) (r := tab.flatMap (rowC ([0, a1, a2, a3, a4, a5, a6, a7, a8, a9, a10, a11].getD · 0))) rfl rfl rfl rfl rfl rfl rfl rfl rfl (by rw [made_list]; exact rfl) rfl fun rt => ?_; refine HL_r rfl rfl rfl rfl (R_assign rfl) ?_; refine HL_nil ?_; refine HQ_then ?_; refine hK3 _ _ _ _ ?_; clear hK3 K3; refine HC_ret ?_; refine HQ_post rfl rfl (.cons (res_tmp rfl) .nil) (fun w1 hs1 => ?_); exact ⟨([rt, a1, a2, a3, a4, a5, a6, a7, a8, a9, a10, a11].getD · 0), rfl, hs1⟩
end Go.Proofs.YtnkmbkndpoghdaaGreat
namespace Go.Proofs.YtnkmbkndpoghdaaGreat
set_option linter.all false
open Go.SL Go.RowKit Go.Shelf
set_option maxRecDepth 10000 in
theorem E_rows (f : Int) : PureE (α := Nat) Tryz.prog 71 [.int .i64 f].toArray (fun p => .func (.func 101) #[] #[ptV p 0]) (fun p => [(p, .cells #[.int .i64 f] 3 (0, 0))]) := by
  refine pureE_of_HC Tryz.func71 rfl rfl fun w => ?_; refine HC_seq fun K1 hK1 => ?_; refine HC_region ?_; refine HL_box (cs := #[_]) rfl rfl rfl rfl fun r1 => ?_; refine HL_r rfl rfl rfl rfl (R_assign rfl) ?_; refine HL_nil ?_; refine HQ_then ?_; refine hK1 _ _ _ _ ?_; clear hK1 K1; refine HC_seq fun K2 hK2 => ?_; refine HC_region ?_; refine HL_r rfl rfl rfl rfl (R_makeFunc rfl rfl) ?_; refine HL_r rfl rfl rfl rfl (R_assign rfl) ?_; refine HL_nil ?_; refine HQ_then ?_; refine hK2 _ _ _ _ ?_; clear hK2 K2; refine HC_ret ?_; refine HQ_post rfl rfl (.cons (res_tmp rfl) .nil) (fun w1 hs1 => ?_); exact ⟨r1, rfl, hs1⟩
def nxT (f : Int) : Nat → List Value → List (Nat × Obj) → Nat → Prop := fun i v B i' => i < 7 ∧ i' = i + 1 ∧ ∃ p : Nat → Nat, v = [.agg (rowC p i).toArray, .bool (hasE f i)] ∧ B = rowB p i
theorem rowB_sub {p : Nat → Nat} {i : Nat} (hi : i < 7) : ∀ q ∈ rowB p i, q ∈ tabL p := by
  intro q hq
  unfold tabL
  rcases lt7 hi with rfl | rfl | rfl | rfl | rfl | rfl | rfl <;> simp only [List.mem_cons, List.mem_append, hq, true_or, or_true]
theorem has_yes {f : Int} (hf : Forked f) {i : Nat} (hi : i < 7) (h : f ≥ frN i) : decide (f ≤ toN i) = hasE f i := by rw [has_eq hf hi, decide_eq_true h, Bool.true_and]
theorem has_no {f : Int} (hf : Forked f) {i : Nat} (hi : i < 7) (h : ¬ f ≥ frN i) : false = hasE f i := by rw [has_eq hf hi, decide_eq_false h, Bool.false_and]
set_option maxRecDepth 10000 in
theorem I_rows {f : Int} (hf : Forked f) (b : Nat) : IterB Tryz.prog 101 [ptV b 0] [(b, .cells #[.int .i64 f] 3 (0, 0))] 0 (nxT f) (fun i => i = 7) := by
  refine iterB_of_HC Tryz.func101 rfl rfl fun q xids w2 XI XF hY => ?_; refine HC_seq fun K1 hK1 => ?_; refine HC_region ?_; refine HL_callPE rfl rfl rfl (enters_of Tryz.func102 (by kernel_rfl) rfl) E_table fun p => ?_; change HL _ _ _ (tabL p ++ []) _ _ _ _; rw [List.append_nil]; refine HL_r rfl rfl rfl rfl (R_lenSl rfl rfl) ?_; refine HL_r rfl rfl rfl rfl (R_move rfl) ?_; refine HL_nil ?_; refine HQ_then ?_; refine hK1 _ _ _ _ ?_; clear hK1 K1; refine HC_block ?_; refine HC_loop (σ := Nat) (fun i => i ≤ 7) (fun i => [(0, .func (.yield q) #[] #[]), (1, ptV b 0), (5, .slice (some ⟨p 0, 0, none⟩) 7 7), (6, .int .i64 7), (7, .int .i64 (i : Int))]) (fun _ => tabL p) (fun i => XI i) (fun i => 7 - i) 0 (Nat.zero_le _) (.cons rfl (.cons rfl (.cons rfl (.cons rfl (.cons rfl .nil))))) (List.Sublist.refl _) (fun _ _ h => h) ?_; intro i hi1; refine HC_seq fun K2 hK2 => ?_; refine HC_region ?_; refine HL_r rfl rfl rfl rfl (R_pure rfl rfl rfl) ?_; refine HL_nil ?_; refine HQ_then ?_; refine hK2 _ _ _ _ ?_; clear hK2 K2; refine HC_seq fun K3 hK3 => ?_; refine HC_cond rfl (fun h4 => ?_) (fun h4 => ?_)
  · try exact Bool.noConfusion h4
    try simp only [Z1, Z2, Z3, Z4, Z5, Z6, Z7, Z8, Z9, Z10, Z11, Z12, Z13] at h4
    refine HC_skip ?_; refine HQ_then ?_; refine hK3 _ _ _ _ ?_; clear hK3 K3; refine HC_seq fun K5 hK5 => ?_; refine HC_block ?_; refine HC_seq fun K6 hK6 => ?_; refine HC_region ?_; refine HL_r rfl rfl rfl rfl (R_indexS (j := i) (m := 5) (off' := i * 5) rfl rfl rfl rfl rfl (by omega) (by omega)) ?_; refine HL_r rfl rfl rfl rfl (R_loadA (n := 5) (vs := rowC p i) rfl (Or.inl List.mem_cons_self) rfl rfl (cat_get (rowC_len p) (tab_get (by omega))) rfl) ?_; refine HL_alloc (cs := #[_, _, _, _, _]) rfl rfl rfl rfl fun r1 => ?_
    refine HL_storeA (k := 0) (n := 5) (cs' := #[_, _, _, _, _]) (vs := #[_, _, _, _, _]) rfl rfl rfl rfl rfl rfl rfl (by exact Nat.le_of_ble_eq_true rfl) rfl (by first | (simp only [List.set_cons_zero, List.set_cons_succ]; exact rfl) | exact rfl) ?_; refine HL_nil ?_; refine HQ_then ?_; refine hK6 _ _ _ _ ?_; clear hK6 K6; refine HC_seq fun K7 hK7 => ?_; refine HC_region ?_; refine HL_r rfl rfl rfl rfl (R_move rfl) ?_; refine HL_r rfl rfl rfl rfl (R_loadA (vs := [_, _, _, _, _]) rfl (known_L (k := 0) rfl) rfl rfl rfl rfl) ?_; refine HL_r rfl rfl rfl rfl (R_load rfl (known_R (k := 0) rfl) rfl rfl) ?_
    refine HL_r rfl rfl rfl rfl (R_fieldAddr rfl rfl (by first | (simp only [Nat.zero_add, Nat.reduceAdd, Nat.reduceMul, Nat.zero_mul, Nat.mul_one, Nat.add_zero]; exact rfl) | exact rfl)) ?_; refine HL_r rfl rfl rfl rfl (R_load rfl (known_L (k := 0) rfl) rfl rfl) ?_; refine HL_r rfl rfl rfl rfl (R_pure rfl rfl rfl) ?_; refine HL_r rfl rfl rfl rfl (R_move rfl) ?_
    refine HL_case 17 rfl (fun hb8 => ?_) (fun hb8 => ?_) <;> (try simp only [Z1, Z2, Z3, Z4, Z5, Z6, Z7, Z8, Z9, Z10, Z11, Z12, Z13] at hb8) <;> first | (refine HL_r rfl rfl rfl rfl (R_load rfl (known_L (k := 0) rfl) rfl rfl) ?_) | (refine HL_r rfl rfl rfl rfl (R_load rfl (known_L (k := 1) rfl) rfl rfl) ?_) | (refine HL_r rfl rfl rfl rfl (R_load rfl (known_R (k := 0) rfl) rfl rfl) ?_) | (refine HL_skip rfl rfl rfl ?_)
    all_goals first
      | (refine HL_r rfl rfl rfl rfl (R_fieldAddr rfl rfl (by first | (simp only [Nat.zero_add, Nat.reduceAdd, Nat.reduceMul, Nat.zero_mul, Nat.mul_one, Nat.add_zero]; exact rfl) | exact rfl)) ?_)
      | (refine HL_skip rfl rfl rfl ?_)
    all_goals first
      | (refine HL_r rfl rfl rfl rfl (R_load rfl (known_L (k := 0) rfl) rfl rfl) ?_)
      | (refine HL_skip rfl rfl rfl ?_)
    all_goals first
      | (refine HL_r rfl rfl rfl rfl (R_pure rfl rfl rfl) ?_)
      | (refine HL_skip rfl rfl rfl ?_)
    all_goals first
      | (refine HL_r rfl rfl rfl rfl (R_pickT rfl rfl) ?_)
      | (refine HL_r rfl rfl rfl rfl (R_pickF rfl rfl) ?_)
    all_goals first
      | (refine HL_as (congrArg Value.bool (has_yes hf (by omega) (by assumption))) ?_)
      | (refine HL_as (congrArg Value.bool (has_no hf (show i < 7 by omega) (by omega))) ?_)
    all_goals refine HL_yieldB (B := rowB p i) (XT := XI (i + 1)) (XF := XF) rfl rfl rfl rfl (hY i [.agg (rowC p i).toArray, .bool (hasE f i)] (rowB p i) (i + 1) ⟨by omega, rfl, p, rfl, rfl⟩) (fun q hq => List.mem_cons_of_mem _ (rowB_sub (by omega) q hq)) ?_ ?_
    all_goals refine HL_r rfl rfl rfl rfl (R_pure rfl rfl rfl) ?_
    all_goals refine HL_nil ?_
    all_goals (
     refine HQ_then ?_; refine hK7 _ _ _ _ ?_; clear hK7 K7; refine HC_cond rfl (fun h12 => ?_) (fun h12 => ?_)
     · try exact Bool.noConfusion h12
       all_goals try simp only [Z1, Z2, Z3, Z4, Z5, Z6, Z7, Z8, Z9, Z10, Z11, Z12, Z13] at h12
       all_goals (
        refine HC_ret ?_; refine HQ_blockR ?_; refine HQ_thenR ?_; clear hK5 K5; refine HQ_thenR ?_; refine HQ_blockR ?_; refine HQ_post rfl rfl .nil (fun w1 hs1 => ?_)
        obtain ⟨xs1, hx1⟩ := hs1.now
        exact ⟨⟨_, rfl⟩, hs1.keep, .inr ⟨_, hx1⟩⟩
        skip)
     · try exact Bool.noConfusion h12
       all_goals try simp only [Z1, Z2, Z3, Z4, Z5, Z6, Z7, Z8, Z9, Z10, Z11, Z12, Z13] at h12
       all_goals (
        refine HC_skip ?_; refine HQ_blockN ?_; refine HQ_then ?_; refine hK5 _ _ _ _ ?_; clear hK5 K5; refine HC_region ?_; refine HL_r rfl rfl rfl rfl (R_pure rfl rfl rfl) ?_; refine HL_wrap_i64 (by omega) (by omega) ?_; refine HL_r rfl rfl rfl rfl (R_move rfl) ?_; refine HL_nil ?_; refine HQ_then ?_; exact HQ_again (i + 1) (by omega) (by omega) (.cons rfl (.cons rfl (.cons rfl (.cons rfl (.cons rfl .nil))))) (List.sublist_cons_self _ _) (fun _ _ h => h)
        skip)
     skip)
  · try exact Bool.noConfusion h4
    try simp only [Z1, Z2, Z3, Z4, Z5, Z6, Z7, Z8, Z9, Z10, Z11, Z12, Z13] at h4
    refine HC_exit ?_; refine HQ_thenE ?_; clear hK3 K3; refine HQ_thenE ?_; refine HQ_blockE ?_; refine HQ_postN rfl rfl .nil (fun w1 hs1 => ?_)
    obtain ⟨xs1, hx1⟩ := hs1.now
    exact ⟨⟨_, rfl⟩, hs1.keep, .inl ⟨i, _, (by show i = 7; omega), hx1⟩⟩
end Go.Proofs.YtnkmbkndpoghdaaGreat
namespace Go.Proofs.YtnkmbkndpoghdaaGreat
set_option linter.all false
open Go.SL Go.RowKit Go.Shelf
theorem fold_snoc {f : Int} {g : Nat → W4} {i : Nat} : ∀ (l : List Nat) (out : Rec), foldE f g (l ++ [i]) out = if hasE f i then takeE (foldE f g l out) (g i) i else foldE f g l out
  | [], out => rfl
  | j :: l, out => by rw [List.cons_append, foldE, foldE, fold_snoc l]
theorem tab_succ {i : Nat} (h : i < 7) : tab.take (i + 1) = tab.take i ++ [i] := by
  rcases lt7 h with rfl | rfl | rfl | rfl | rfl | rfl | rfl <;> rfl
theorem nxT_len {f : Int} : ∀ i v B i', nxT f i v B i' → v.length = 2 := by
  rintro i v B i' ⟨_, _, p, rfl, _⟩; rfl
set_option maxRecDepth 10000 in
theorem P_kept {f : Int} (hf : Forked f) (r : Rec) : Pure Tryz.prog 59 [.int .i64 f, r.val].toArray (keptE f r).val := by
  refine pure_of_HC Tryz.func59 rfl rfl fun w => ?_; refine HC_seq fun K1 hK1 => ?_; refine HC_region ?_; refine HL_box (cs := r.cells.toArray) rfl rfl rfl rfl fun rb => ?_; refine HL_alloc (cs := #[_, _, _, _, _, _, _, _, _, _, _, _, _, _, _, _, _]) rfl rfl rfl rfl fun r1 => ?_; refine HL_nil ?_; refine HQ_then ?_; refine hK1 _ _ _ _ ?_; clear hK1 K1; refine HC_seq fun K2 hK2 => ?_; refine HC_region ?_; refine HL_alloc (cs := #[_, _, _, _, _, _, _, _, _, _, _, _, _, _, _, _, _]) rfl rfl rfl rfl fun r2 => ?_; refine HL_nil ?_; refine HQ_then ?_; refine hK2 _ _ _ _ ?_; clear hK2 K2; refine HC_seq fun K3 hK3 => ?_; refine HC_seq fun K4 hK4 => ?_; refine HC_region ?_; refine HL_r rfl rfl rfl rfl (R_move rfl) ?_; refine HL_callPE rfl rfl rfl (enters_of Tryz.func71 (by kernel_rfl) rfl) (E_rows f) fun b => ?_; refine HL_nil ?_; refine HQ_then ?_; refine hK4 _ _ _ _ ?_; clear hK4 K4; refine HC_block ?_; refine HC_sel [1, 0, 2, 3] (by decide) rfl ?_; refine HC_rangeB (τ := Unit) (fun i (s : Rec) => i ≤ 7 ∧ s = foldE f (holdsE r) (tab.take i) rec0) (fun s => [(r2, .cells s.cells.toArray 29 (0, 0))]) (fun _ _ => False) (fun _ => []) [(b, .cells #[.int .i64 f] 3 (0, 0)), (r1, .cells rec0.cells.toArray 29 (0, 0)), (rb, .cells r.cells.toArray 29 (0, 0))] rec0 rfl rfl (enters_of Tryz.func101 (by kernel_rfl) rfl) (I_rows hf b) nxT_len rfl (by simp) rfl ⟨by decide, rfl⟩ ?_ ?_ ?_
  · rintro q Xr Xb w3 i _ _ _ s ⟨hi, rfl, p, rfl, rfl⟩ ⟨-, hs⟩ Kr hKr
    refine HC_seq fun K5 hK5 => ?_; refine HC_region ?_; refine HL_alloc (cs := #[_, _, _, _, _]) rfl rfl rfl rfl fun r3 => ?_
    refine HL_storeA (k := 0) (n := 5) (cs' := #[_, _, _, _, _]) (vs := #[_, _, _, _, _]) rfl rfl rfl rfl rfl rfl rfl (by exact Nat.le_of_ble_eq_true rfl) rfl (by first | (simp only [List.set_cons_zero, List.set_cons_succ]; exact rfl) | exact rfl) ?_; refine HL_nil ?_; refine HQ_then ?_; refine hK5 _ _ _ _ ?_; clear hK5 K5; refine HC_region ?_; refine HL_r rfl rfl rfl rfl (R_assign rfl) ?_; refine HL_nil ?_; refine HQ_then ?_; refine hKr _ _ ?_; clear hKr; refine HC_block ?_; refine HC_seq fun K6 hK6 => ?_; refine HC_region ?_; refine HL_r rfl rfl rfl rfl (R_move rfl) ?_; refine HL_nil ?_; refine HQ_then ?_; refine hK6 _ _ _ _ ?_; clear hK6 K6; refine HC_cond rfl (fun h7 => ?_) (fun h7 => ?_)
    · try exact Bool.noConfusion h7
      try simp only [Z1, Z2, Z3, Z4, Z5, Z6, Z7, Z8, Z9, Z10, Z11, Z12, Z13] at h7
      refine HC_draw 6 (by kernel_rfl) (by kernel_rfl) ?_
      refine HD_r rfl rfl rfl (R_fieldAddr rfl rfl (by first | (simp only [Nat.zero_add, Nat.reduceAdd, Nat.reduceMul, Nat.zero_mul, Nat.mul_one, Nat.add_zero]; exact rfl) | exact rfl)) ?_; refine HD_r rfl rfl rfl (R_load rfl (known_L (k := 0) rfl) rfl rfl) ?_
      refine HD_r rfl rfl rfl (R_fieldAddr rfl rfl (by first | (simp only [Nat.zero_add, Nat.reduceAdd, Nat.reduceMul, Nat.zero_mul, Nat.mul_one, Nat.add_zero]; exact rfl) | exact rfl)) ?_; refine HD_r rfl rfl rfl (R_load rfl (known_L (k := 0) rfl) rfl rfl) ?_; refine HD_r rfl rfl rfl (R_loadArr (xs := r.cells) (n := 17) rfl (Or.inr (List.mem_append_left _ (List.mem_append_right _ (List.mem_cons_of_mem _ (List.mem_cons_of_mem _ List.mem_cons_self))))) rfl rfl rfl) ?_; refine HD_callR rfl rfl rfl (enters_hold hi) (S_holdR hi (fun q hq => hq) r) (fun q hq => Or.inr (List.mem_append_left _ (List.mem_append_left _ hq))) ?_; refine HD_end ?_; refine HL_callMT (k := 1) rfl rfl rfl rfl rfl (enters_take hi) (S_takeR hi (fun q hq => hq) s (holdsE r i)) (fun q hq => Or.inr (List.mem_append_left _ (List.mem_append_left _ hq))) fun _ => ?_; refine HL_nil ?_; refine HQ_blockN ?_
      (refine HQ_sel [0] (L' := [_]) (by decide) rfl ?_
       exact HQ_round (takeE s (holdsE r i) i) ⟨by omega, by rw [tab_succ hi, fold_snoc, ← hs, if_pos (by assumption)]⟩ rfl)
    · try exact Bool.noConfusion h7
      try simp only [Z1, Z2, Z3, Z4, Z5, Z6, Z7, Z8, Z9, Z10, Z11, Z12, Z13] at h7
      refine HC_skip ?_; refine HQ_blockN ?_
      (refine HQ_sel [1] (L' := [_]) (by decide) rfl ?_
       exact HQ_round s ⟨by omega, by rw [tab_succ hi, fold_snoc, ← hs, if_neg (by simp_all)]⟩ rfl)
  · rintro D i s hfi ⟨-, hs⟩
    obtain rfl : i = 7 := hfi
    refine HQ_blockN ?_; refine HQ_then ?_; refine hK3 _ _ _ _ ?_; clear hK3 K3; refine HC_seq fun K8 hK8 => ?_; refine HC_region ?_; refine HL_r rfl rfl rfl rfl (R_loadArr (xs := s.cells) (n := 17) rfl (known_L (k := 1) rfl) rfl rfl rfl) ?_; refine HL_storeArr (k := 3) (n := 17) (ys := s.cells) rfl rfl rfl rfl rfl rfl rfl rfl rfl ?_; refine HL_nil ?_; refine HQ_then ?_; refine hK8 _ _ _ _ ?_; clear hK8 K8; refine HC_ret ?_; refine HQ_mark (k := 0) rfl rfl ?_; refine HQ_post rfl rfl (.cons (res_cellA (vs := s.cells) rfl (known_L (k := 3) rfl) rfl rfl) .nil) (fun w1 hs1 => ?_); exact ⟨by rw [hs]; rfl, hs1.keep⟩
  · exact fun _ _ _ h => h.elim
end Go.Proofs.YtnkmbkndpoghdaaGreat
namespace Go.Proofs.YtnkmbkndpoghdaaGreat
set_option linter.all false
open Go.SL Go.RowKit Go.Shelf
theorem rec_eq (x y : Rec) : (eqS (uV x.number) (uV y.number) && (eqS (uV x.time) (uV y.time) && (eqCells [uV x.base.a, uV x.base.b, uV x.base.c, uV x.base.d] [uV y.base.a, uV y.base.b, uV y.base.c, uV y.base.d] && (eqCells [uV x.blob.a, uV x.blob.b, uV x.blob.c, uV x.blob.d] [uV y.blob.a, uV y.blob.b, uV y.blob.c, uV y.blob.d] && (eqCells [uV x.overhead.a, uV x.overhead.b, uV x.overhead.c, uV x.overhead.d] [uV y.overhead.a, uV y.overhead.b, uV y.overhead.c, uV y.overhead.d] && (eqS (uV x.scalar) (uV y.scalar) && (eqS (uV x.extra) (uV y.extra) && (eqS (uV x.operator) (uV y.operator) && true)))))))) = decide (x = y) := by
  rw [Bool.eq_iff_iff]; simp only [eqU, eqW, Bool.and_eq_true, decide_eq_true_eq, Bool.and_true]
  obtain ⟨a, b, c, d, e, f, g, h⟩ := x
  obtain ⟨a', b', c', d', e', f', g', h'⟩ := y
  simp only [Rec.mk.injEq]
theorem fits_in {f : Int} (hf : Forked f) (r : Rec) : (keptE f r = r → fitsE f r = 0) ∧ (¬ keptE f r = r → fitsE f r = 2) := by
  unfold fitsE
  rw [if_neg (by simpa using hf)]; exact ⟨fun h => if_pos ((kept_iff hf).1 h), fun h => if_neg fun h2 => h ((kept_iff hf).2 h2)⟩
set_option maxRecDepth 10000 in
theorem P_Fits (f : Int) (r : Rec) : Pure Tryz.prog 22 [.int .i64 f, r.val].toArray (.int .i64 (fitsE f r)) := by
  by_cases hf : Forked f
  · obtain ⟨h1, h2⟩ := fits_in hf r
    refine pure_of_HC Tryz.func22 rfl rfl fun w => ?_; refine HC_seq fun K1 hK1 => ?_; refine HC_region ?_; refine HL_box (cs := r.cells.toArray) rfl rfl rfl rfl fun rb => ?_; refine HL_r rfl rfl rfl rfl (R_assign rfl) ?_; refine HL_nil ?_; refine HQ_then ?_; refine hK1 _ _ _ _ ?_; clear hK1 K1; refine HC_seq fun K2 hK2 => ?_; refine HC_block ?_; refine HC_seq fun K3 hK3 => ?_; refine HC_region ?_; refine HL_r rfl rfl rfl rfl (R_move rfl) ?_; refine HL_callP rfl rfl rfl (enters_of Tryz.func58 (by kernel_rfl) rfl) (P_forked f) ?_; refine HL_r rfl rfl rfl rfl (R_pure rfl rfl rfl) ?_; refine HL_r rfl rfl rfl rfl (R_assign rfl) ?_; refine HL_nil ?_; refine HQ_then ?_; refine hK3 _ _ _ _ ?_; clear hK3 K3; refine HC_cond rfl (fun h4 => ?_) (fun h4 => ?_)
    · try exact Bool.noConfusion h4
      try simp only [Z1, Z2, Z3, Z4, Z5, Z6, Z7, Z8, Z9, Z10, Z11, Z12, Z13] at h4
      refine HC_seq fun K5 hK5 => ?_; refine HC_region ?_; refine HL_r rfl rfl rfl rfl (R_assign rfl) ?_; refine HL_nil ?_; refine HQ_then ?_; refine hK5 _ _ _ _ ?_; clear hK5 K5; refine HC_ret ?_; refine HQ_blockR ?_; refine HQ_thenR ?_; clear hK2 K2; refine HQ_post rfl rfl (.cons (res_tmp rfl) .nil) (fun w1 hs1 => ?_)
      exfalso; first | contradiction | (simp_all; done)
    · try exact Bool.noConfusion h4
      try simp only [Z1, Z2, Z3, Z4, Z5, Z6, Z7, Z8, Z9, Z10, Z11, Z12, Z13] at h4
      refine HC_seq fun K6 hK6 => ?_; refine HC_draw 6 (by kernel_rfl) (by kernel_rfl) ?_; refine HD_r rfl rfl rfl (R_move rfl) ?_; refine HD_r rfl rfl rfl (R_loadArr (xs := r.cells) (n := 17) rfl (known_L (k := 0) rfl) rfl rfl rfl) ?_; refine HD_callP rfl rfl rfl (enters_of Tryz.func59 (by kernel_rfl) rfl) (P_kept hf r) ?_; refine HD_r rfl rfl rfl (R_loadArr (xs := r.cells) (n := 17) rfl (known_L (k := 0) rfl) rfl rfl rfl) ?_; refine HD_r rfl rfl rfl (R_neStr (xs := (keptE f r).cells) (ys := r.cells) rfl rfl rfl (by kernel_rfl) (by kernel_rfl) (.scal (by decide) rfl rfl rfl rfl rfl (.scal (by decide) rfl rfl rfl rfl rfl (.arr (by decide) rfl rfl rfl rfl rfl rfl rfl rfl rfl rfl (.arr (by decide) rfl rfl rfl rfl rfl rfl rfl rfl rfl rfl (.arr (by decide) rfl rfl rfl rfl rfl rfl rfl rfl rfl rfl (.scal (by decide) rfl rfl rfl rfl rfl (.scal (by decide) rfl rfl rfl rfl rfl (.scal (by decide) rfl rfl rfl rfl rfl .nil))))))))) ?_; refine HD_as (congrArg (fun b => Value.bool (!b)) (rec_eq (keptE f r) r)) ?_; refine HD_r rfl rfl rfl (R_assign rfl) ?_; refine HD_end ?_; refine HL_nil ?_; refine HQ_then ?_; refine hK6 _ _ _ _ ?_; clear hK6 K6; refine HC_cond rfl (fun h7 => ?_) (fun h7 => ?_)
      · try exact Bool.noConfusion h7
        try simp only [Z1, Z2, Z3, Z4, Z5, Z6, Z7, Z8, Z9, Z10, Z11, Z12, Z13] at h7
        refine HC_seq fun K8 hK8 => ?_; refine HC_region ?_; refine HL_r rfl rfl rfl rfl (R_assign rfl) ?_; refine HL_nil ?_; refine HQ_then ?_; refine hK8 _ _ _ _ ?_; clear hK8 K8; refine HC_ret ?_; refine HQ_blockR ?_; refine HQ_thenR ?_; clear hK2 K2; refine HQ_post rfl rfl (.cons (res_tmp rfl) .nil) (fun w1 hs1 => ?_); rw [h2 (by assumption)]; exact ⟨rfl, hs1.keep⟩
      · try exact Bool.noConfusion h7
        try simp only [Z1, Z2, Z3, Z4, Z5, Z6, Z7, Z8, Z9, Z10, Z11, Z12, Z13] at h7
        refine HC_skip ?_; refine HQ_blockN ?_; refine HQ_then ?_; refine hK2 _ _ _ _ ?_; clear hK2 K2; refine HC_seq fun K9 hK9 => ?_; refine HC_region ?_; refine HL_r rfl rfl rfl rfl (R_assign rfl) ?_; refine HL_nil ?_; refine HQ_then ?_; refine hK9 _ _ _ _ ?_; clear hK9 K9; refine HC_ret ?_; refine HQ_post rfl rfl (.cons (res_tmp rfl) .nil) (fun w1 hs1 => ?_); rw [h1 (by assumption)]; exact ⟨rfl, hs1.keep⟩
  · have e : fitsE f r = 10 := by unfold fitsE; rw [if_pos hf]
    rw [e]; refine pure_of_HC Tryz.func22 rfl rfl fun w => ?_; refine HC_seq fun K1 hK1 => ?_; refine HC_region ?_; refine HL_box (cs := #[_, _, _, _, _, _, _, _, _, _, _, _, _, _, _, _, _]) rfl rfl rfl rfl fun r1 => ?_; refine HL_r rfl rfl rfl rfl (R_assign rfl) ?_; refine HL_nil ?_; refine HQ_then ?_; refine hK1 _ _ _ _ ?_; clear hK1 K1; refine HC_seq fun K2 hK2 => ?_; refine HC_block ?_; refine HC_seq fun K3 hK3 => ?_; refine HC_region ?_; refine HL_r rfl rfl rfl rfl (R_move rfl) ?_; refine HL_callP rfl rfl rfl (enters_of Tryz.func58 (by kernel_rfl) rfl) (P_forked f) ?_; refine HL_r rfl rfl rfl rfl (R_pure rfl rfl rfl) ?_; refine HL_r rfl rfl rfl rfl (R_assign rfl) ?_; refine HL_nil ?_; refine HQ_then ?_; refine hK3 _ _ _ _ ?_; clear hK3 K3; refine HC_cond rfl (fun h4 => ?_) (fun h4 => ?_)
    · try exact Bool.noConfusion h4
      try simp only [Z1, Z2, Z3, Z4, Z5, Z6, Z7, Z8, Z9, Z10, Z11, Z12, Z13] at h4
      refine HC_seq fun K5 hK5 => ?_; refine HC_region ?_; refine HL_r rfl rfl rfl rfl (R_assign rfl) ?_; refine HL_nil ?_; refine HQ_then ?_; refine hK5 _ _ _ _ ?_; clear hK5 K5; refine HC_ret ?_; refine HQ_blockR ?_; refine HQ_thenR ?_; clear hK2 K2; refine HQ_post rfl rfl (.cons (res_tmp rfl) .nil) (fun w1 hs1 => ?_)
      first | exact ⟨rfl, hs1.keep⟩ | (exfalso; first | contradiction | (simp_all; done))
    · try exact Bool.noConfusion h4
      try simp only [Z1, Z2, Z3, Z4, Z5, Z6, Z7, Z8, Z9, Z10, Z11, Z12, Z13] at h4
      refine HC_seq fun K6 hK6 => ?_; refine HC_draw 6 (by kernel_rfl) (by kernel_rfl) ?_; refine HD_r rfl rfl rfl (R_move rfl) ?_; refine HD_r rfl rfl rfl (R_loadA (vs := [_, _, _, _, _, _, _, _, _, _, _, _, _, _, _, _, _]) rfl (known_L (k := 0) rfl) rfl rfl rfl rfl) ?_
      exfalso; first | contradiction | (simp_all; done)
theorem P_unf (s : BS) : Pure Tryz.prog 99 [strV s].toArray (.tuple #[wV (uW s).l, .int .i64 (unfR s).2]) := by
  rw [uW_l]; exact P_word_Unfixed s
set_option maxRecDepth 10000 in
theorem S_read {R : List (Nat × Obj)} {f : Int} (hf : Forked f) {a : AcL} (ha : a.In R) : PureR Tryz.prog 67 [.int .i64 f, a.val].toArray (readE f a.er).val R := by
  refine pureR_of_HC Tryz.func67 rfl rfl fun w => ?_; refine HC_seq fun K1 hK1 => ?_; refine HC_region ?_; refine HL_box (cs := a.cells.toArray) rfl rfl rfl rfl fun rb => ?_; refine HL_alloc (cs := #[_, _, _, _, _, _, _, _, _, _, _, _, _, _, _, _, _]) rfl rfl rfl rfl fun r1 => ?_; refine HL_nil ?_; refine HQ_then ?_; refine hK1 _ _ _ _ ?_; clear hK1 K1; refine HC_seq fun K2 hK2 => ?_; refine HC_region ?_; refine HL_alloc (cs := #[_, _, _, _, _, _, _, _, _, _, _, _, _, _, _, _, _]) rfl rfl rfl rfl fun r2 => ?_; refine HL_nil ?_; refine HQ_then ?_; refine hK2 _ _ _ _ ?_; clear hK2 K2; refine HC_seq fun K3 hK3 => ?_; refine HC_seq fun K4 hK4 => ?_; refine HC_region ?_; refine HL_r rfl rfl rfl rfl (R_move rfl) ?_; refine HL_callPE rfl rfl rfl (enters_of Tryz.func71 (by kernel_rfl) rfl) (E_rows f) fun b => ?_; refine HL_nil ?_; refine HQ_then ?_; refine hK4 _ _ _ _ ?_; clear hK4 K4; refine HC_block ?_; refine HC_sel [1, 0, 2, 3] (by decide) rfl ?_; refine HC_rangeB (τ := Unit) (fun i (s : Rec) => i ≤ 7 ∧ s = foldE f (fun i => uW (slotE a.er (keyE (keyN i)))) (tab.take i) rec0) (fun s => [(r2, .cells s.cells.toArray 29 (0, 0))]) (fun _ _ => False) (fun _ => []) [(b, .cells #[.int .i64 f] 3 (0, 0)), (r1, .cells rec0.cells.toArray 29 (0, 0)), (rb, .cells a.cells.toArray 55 (0, 0))] rec0 rfl rfl (enters_of Tryz.func101 (by kernel_rfl) rfl) (I_rows hf b) nxT_len rfl (by simp) rfl ⟨by decide, rfl⟩ ?_ ?_ ?_
  · rintro q Xr Xb w3 i _ _ _ s ⟨hi, rfl, p, rfl, rfl⟩ ⟨-, hs⟩ Kr hKr
    refine HC_seq fun K5 hK5 => ?_; refine HC_region ?_; refine HL_alloc (cs := #[_, _, _, _, _]) rfl rfl rfl rfl fun r3 => ?_
    refine HL_storeA (k := 0) (n := 5) (cs' := #[_, _, _, _, _]) (vs := #[_, _, _, _, _]) rfl rfl rfl rfl rfl rfl rfl (by exact Nat.le_of_ble_eq_true rfl) rfl (by first | (simp only [List.set_cons_zero, List.set_cons_succ]; exact rfl) | exact rfl) ?_; refine HL_nil ?_; refine HQ_then ?_; refine hK5 _ _ _ _ ?_; clear hK5 K5; refine HC_region ?_; refine HL_r rfl rfl rfl rfl (R_assign rfl) ?_; refine HL_nil ?_; refine HQ_then ?_; refine hKr _ _ ?_; clear hKr; refine HC_block ?_; refine HC_seq fun K6 hK6 => ?_; refine HC_region ?_; refine HL_r rfl rfl rfl rfl (R_move rfl) ?_; refine HL_nil ?_; refine HQ_then ?_; refine hK6 _ _ _ _ ?_; clear hK6 K6; refine HC_cond rfl (fun h7 => ?_) (fun h7 => ?_)
    · try exact Bool.noConfusion h7
      try simp only [Z1, Z2, Z3, Z4, Z5, Z6, Z7, Z8, Z9, Z10, Z11, Z12, Z13] at h7
      refine HC_seq fun K8 hK8 => ?_
      refine HC_drawB [] [(1, .pure), (3, .pure), (5, .pure), (6, .pure), (7, .pure), (8, .pure), (9, .grow (geNew ptrV (.cells #[.int .u64 0, .int .u64 0, .int .u64 0, .int .u64 0] 27 (0, 0)))), (10, .turn), (11, .pure)] 12 [0, 1, 2, 3, 4, 5, 6, 7, 8, 9, 10, 11] (by kernel_rfl) (by kernel_rfl) (by first | exact (fun _ h => nomatch h) | simp [SubS] | (intro p hp; simp [hp])) ?_; refine HB_r (k := 0) rfl rfl rfl rfl rfl (R_loadArr (xs := a.cells) (n := 8) rfl (Or.inr (List.mem_append_left _ (List.mem_append_right _ (List.mem_cons_of_mem _ (List.mem_cons_of_mem _ List.mem_cons_self))))) rfl rfl rfl) ?_
      refine HB_p (k := 1) rfl rfl rfl rfl rfl (fun _ hS => (R_fieldAddr rfl rfl (by first | (simp only [Nat.zero_add, Nat.reduceAdd, Nat.reduceMul, Nat.zero_mul, Nat.mul_one, Nat.add_zero]; exact rfl) | exact rfl))) ?_; refine HB_r (k := 2) rfl rfl rfl rfl rfl (R_load rfl (known_L (k := 0) rfl) rfl rfl) ?_; refine HB_callP (k := 3) rfl rfl rfl rfl rfl (enters_of Tryz.func72 (by kernel_rfl) rfl) (P_lkey (keyN_u i)) ?_; refine HB_callR (k := 4) rfl rfl rfl rfl rfl (enters_of Tryz.func42 (by kernel_rfl) rfl) (S_Slot ha (keyE (keyN i))) (fun q hq => Or.inr (List.mem_append_right _ hq)) ?_; refine HB_callP (k := 5) rfl rfl rfl rfl rfl (enters_of Tryz.func99 (by kernel_rfl) rfl) (P_unf _) ?_; refine HB_p (k := 6) rfl rfl rfl rfl rfl (fun _ hS => (R_move rfl)) ?_; refine HB_p (k := 7) rfl rfl rfl rfl rfl (fun _ hS => (R_extract rfl rfl)) ?_; refine HB_p (k := 8) rfl rfl rfl rfl rfl (fun _ hS => (R_extract rfl rfl)) ?_; refine HB_alloc (k := 9) (cs := #[_, _, _, _]) rfl rfl rfl rfl rfl rfl fun r4 => ?_
      refine HB_storeArr (k := 10) (q := 0) (n := 4) (ys := [_, _, _, _]) rfl rfl rfl rfl rfl rfl rfl rfl rfl rfl (by first | (simp only [List.set_cons_zero, List.set_cons_succ]; exact rfl) | exact rfl) (by first | exact (fun _ h => nomatch h) | simp [SubS] | (intro p hp; simp [hp])) ?_; refine HB_p (k := 11) rfl rfl rfl rfl rfl (fun _ hS => (R_assign rfl)) ?_; refine HB_end ?_; refine HL_nil ?_; refine HQ_then ?_; refine hK8 _ _ _ _ ?_; clear hK8 K8; refine HC_region ?_
      refine HL_r rfl rfl rfl rfl (R_fieldAddr rfl rfl (by first | (simp only [Nat.zero_add, Nat.reduceAdd, Nat.reduceMul, Nat.zero_mul, Nat.mul_one, Nat.add_zero]; exact rfl) | exact rfl)) ?_; refine HL_r rfl rfl rfl rfl (R_load rfl (known_L (k := 1) rfl) rfl rfl) ?_; refine HL_r rfl rfl rfl rfl (R_loadA (vs := [_, _, _, _]) rfl (known_L (k := 0) rfl) rfl rfl rfl rfl) ?_; refine HL_callMT (k := 2) rfl rfl rfl rfl rfl (enters_take hi) (S_takeR hi (fun q hq => hq) s (uW (slotE a.er (keyE (keyN i))))) (fun q hq => Or.inr (List.mem_append_left _ (List.mem_append_left _ hq))) fun _ => ?_; refine HL_nil ?_; refine HQ_blockN ?_
      (refine HQ_sel [0] (L' := [_]) (by decide) rfl ?_
       exact HQ_round (takeE s (uW (slotE a.er (keyE (keyN i)))) i) ⟨by omega, by rw [tab_succ hi, fold_snoc, ← hs, if_pos (by assumption)]⟩ rfl)
    · try exact Bool.noConfusion h7
      try simp only [Z1, Z2, Z3, Z4, Z5, Z6, Z7, Z8, Z9, Z10, Z11, Z12, Z13] at h7
      refine HC_skip ?_; refine HQ_blockN ?_
      (refine HQ_sel [1] (L' := [_]) (by decide) rfl ?_
       exact HQ_round s ⟨by omega, by rw [tab_succ hi, fold_snoc, ← hs, if_neg (by simp_all)]⟩ rfl)
  · rintro D i s hfi ⟨-, hs⟩
    obtain rfl : i = 7 := hfi
    refine HQ_blockN ?_; refine HQ_then ?_; refine hK3 _ _ _ _ ?_; clear hK3 K3; refine HC_seq fun K9 hK9 => ?_; refine HC_region ?_; refine HL_r rfl rfl rfl rfl (R_loadArr (xs := s.cells) (n := 17) rfl (known_L (k := 1) rfl) rfl rfl rfl) ?_; refine HL_storeArr (k := 3) (n := 17) (ys := s.cells) rfl rfl rfl rfl rfl rfl rfl rfl rfl ?_; refine HL_nil ?_; refine HQ_then ?_; refine hK9 _ _ _ _ ?_; clear hK9 K9; refine HC_ret ?_; refine HQ_mark (k := 0) rfl rfl ?_; refine HQ_post rfl rfl (.cons (res_cellA (vs := s.cells) rfl (known_L (k := 3) rfl) rfl rfl) .nil) (fun w1 hs1 => ?_); exact ⟨by rw [hs]; rfl, hs1.keep⟩
  · exact fun _ _ _ h => h.elim
end Go.Proofs.YtnkmbkndpoghdaaGreat
namespace Go.Proofs.YtnkmbkndpoghdaaGreat
set_option linter.all false
open Go.SL Go.RowKit Go.Shelf
theorem P_ofN {f : Int} (hf : Forked f) {i : Nat} (hi : i < 2) : Pure Tryz.prog 47 [.int .i64 f, .int .i64 (i : Int)].toArray (.tuple #[strV (codeE f i).1, .bool (codeE f i).2]) := by
  have : i = 0 ∨ i = 1 := by omega
  rcases this with rfl | rfl
  · exact P_of0 hf
  · exact P_of1 hf
def wrU (f : Int) (s : List AcE) : Nat → Int
  | 0 => 0
  | i + 1 => if wrongE f s i then 2 else wrU f s i
theorem wrong_er (f : Int) (s : StL) (i : Nat) : wrongE f s.er i = ((codeE f i).2 && !decide ((findL s (addrE i)).code = (codeE f i).1)) := by
  unfold wrongE
  rw [← find_er]
  show ((codeE f i).2 && decide (¬ (findL s (addrE i)).code = (codeE f i).1)) = _
  rw [decide_not]
theorem lack_er (f : Int) (s : StL) (i : Nat) : lackE f s.er i = ((codeE f i).2 && !foundB s (addrE i)) := by
  unfold lackE
  rw [found_eq]
  cases findS s.er (addrE i) <;> rfl
theorem check_in {f : Int} (hf : Forked f) (s : StL) : checkE f s.er = if chkS s.er ≠ 0 then chkS s.er else if lackE f s.er (0 : Nat) = true ∨ lackE f s.er (1 : Nat) = true then 12 else if ¬ wrU f s.er 2 = 0 then 2 else if tableB f (findL s A0).er (readE f (findL s A0).er) tab = true then 0 else 8 := by
  unfold checkE
  rw [if_neg (by simpa using hf), find_er]
  have e : (¬ wrU f s.er 2 = 0) = ((wrongE f s.er 0 || wrongE f s.er 1) = true) := by
    unfold wrU wrU wrU
    show (¬ (if wrongE f s.er 1 = true then (2 : Int) else if wrongE f s.er 0 = true then 2 else 0) = 0) = _
    cases wrongE f s.er 0 <;> cases wrongE f s.er 1 <;> simp
  simp only [e, Bool.or_eq_true]
  rfl
theorem table_bad {f : Int} {a : AcE} {r : Rec} {i : Nat} (hi : i < 7) (h : ¬ slotE a (keyE (keyN i)) = (rowW f r i).2) : tableB f a r tab = false := by
  rw [← Bool.not_eq_true, table_iff]; intro h2; exact h (h2 i (List.mem_of_getElem? (tab_get hi)))
theorem row_yes {f : Int} {r : Rec} {i : Nat} (h : hasE f i = true) : bW (holdsE r i) = (rowW f r i).2 := by unfold rowW; rw [if_pos h]
theorem row_no {f : Int} {r : Rec} {i : Nat} (h : hasE f i = false) : noneB = (rowW f r i).2 := by unfold rowW; rw [if_neg (by rw [h]; simp)]
set_option maxRecDepth 10000 in
theorem S_lCheck {R : List (Nat × Obj)} (f : Int) {s : StL} (hs : s.In R) : PureR Tryz.prog 29 [.int .i64 f, s.val].toArray (.int .i64 (checkE f s.er)) R := by
  by_cases hf : Forked f
  · have hc := S_Check hs
    have hE := check_in hf s
    have hA := find_in hs A0
    have hrd := S_read hf hA
    rw [hE]; refine pureR_of_HC Tryz.func29 rfl rfl fun w => ?_; refine HC_seq fun K1 hK1 => ?_; refine HC_region ?_; refine HL_box (cs := s.cells.toArray) rfl rfl rfl rfl fun rb => ?_; refine HL_alloc (cs := #[_]) rfl rfl rfl rfl fun r1 => ?_; refine HL_nil ?_; refine HQ_then ?_; refine hK1 _ _ _ _ ?_; clear hK1 K1; refine HC_seq fun K2 hK2 => ?_; refine HC_seq fun K3 hK3 => ?_; refine HC_region ?_; refine HL_r rfl rfl rfl rfl (R_move rfl) ?_; refine HL_callP rfl rfl rfl (enters_of Tryz.func58 (by kernel_rfl) rfl) (P_forked f) ?_; refine HL_r rfl rfl rfl rfl (R_pure rfl rfl rfl) ?_; refine HL_nil ?_; refine HQ_then ?_; refine hK3 _ _ _ _ ?_; clear hK3 K3; refine HC_cond rfl (fun h4 => ?_) (fun h4 => ?_)
    · try exact Bool.noConfusion h4
      try simp only [Z1, Z2, Z3, Z4, Z5, Z6, Z7, Z8, Z9, Z10, Z11, Z12, Z13] at h4
      refine HC_seq fun K5 hK5 => ?_; refine HC_region ?_
      refine HL_store (k := 0) rfl rfl rfl rfl rfl rfl rfl rfl (by first | (simp only [List.setIfInBounds_toArray, List.set_cons_zero, List.set_cons_succ]; exact rfl) | exact rfl) (by first | (simp only [List.set_cons_zero, List.set_cons_succ]; exact rfl) | exact rfl) ?_; refine HL_nil ?_; refine HQ_then ?_; refine hK5 _ _ _ _ ?_; clear hK5 K5; refine HC_ret ?_; refine HQ_thenR ?_; clear hK2 K2
      (refine HQ_post rfl rfl (.cons (res_cell rfl (known_L (k := 0) rfl) rfl rfl) .nil) (fun w1 hs1 => ?_)
       first
         | (rw [if_pos (by omega)]; exact ⟨rfl, hs1.keep⟩)
         | (rw [if_neg (by omega), if_neg hnl, if_pos (by omega)]
            have h2 : wrU f s.er 2 = 2 := by
              have h3 : ¬ wrU f s.er 2 = 0 := by omega
              unfold wrU wrU wrU at h3 ⊢
              split at h3 <;> split <;> simp_all
            rw [h2]; exact ⟨rfl, hs1.keep⟩)
         | (exfalso; first | contradiction | (simp_all; done)))
    · try exact Bool.noConfusion h4
      try simp only [Z1, Z2, Z3, Z4, Z5, Z6, Z7, Z8, Z9, Z10, Z11, Z12, Z13] at h4
      refine HC_skip ?_; refine HQ_then ?_; refine hK2 _ _ _ _ ?_; clear hK2 K2; refine HC_seq fun K6 hK6 => ?_; refine HC_seq fun K7 hK7 => ?_; refine HC_region ?_; refine HL_r rfl rfl rfl rfl (R_loadA (vs := [_]) rfl (known_L (k := 1) rfl) rfl rfl rfl rfl) ?_; refine HL_callR rfl rfl rfl (enters_of Tryz.func44 (by kernel_rfl) rfl) hc (fun q hq => Or.inr hq) ?_; refine HL_r rfl rfl rfl rfl (R_assign rfl) ?_; refine HL_nil ?_; refine HQ_then ?_; refine hK7 _ _ _ _ ?_; clear hK7 K7; refine HC_seq fun K8 hK8 => ?_; refine HC_region ?_; refine HL_r rfl rfl rfl rfl (R_move rfl) ?_; refine HL_r rfl rfl rfl rfl (R_pure rfl rfl rfl) ?_; refine HL_nil ?_; refine HQ_then ?_; refine hK8 _ _ _ _ ?_; clear hK8 K8; refine HC_cond rfl (fun h9 => ?_) (fun h9 => ?_)
      · try exact Bool.noConfusion h9
        try simp only [Z1, Z2, Z3, Z4, Z5, Z6, Z7, Z8, Z9, Z10, Z11, Z12, Z13] at h9
        refine HC_seq fun K10 hK10 => ?_; refine HC_region ?_; refine HL_r rfl rfl rfl rfl (R_move rfl) ?_
        refine HL_store (k := 0) rfl rfl rfl rfl rfl rfl rfl rfl (by first | (simp only [List.setIfInBounds_toArray, List.set_cons_zero, List.set_cons_succ]; exact rfl) | exact rfl) (by first | (simp only [List.set_cons_zero, List.set_cons_succ]; exact rfl) | exact rfl) ?_; refine HL_nil ?_; refine HQ_then ?_; refine hK10 _ _ _ _ ?_; clear hK10 K10; refine HC_ret ?_; refine HQ_thenR ?_; clear hK6 K6
        first
          | (refine HQ_mark (k := 0) rfl rfl ?_
             refine HQ_post rfl rfl (.cons (res_cell rfl (known_L (k := 1) rfl) rfl rfl) .nil) (fun w1 hs1 => ?_); rw [if_neg (by omega), if_neg hnl, if_neg (by omega)]
             first
               | (rw [if_pos htab]; exact ⟨rfl, hs1.keep⟩)
               | (rw [if_neg (by rw [htab]; simp)]; exact ⟨rfl, hs1.keep⟩))
          | (refine HQ_post rfl rfl (.cons (res_cell rfl (known_L (k := 0) rfl) rfl rfl) .nil) (fun w1 hs1 => ?_)
             first
               | (rw [if_pos (by omega)]; exact ⟨rfl, hs1.keep⟩)
               | (rw [if_neg (by omega), if_neg hnl, if_pos (by omega)]
                  have h2 : wrU f s.er 2 = 2 := by
                    have h3 : ¬ wrU f s.er 2 = 0 := by omega
                    unfold wrU wrU wrU at h3 ⊢
                    split at h3 <;> split <;> simp_all
                  rw [h2]; exact ⟨rfl, hs1.keep⟩)
               | (exfalso; first | contradiction | (simp_all; done)))
          | (refine HQ_post rfl rfl (.cons (res_cell rfl (known_L (k := 1) rfl) rfl rfl) .nil) (fun w1 hs1 => ?_)
             rw [if_neg (by omega), if_pos (by have h01 : i = 0 ∨ i = 1 := by omega
                                               rcases h01 with rfl | rfl
                                               · exact Or.inl hlk
                                               · exact Or.inr hlk)]
             exact ⟨rfl, hs1.keep⟩)
      · try exact Bool.noConfusion h9
        try simp only [Z1, Z2, Z3, Z4, Z5, Z6, Z7, Z8, Z9, Z10, Z11, Z12, Z13] at h9
        refine HC_skip ?_; refine HQ_then ?_; refine hK6 _ _ _ _ ?_; clear hK6 K6; refine HC_seq fun K11 hK11 => ?_; refine HC_region ?_; refine HL_r rfl rfl rfl rfl (R_assign rfl) ?_; refine HL_nil ?_; refine HQ_then ?_; refine hK11 _ _ _ _ ?_; clear hK11 K11; refine HC_seq fun K12 hK12 => ?_; refine HC_seq fun K13 hK13 => ?_; refine HC_region ?_; refine HL_r rfl rfl rfl rfl (R_move rfl) ?_; refine HL_nil ?_; refine HQ_then ?_; refine hK13 _ _ _ _ ?_; clear hK13 K13; refine HC_block ?_
        have hc0 : chkS s.er = 0 := by omega
        refine HC_loop (σ := Nat) (fun i => i ≤ 2 ∧ ∀ j, j < i → lackE f s.er (j : Nat) = false) (fun i => [(0, .int .i64 f), (3, ptV rb 0), (4, ptV r1 0), (6, .int .i64 (wrU f s.er i)), (26, .int .i64 (i : Int))]) (fun _ => [(r1, .cells #[.int .i64 0] 32 (0, 0)), (rb, .cells s.cells.toArray 24 (0, 0))]) (fun _ _ _ => True) (fun i => 2 - i) 0 ⟨by omega, fun j hj => absurd hj (by omega)⟩ (.cons rfl (.cons rfl (.cons rfl (.cons rfl (.cons rfl .nil))))) (List.Sublist.refl _) (fun _ _ h => h) ?_; rintro i ⟨hi2, hinv⟩; refine HC_seq fun K14 hK14 => ?_; refine HC_region ?_; refine HL_r rfl rfl rfl rfl (R_pure rfl rfl rfl) ?_; refine HL_nil ?_; refine HQ_then ?_; refine hK14 _ _ _ _ ?_; clear hK14 K14; refine HC_seq fun K15 hK15 => ?_; refine HC_cond rfl (fun h16 => ?_) (fun h16 => ?_)
        · try exact Bool.noConfusion h16
          try simp only [Z1, Z2, Z3, Z4, Z5, Z6, Z7, Z8, Z9, Z10, Z11, Z12, Z13] at h16
          refine HC_skip ?_; refine HQ_then ?_; refine hK15 _ _ _ _ ?_; clear hK15 K15; refine HC_seq fun K17 hK17 => ?_; refine HC_block ?_; refine HC_seq fun K18 hK18 => ?_; refine HC_region ?_; refine HL_r rfl rfl rfl rfl (R_move rfl) ?_; refine HL_r rfl rfl rfl rfl (R_assign rfl) ?_; refine HL_nil ?_; refine HQ_then ?_; refine hK18 _ _ _ _ ?_; clear hK18 K18; refine HC_seq fun K19 hK19 => ?_
          have hi : i < 2 := by omega
          refine HC_region ?_; refine HL_r rfl rfl rfl rfl (R_move rfl) ?_; refine HL_r rfl rfl rfl rfl (R_move rfl) ?_; refine HL_callP rfl rfl rfl (enters_of Tryz.func47 (by kernel_rfl) rfl) (P_ofN hf hi) ?_; refine HL_r rfl rfl rfl rfl (R_move rfl) ?_; refine HL_r rfl rfl rfl rfl (R_extract rfl rfl) ?_; refine HL_r rfl rfl rfl rfl (R_extract rfl rfl) ?_; refine HL_r rfl rfl rfl rfl (R_assign rfl) ?_; refine HL_r rfl rfl rfl rfl (R_assign rfl) ?_; refine HL_nil ?_; refine HQ_then ?_; refine hK19 _ _ _ _ ?_; clear hK19 K19; refine HC_seq fun K20 hK20 => ?_
          refine HC_drawB [] [(1, .pure), (2, .pure), (4, .pure), (5, .pure), (6, .pure), (7, .grow (geNew ptrV (.cells #[.string ⟨#[]⟩, .int .u64 0, .int .u64 0, .int .u64 0, .int .u64 0, .int .u64 0, .string ⟨#[]⟩, .slice none 0 0] 55 (0, 0)))), (8, .turn), (9, .pure)] 10 [0, 1, 2, 3, 4, 5, 6, 7, 8, 9] (by kernel_rfl) (by kernel_rfl) (by first | exact (fun _ h => nomatch h) | simp [SubS] | (intro p hp; simp [hp])) ?_; refine HB_r (k := 0) rfl rfl rfl rfl rfl (R_loadA (vs := [_]) rfl (known_L (k := 1) rfl) rfl rfl rfl rfl) ?_; refine HB_p (k := 1) rfl rfl rfl rfl rfl (fun _ hS => (R_move rfl)) ?_; refine HB_callP (k := 2) rfl rfl rfl rfl rfl (enters_of Tryz.func23 (by kernel_rfl) rfl) (P_Addr i) ?_; refine HB_callR (k := 3) rfl rfl rfl rfl rfl (enters_of Tryz.func40 (by kernel_rfl) rfl) (S_Find hs (addrE i)) (fun q hq => Or.inr hq) ?_; refine HB_p (k := 4) rfl rfl rfl rfl rfl (fun _ hS => (R_move rfl)) ?_; refine HB_p (k := 5) rfl rfl rfl rfl rfl (fun _ hS => (R_extract rfl rfl)) ?_; refine HB_p (k := 6) rfl rfl rfl rfl rfl (fun _ hS => (R_extract rfl rfl)) ?_; refine HB_alloc (k := 7) (cs := #[_, _, _, _, _, _, _, _]) rfl rfl rfl rfl rfl rfl fun r2 => ?_; refine HB_storeArr (k := 8) (q := 0) (n := 8) (ys := (findL s (addrE i)).cells) rfl rfl rfl rfl rfl rfl rfl rfl rfl rfl rfl (fun _ h => nomatch h) ?_; refine HB_p (k := 9) rfl rfl rfl rfl rfl (fun _ hS => (R_assign rfl)) ?_; refine HB_end ?_; refine HL_nil ?_; refine HQ_then ?_; refine hK20 _ _ _ _ ?_; clear hK20 K20; refine HC_block ?_; refine HC_seq fun K21 hK21 => ?_; refine HC_region ?_; refine HL_r rfl rfl rfl rfl (R_move rfl) ?_; refine HL_r rfl rfl rfl rfl (R_move rfl) ?_
          refine HL_case 44 rfl (fun hb22 => ?_) (fun hb22 => ?_) <;> (try simp only [Z1, Z2, Z3, Z4, Z5, Z6, Z7, Z8, Z9, Z10, Z11, Z12, Z13] at hb22) <;> first | (refine HL_r rfl rfl rfl rfl (R_move rfl) ?_) | (refine HL_skip rfl rfl rfl ?_)
          all_goals first
            | (refine HL_r rfl rfl rfl rfl (R_pure rfl rfl rfl) ?_)
            | (refine HL_skip rfl rfl rfl ?_)
          all_goals first
            | (refine HL_r rfl rfl rfl rfl (R_pickT rfl rfl) ?_)
            | (refine HL_r rfl rfl rfl rfl (R_pickF rfl rfl) ?_)
          all_goals refine HL_r rfl rfl rfl rfl (R_assign rfl) ?_
          all_goals refine HL_nil ?_
          all_goals (
           refine HQ_then ?_; refine hK21 _ _ _ _ ?_; clear hK21 K21; refine HC_cond rfl (fun h24 => ?_) (fun h24 => ?_)
           · try exact Bool.noConfusion h24
             all_goals try simp only [Z1, Z2, Z3, Z4, Z5, Z6, Z7, Z8, Z9, Z10, Z11, Z12, Z13] at h24
             all_goals (
              refine HC_seq fun K25 hK25 => ?_
              have hlk : lackE f s.er i = true := by rw [lack_er]; simp_all
              refine HC_region ?_
              refine HL_store (k := 1) rfl rfl rfl rfl rfl rfl rfl rfl (by first | (simp only [List.setIfInBounds_toArray, List.set_cons_zero, List.set_cons_succ]; exact rfl) | exact rfl) (by first | (simp only [List.set_cons_zero, List.set_cons_succ]; exact rfl) | exact rfl) ?_; refine HL_nil ?_; refine HQ_then ?_; refine hK25 _ _ _ _ ?_; clear hK25 K25; refine HC_ret ?_; refine HQ_blockR ?_; refine HQ_blockR ?_; refine HQ_thenR ?_; clear hK17 K17; refine HQ_thenR ?_; refine HQ_blockR ?_; refine HQ_thenR ?_; clear hK12 K12
              (refine HQ_post rfl rfl (.cons (res_cell rfl (known_L (k := 1) rfl) rfl rfl) .nil) (fun w1 hs1 => ?_)
               rw [if_neg (by omega), if_pos (by have h01 : i = 0 ∨ i = 1 := by omega
                                                 rcases h01 with rfl | rfl
                                                 · exact Or.inl hlk
                                                 · exact Or.inr hlk)]
               exact ⟨rfl, hs1.keep⟩)
              skip)
           · try exact Bool.noConfusion h24
             try simp only [Z1, Z2, Z3, Z4, Z5, Z6, Z7, Z8, Z9, Z10, Z11, Z12, Z13] at h24
             refine HC_seq fun K26 hK26 => ?_; refine HC_region ?_; refine HL_r rfl rfl rfl rfl (R_move rfl) ?_; refine HL_r rfl rfl rfl rfl (R_move rfl) ?_
             refine HL_case 50 rfl (fun hb27 => ?_) (fun hb27 => ?_) <;> (try simp only [Z1, Z2, Z3, Z4, Z5, Z6, Z7, Z8, Z9, Z10, Z11, Z12, Z13] at hb27) <;> first | (refine HL_r rfl rfl rfl rfl (R_fieldAddr rfl rfl (by first | (simp only [Nat.zero_add, Nat.reduceAdd, Nat.reduceMul, Nat.zero_mul, Nat.mul_one, Nat.add_zero]; exact rfl) | exact rfl)) ?_) | (refine HL_skip rfl rfl rfl ?_)
             all_goals first
               | (refine HL_r rfl rfl rfl rfl (R_load rfl (known_L (k := 0) rfl) rfl rfl) ?_)
               | (refine HL_skip rfl rfl rfl ?_)
             all_goals first
               | (refine HL_r rfl rfl rfl rfl (R_move rfl) ?_)
               | (refine HL_skip rfl rfl rfl ?_)
             all_goals first
               | (refine HL_r rfl rfl rfl rfl (R_strNe rfl rfl) ?_)
               | (refine HL_skip rfl rfl rfl ?_)
             all_goals first
               | (refine HL_r rfl rfl rfl rfl (R_pickT rfl rfl) ?_)
               | (refine HL_r rfl rfl rfl rfl (R_pickF rfl rfl) ?_)
             all_goals refine HL_r rfl rfl rfl rfl (R_assign rfl) ?_
             all_goals refine HL_nil ?_
             all_goals (
              refine HQ_then ?_; refine hK26 _ _ _ _ ?_; clear hK26 K26; refine HC_cond rfl (fun h31 => ?_) (fun h31 => ?_)
              · try exact Bool.noConfusion h31
                all_goals try simp only [Z1, Z2, Z3, Z4, Z5, Z6, Z7, Z8, Z9, Z10, Z11, Z12, Z13] at h31
                all_goals (
                 refine HC_region ?_; refine HL_r rfl rfl rfl rfl (R_assign rfl) ?_; refine HL_nil ?_; refine HQ_blockN ?_; refine HQ_blockN ?_; refine HQ_then ?_; refine hK17 _ _ _ _ ?_; clear hK17 K17; refine HC_region ?_; refine HL_r rfl rfl rfl rfl (R_pure rfl rfl rfl) ?_; refine HL_wrap_i64 (by omega) (by omega) ?_; refine HL_r rfl rfl rfl rfl (R_move rfl) ?_; refine HL_nil ?_; refine HQ_then ?_
                 have hlk : lackE f s.er i = false := by rw [lack_er]; simp_all
                 have hnx : ∀ j, j < i + 1 → lackE f s.er (j : Nat) = false := fun j hj => by
                   rcases Nat.lt_succ_iff_lt_or_eq.1 hj with hj | rfl
                   · exact hinv j hj
                   · exact hlk
                 (have hw : wrongE f s.er i = true := by rw [wrong_er]; simp_all; done
                  exact HQ_again (i + 1) ⟨by omega, hnx⟩ (by omega) (.cons rfl (.cons rfl (.cons rfl (.cons (by show _ = some (Value.int .i64 (if wrongE f s.er i = true then 2 else wrU f s.er i)); rw [if_pos hw]; rfl) (.cons rfl .nil))))) (List.sublist_cons_self _ _) (fun _ _ h => h))
                 skip)
              · try exact Bool.noConfusion h31
                try simp only [Z1, Z2, Z3, Z4, Z5, Z6, Z7, Z8, Z9, Z10, Z11, Z12, Z13] at h31
                refine HC_skip ?_; refine HQ_blockN ?_; refine HQ_blockN ?_; refine HQ_then ?_; refine hK17 _ _ _ _ ?_; clear hK17 K17; refine HC_region ?_; refine HL_r rfl rfl rfl rfl (R_pure rfl rfl rfl) ?_; refine HL_wrap_i64 (by omega) (by omega) ?_; refine HL_r rfl rfl rfl rfl (R_move rfl) ?_; refine HL_nil ?_; refine HQ_then ?_
                have hlk : lackE f s.er i = false := by rw [lack_er]; simp_all
                have hnx : ∀ j, j < i + 1 → lackE f s.er (j : Nat) = false := fun j hj => by
                  rcases Nat.lt_succ_iff_lt_or_eq.1 hj with hj | rfl
                  · exact hinv j hj
                  · exact hlk
                (have hw : wrongE f s.er i = false := by rw [wrong_er]; simp_all; done
                 exact HQ_again (i + 1) ⟨by omega, hnx⟩ (by omega) (.cons rfl (.cons rfl (.cons rfl (.cons (by show _ = some (Value.int .i64 (if wrongE f s.er i = true then 2 else wrU f s.er i)); rw [if_neg (by rw [hw]; simp)]; rfl) (.cons rfl .nil))))) (List.sublist_cons_self _ _) (fun _ _ h => h))
              skip)
           skip)
        · try exact Bool.noConfusion h16
          try simp only [Z1, Z2, Z3, Z4, Z5, Z6, Z7, Z8, Z9, Z10, Z11, Z12, Z13] at h16
          refine HC_exit ?_; refine HQ_thenE ?_; clear hK15 K15; refine HQ_thenE ?_; refine HQ_blockE ?_; refine HQ_then ?_; refine hK12 _ _ _ _ ?_; clear hK12 K12; refine HC_seq fun K32 hK32 => ?_; refine HC_seq fun K33 hK33 => ?_
          obtain rfl : i = 2 := by omega
          have hnl : ¬ (lackE f s.er (0 : Nat) = true ∨ lackE f s.er (1 : Nat) = true) := fun h => h.elim (fun h => by rw [hinv 0 (by decide)] at h; cases h) (fun h => by rw [hinv 1 (by decide)] at h; cases h)
          refine HC_region ?_; refine HL_r rfl rfl rfl rfl (R_move rfl) ?_; refine HL_r rfl rfl rfl rfl (R_pure rfl rfl rfl) ?_; refine HL_nil ?_; refine HQ_then ?_; refine hK33 _ _ _ _ ?_; clear hK33 K33; refine HC_cond rfl (fun h34 => ?_) (fun h34 => ?_)
          · try exact Bool.noConfusion h34
            try simp only [Z1, Z2, Z3, Z4, Z5, Z6, Z7, Z8, Z9, Z10, Z11, Z12, Z13] at h34
            refine HC_seq fun K35 hK35 => ?_; refine HC_region ?_; refine HL_r rfl rfl rfl rfl (R_move rfl) ?_
            refine HL_store (k := 0) rfl rfl rfl rfl rfl rfl rfl rfl (by first | (simp only [List.setIfInBounds_toArray, List.set_cons_zero, List.set_cons_succ]; exact rfl) | exact rfl) (by first | (simp only [List.set_cons_zero, List.set_cons_succ]; exact rfl) | exact rfl) ?_; refine HL_nil ?_; refine HQ_then ?_; refine hK35 _ _ _ _ ?_; clear hK35 K35; refine HC_ret ?_; refine HQ_thenR ?_; clear hK32 K32
            first
              | (refine HQ_mark (k := 0) rfl rfl ?_
                 refine HQ_post rfl rfl (.cons (res_cell rfl (known_L (k := 1) rfl) rfl rfl) .nil) (fun w1 hs1 => ?_); rw [if_neg (by omega), if_neg hnl, if_neg (by omega)]
                 first
                   | (rw [if_pos htab]; exact ⟨rfl, hs1.keep⟩)
                   | (rw [if_neg (by rw [htab]; simp)]; exact ⟨rfl, hs1.keep⟩))
              | (refine HQ_post rfl rfl (.cons (res_cell rfl (known_L (k := 0) rfl) rfl rfl) .nil) (fun w1 hs1 => ?_)
                 first
                   | (rw [if_pos (by omega)]; exact ⟨rfl, hs1.keep⟩)
                   | (rw [if_neg (by omega), if_neg hnl, if_pos (by omega)]
                      have h2 : wrU f s.er 2 = 2 := by
                        have h3 : ¬ wrU f s.er 2 = 0 := by omega
                        unfold wrU wrU wrU at h3 ⊢
                        split at h3 <;> split <;> simp_all
                      rw [h2]; exact ⟨rfl, hs1.keep⟩)
                   | (exfalso; first | contradiction | (simp_all; done)))
              | (refine HQ_post rfl rfl (.cons (res_cell rfl (known_L (k := 1) rfl) rfl rfl) .nil) (fun w1 hs1 => ?_)
                 rw [if_neg (by omega), if_pos (by have h01 : i = 0 ∨ i = 1 := by omega
                                                   rcases h01 with rfl | rfl
                                                   · exact Or.inl hlk
                                                   · exact Or.inr hlk)]
                 exact ⟨rfl, hs1.keep⟩)
          · try exact Bool.noConfusion h34
            try simp only [Z1, Z2, Z3, Z4, Z5, Z6, Z7, Z8, Z9, Z10, Z11, Z12, Z13] at h34
            refine HC_skip ?_; refine HQ_then ?_; refine hK32 _ _ _ _ ?_; clear hK32 K32; refine HC_seq fun K36 hK36 => ?_
            refine HC_drawB [] [(1, .pure), (3, .pure), (4, .pure), (5, .pure), (6, .grow (geNew ptrV (.cells #[.string ⟨#[]⟩, .int .u64 0, .int .u64 0, .int .u64 0, .int .u64 0, .int .u64 0, .string ⟨#[]⟩, .slice none 0 0] 55 (0, 0)))), (7, .turn), (8, .pure)] 9 [0, 1, 2, 3, 4, 5, 6, 7, 8] (by kernel_rfl) (by kernel_rfl) (by first | exact (fun _ h => nomatch h) | simp [SubS] | (intro p hp; simp [hp])) ?_; refine HB_r (k := 0) rfl rfl rfl rfl rfl (R_loadA (vs := [_]) rfl (known_L (k := 1) rfl) rfl rfl rfl rfl) ?_; refine HB_callP (k := 1) rfl rfl rfl rfl rfl (enters_of Tryz.func23 (by kernel_rfl) rfl) (P_Addr 0) ?_; refine HB_callR (k := 2) rfl rfl rfl rfl rfl (enters_of Tryz.func40 (by kernel_rfl) rfl) (S_Find hs A0) (fun q hq => Or.inr hq) ?_; refine HB_p (k := 3) rfl rfl rfl rfl rfl (fun _ hS => (R_move rfl)) ?_; refine HB_p (k := 4) rfl rfl rfl rfl rfl (fun _ hS => (R_extract rfl rfl)) ?_; refine HB_p (k := 5) rfl rfl rfl rfl rfl (fun _ hS => (R_extract rfl rfl)) ?_; refine HB_alloc (k := 6) (cs := #[_, _, _, _, _, _, _, _]) rfl rfl rfl rfl rfl rfl fun r3 => ?_; refine HB_storeArr (k := 7) (q := 0) (n := 8) (ys := (findL s A0).cells) rfl rfl rfl rfl rfl rfl rfl rfl rfl rfl rfl (fun _ h => nomatch h) ?_; refine HB_p (k := 8) rfl rfl rfl rfl rfl (fun _ hS => (R_assign rfl)) ?_; refine HB_end ?_; refine HL_nil ?_; refine HQ_then ?_; refine hK36 _ _ _ _ ?_; clear hK36 K36; refine HC_seq fun K37 hK37 => ?_; refine HC_region ?_; refine HL_r rfl rfl rfl rfl (R_move rfl) ?_; refine HL_r rfl rfl rfl rfl (R_loadArr (xs := (findL s A0).cells) (n := 8) rfl (known_L (k := 0) rfl) rfl rfl rfl) ?_; refine HL_callR rfl rfl rfl (enters_of Tryz.func67 (by kernel_rfl) rfl) hrd (fun q hq => Or.inr hq) ?_; refine HL_alloc (cs := #[_, _, _, _, _, _, _, _, _, _, _, _, _, _, _, _, _]) rfl rfl rfl rfl fun r4 => ?_; refine HL_storeArr (k := 0) (n := 17) (ys := (readE f (findL s A0).er).cells) rfl rfl rfl rfl rfl rfl rfl rfl rfl ?_; refine HL_nil ?_; refine HQ_then ?_; refine hK37 _ _ _ _ ?_; clear hK37 K37; refine HC_seq fun K38 hK38 => ?_; refine HC_seq fun K39 hK39 => ?_; refine HC_region ?_; refine HL_r rfl rfl rfl rfl (R_move rfl) ?_; refine HL_callPE rfl rfl rfl (enters_of Tryz.func71 (by kernel_rfl) rfl) (E_rows f) fun b => ?_; refine HL_nil ?_; refine HQ_then ?_; refine hK39 _ _ _ _ ?_; clear hK39 K39; refine HC_block ?_; refine HC_sel [3, 0, 1, 2, 4] (L' := [_, _, _, _, _]) (by decide) rfl ?_; refine HC_rangeB (τ := Unit) (fun i (_ : Unit) => i ≤ 7 ∧ ∀ j, j < i → slotE (findL s A0).er (keyE (keyN j)) = (rowW f (readE f (findL s A0).er) j).2) (fun _ => [(r1, .cells #[.int .i64 0] 32 (0, 0))]) (fun j _ => j = .ret ∧ tableB f (findL s A0).er (readE f (findL s A0).er) tab = false) (fun _ => [(r1, .cells #[.int .i64 8] 32 (0, 0))]) [(b, .cells #[.int .i64 f] 3 (0, 0)), (r4, .cells (readE f (findL s A0).er).cells.toArray 29 (0, 0)), (r3, .cells (findL s A0).cells.toArray 55 (0, 0)), (rb, .cells s.cells.toArray 24 (0, 0))] () rfl rfl (enters_of Tryz.func101 (by kernel_rfl) rfl) (I_rows hf b) nxT_len rfl (fun q hq => .inl (by rw [List.mem_singleton.1 hq]; exact List.mem_cons_self)) rfl ⟨Nat.zero_le _, fun j hj => absurd hj (by omega)⟩ ?_ ?_ ?_
            · rintro q Xr Xb w3 i _ _ _ ⟨⟩ ⟨hi, rfl, p, rfl, rfl⟩ ⟨hi7, hrow⟩ Kr hKr
              refine HC_seq fun K40 hK40 => ?_; refine HC_region ?_; refine HL_alloc (cs := #[_, _, _, _, _]) rfl rfl rfl rfl fun r5 => ?_
              refine HL_storeA (k := 0) (n := 5) (cs' := #[_, _, _, _, _]) (vs := #[_, _, _, _, _]) rfl rfl rfl rfl rfl rfl rfl (by exact Nat.le_of_ble_eq_true rfl) rfl (by first | (simp only [List.set_cons_zero, List.set_cons_succ]; exact rfl) | exact rfl) ?_; refine HL_nil ?_; refine HQ_then ?_; refine hK40 _ _ _ _ ?_; clear hK40 K40; refine HC_region ?_; refine HL_r rfl rfl rfl rfl (R_assign rfl) ?_; refine HL_nil ?_; refine HQ_then ?_; refine hKr _ _ ?_; clear hKr; refine HC_block ?_; refine HC_seq fun K41 hK41 => ?_; refine HC_region ?_; refine HL_callP rfl rfl rfl (enters_of Tryz.func50 (by kernel_rfl) rfl) P_lnone ?_; refine HL_r rfl rfl rfl rfl (R_assign rfl) ?_; refine HL_nil ?_; refine HQ_then ?_; refine hK41 _ _ _ _ ?_; clear hK41 K41; refine HC_seq fun K42 hK42 => ?_; refine HC_seq fun K43 hK43 => ?_; refine HC_region ?_; refine HL_r rfl rfl rfl rfl (R_move rfl) ?_; refine HL_nil ?_; refine HQ_then ?_; refine hK43 _ _ _ _ ?_; clear hK43 K43; refine HC_cond rfl (fun h44 => ?_) (fun h44 => ?_)
              · try exact Bool.noConfusion h44
                try simp only [Z1, Z2, Z3, Z4, Z5, Z6, Z7, Z8, Z9, Z10, Z11, Z12, Z13] at h44
                refine HC_region ?_
                refine HL_r rfl rfl rfl rfl (R_fieldAddr rfl rfl (by first | (simp only [Nat.zero_add, Nat.reduceAdd, Nat.reduceMul, Nat.zero_mul, Nat.mul_one, Nat.add_zero]; exact rfl) | exact rfl)) ?_; refine HL_r rfl rfl rfl rfl (R_load rfl (known_L (k := 0) rfl) rfl rfl) ?_; refine HL_r rfl rfl rfl rfl (R_loadArr (xs := (readE f (findL s A0).er).cells) (n := 17) rfl (Or.inr (List.mem_append_left _ (List.mem_append_right _ (List.mem_cons_of_mem _ List.mem_cons_self)))) rfl rfl rfl) ?_; refine HL_callR rfl rfl rfl (enters_hold hi) (S_holdR hi (fun q hq => hq) (readE f (findL s A0).er)) (fun q hq => Or.inr (List.mem_append_left _ (List.mem_append_left _ hq))) ?_; refine HL_callP rfl rfl rfl (enters_of Tryz.func51 (by kernel_rfl) rfl) (P_word_Fixed (holds_ok (read_ok f _) i).wok) ?_; refine HL_as (congrArg strV (row_yes (by assumption))) ?_; refine HL_r rfl rfl rfl rfl (R_assign rfl) ?_; refine HL_nil ?_; refine HQ_then ?_; refine hK42 _ _ _ _ ?_; clear hK42 K42; refine HC_seq fun K45 hK45 => ?_; refine HC_draw 7 (by kernel_rfl) (by kernel_rfl) ?_; refine HD_r rfl rfl rfl (R_loadArr (xs := (findL s A0).cells) (n := 8) rfl (Or.inr (List.mem_append_left _ (List.mem_append_right _ (List.mem_cons_of_mem _ (List.mem_cons_of_mem _ List.mem_cons_self))))) rfl rfl rfl) ?_
                refine HD_r rfl rfl rfl (R_fieldAddr rfl rfl (by first | (simp only [Nat.zero_add, Nat.reduceAdd, Nat.reduceMul, Nat.zero_mul, Nat.mul_one, Nat.add_zero]; exact rfl) | exact rfl)) ?_; refine HD_r rfl rfl rfl (R_load rfl (known_L (k := 0) rfl) rfl rfl) ?_; refine HD_callP rfl rfl rfl (enters_of Tryz.func72 (by kernel_rfl) rfl) (P_lkey (keyN_u i)) ?_; refine HD_callR rfl rfl rfl (enters_of Tryz.func42 (by kernel_rfl) rfl) (S_Slot hA (keyE (keyN i))) (fun q hq => Or.inr (List.mem_append_right _ hq)) ?_; refine HD_r rfl rfl rfl (R_move rfl) ?_; refine HD_r rfl rfl rfl (R_strNe rfl rfl) ?_; refine HD_end ?_; refine HL_nil ?_; refine HQ_then ?_; refine hK45 _ _ _ _ ?_; clear hK45 K45; refine HC_cond rfl (fun h46 => ?_) (fun h46 => ?_)
                · try exact Bool.noConfusion h46
                  try simp only [Z1, Z2, Z3, Z4, Z5, Z6, Z7, Z8, Z9, Z10, Z11, Z12, Z13] at h46
                  refine HC_seq fun K47 hK47 => ?_; refine HC_region ?_
                  refine HL_store (k := 1) rfl rfl rfl rfl rfl rfl rfl rfl (by first | (simp only [List.setIfInBounds_toArray, List.set_cons_zero, List.set_cons_succ]; exact rfl) | exact rfl) (by first | (simp only [List.set_cons_zero, List.set_cons_succ]; exact rfl) | exact rfl) ?_; refine HL_nil ?_; refine HQ_then ?_; refine hK47 _ _ _ _ ?_; clear hK47 K47; refine HC_ret ?_; refine HQ_blockR ?_; refine HQ_sel [1] (L' := [_]) (by decide) rfl ?_
                  refine HQ_roundR () ⟨rfl, table_bad hi (by first | assumption | (rw [← row_no (by assumption)]; assumption))⟩ rfl
                · try exact Bool.noConfusion h46
                  try simp only [Z1, Z2, Z3, Z4, Z5, Z6, Z7, Z8, Z9, Z10, Z11, Z12, Z13] at h46
                  refine HC_skip ?_; refine HQ_blockN ?_; refine HQ_sel [1] (L' := [_]) (by decide) rfl ?_; refine HQ_round () ⟨by omega, fun j hj => ?_⟩ rfl
                  rcases Nat.lt_succ_iff_lt_or_eq.1 hj with hj | rfl
                  · exact hrow j hj
                  · first
                      | assumption
                      | (rw [← row_no (by assumption)]; assumption)
              · try exact Bool.noConfusion h44
                try simp only [Z1, Z2, Z3, Z4, Z5, Z6, Z7, Z8, Z9, Z10, Z11, Z12, Z13] at h44
                refine HC_skip ?_; refine HQ_then ?_; refine hK42 _ _ _ _ ?_; clear hK42 K42; refine HC_seq fun K48 hK48 => ?_; refine HC_draw 7 (by kernel_rfl) (by kernel_rfl) ?_; refine HD_r rfl rfl rfl (R_loadArr (xs := (findL s A0).cells) (n := 8) rfl (Or.inr (List.mem_append_left _ (List.mem_append_right _ (List.mem_cons_of_mem _ (List.mem_cons_of_mem _ List.mem_cons_self))))) rfl rfl rfl) ?_
                refine HD_r rfl rfl rfl (R_fieldAddr rfl rfl (by first | (simp only [Nat.zero_add, Nat.reduceAdd, Nat.reduceMul, Nat.zero_mul, Nat.mul_one, Nat.add_zero]; exact rfl) | exact rfl)) ?_; refine HD_r rfl rfl rfl (R_load rfl (known_L (k := 0) rfl) rfl rfl) ?_; refine HD_callP rfl rfl rfl (enters_of Tryz.func72 (by kernel_rfl) rfl) (P_lkey (keyN_u i)) ?_; refine HD_callR rfl rfl rfl (enters_of Tryz.func42 (by kernel_rfl) rfl) (S_Slot hA (keyE (keyN i))) (fun q hq => Or.inr (List.mem_append_right _ hq)) ?_; refine HD_r rfl rfl rfl (R_move rfl) ?_; refine HD_r rfl rfl rfl (R_strNe rfl rfl) ?_; refine HD_end ?_; refine HL_nil ?_; refine HQ_then ?_; refine hK48 _ _ _ _ ?_; clear hK48 K48; refine HC_cond rfl (fun h49 => ?_) (fun h49 => ?_)
                · try exact Bool.noConfusion h49
                  try simp only [Z1, Z2, Z3, Z4, Z5, Z6, Z7, Z8, Z9, Z10, Z11, Z12, Z13] at h49
                  refine HC_seq fun K50 hK50 => ?_; refine HC_region ?_
                  refine HL_store (k := 1) rfl rfl rfl rfl rfl rfl rfl rfl (by first | (simp only [List.setIfInBounds_toArray, List.set_cons_zero, List.set_cons_succ]; exact rfl) | exact rfl) (by first | (simp only [List.set_cons_zero, List.set_cons_succ]; exact rfl) | exact rfl) ?_; refine HL_nil ?_; refine HQ_then ?_; refine hK50 _ _ _ _ ?_; clear hK50 K50; refine HC_ret ?_; refine HQ_blockR ?_; refine HQ_sel [1] (L' := [_]) (by decide) rfl ?_
                  refine HQ_roundR () ⟨rfl, table_bad hi (by first | assumption | (rw [← row_no (by assumption)]; assumption))⟩ rfl
                · try exact Bool.noConfusion h49
                  try simp only [Z1, Z2, Z3, Z4, Z5, Z6, Z7, Z8, Z9, Z10, Z11, Z12, Z13] at h49
                  refine HC_skip ?_; refine HQ_blockN ?_; refine HQ_sel [1] (L' := [_]) (by decide) rfl ?_; refine HQ_round () ⟨by omega, fun j hj => ?_⟩ rfl
                  rcases Nat.lt_succ_iff_lt_or_eq.1 hj with hj | rfl
                  · exact hrow j hj
                  · first
                      | assumption
                      | (rw [← row_no (by assumption)]; assumption)
            · rintro D i ⟨⟩ hfi ⟨-, hrow⟩
              obtain rfl : i = 7 := hfi
              have htab : tableB f (findL s A0).er (readE f (findL s A0).er) tab = true := table_iff.2 fun j hj => hrow j (tab_lt hj)
              refine HQ_blockN ?_; refine HQ_then ?_; refine hK38 _ _ _ _ ?_; clear hK38 K38; refine HC_seq fun K51 hK51 => ?_; refine HC_region ?_
              refine HL_store (k := 1) rfl rfl rfl rfl rfl rfl rfl rfl (by first | (simp only [List.setIfInBounds_toArray, List.set_cons_zero, List.set_cons_succ]; exact rfl) | exact rfl) (by first | (simp only [List.set_cons_zero, List.set_cons_succ]; exact rfl) | exact rfl) ?_; refine HL_nil ?_; refine HQ_then ?_; refine hK51 _ _ _ _ ?_; clear hK51 K51; refine HC_ret ?_
              first
                | (refine HQ_mark (k := 0) rfl rfl ?_
                   refine HQ_post rfl rfl (.cons (res_cell rfl (known_L (k := 1) rfl) rfl rfl) .nil) (fun w1 hs1 => ?_); rw [if_neg (by omega), if_neg hnl, if_neg (by omega)]
                   first
                     | (rw [if_pos htab]; exact ⟨rfl, hs1.keep⟩)
                     | (rw [if_neg (by rw [htab]; simp)]; exact ⟨rfl, hs1.keep⟩))
                | (refine HQ_post rfl rfl (.cons (res_cell rfl (known_L (k := 0) rfl) rfl rfl) .nil) (fun w1 hs1 => ?_)
                   first
                     | (rw [if_pos (by omega)]; exact ⟨rfl, hs1.keep⟩)
                     | (rw [if_neg (by omega), if_neg hnl, if_pos (by omega)]
                        have h2 : wrU f s.er 2 = 2 := by
                          have h3 : ¬ wrU f s.er 2 = 0 := by omega
                          unfold wrU wrU wrU at h3 ⊢
                          split at h3 <;> split <;> simp_all
                        rw [h2]; exact ⟨rfl, hs1.keep⟩)
                     | (exfalso; first | contradiction | (simp_all; done)))
                | (refine HQ_post rfl rfl (.cons (res_cell rfl (known_L (k := 1) rfl) rfl rfl) .nil) (fun w1 hs1 => ?_)
                   rw [if_neg (by omega), if_pos (by have h01 : i = 0 ∨ i = 1 := by omega
                                                     rcases h01 with rfl | rfl
                                                     · exact Or.inl hlk
                                                     · exact Or.inr hlk)]
                   exact ⟨rfl, hs1.keep⟩)
            · rintro D j ⟨⟩ ⟨rfl, htab⟩
              refine HC_ret ?_; refine HQ_blockR ?_; refine HQ_thenR ?_; clear hK38 K38
              (refine HQ_mark (k := 0) rfl rfl ?_
               refine HQ_post rfl rfl (.cons (res_cell rfl (known_L (k := 1) rfl) rfl rfl) .nil) (fun w1 hs1 => ?_); rw [if_neg (by omega), if_neg hnl, if_neg (by omega)]
               first
                 | (rw [if_pos htab]; exact ⟨rfl, hs1.keep⟩)
                 | (rw [if_neg (by rw [htab]; simp)]; exact ⟨rfl, hs1.keep⟩))
  · have e : checkE f s.er = 10 := by unfold checkE; rw [if_pos hf]
    rw [e]; refine pureR_of_HC Tryz.func29 rfl rfl fun w => ?_; refine HC_seq fun K1 hK1 => ?_; refine HC_region ?_; refine HL_box (cs := #[_]) rfl rfl rfl rfl fun r1 => ?_; refine HL_alloc (cs := #[_]) rfl rfl rfl rfl fun r2 => ?_; refine HL_nil ?_; refine HQ_then ?_; refine hK1 _ _ _ _ ?_; clear hK1 K1; refine HC_seq fun K2 hK2 => ?_; refine HC_seq fun K3 hK3 => ?_; refine HC_region ?_; refine HL_r rfl rfl rfl rfl (R_move rfl) ?_; refine HL_callP rfl rfl rfl (enters_of Tryz.func58 (by kernel_rfl) rfl) (P_forked f) ?_; refine HL_r rfl rfl rfl rfl (R_pure rfl rfl rfl) ?_; refine HL_as (show _ = Value.bool true from by rw [decide_eq_false hf]; rfl) ?_; refine HL_nil ?_; refine HQ_then ?_; refine hK3 _ _ _ _ ?_; clear hK3 K3; refine HC_cond rfl (fun h4 => ?_) (fun h4 => ?_)
    · try exact Bool.noConfusion h4
      try simp only [Z1, Z2, Z3, Z4, Z5, Z6, Z7, Z8, Z9, Z10, Z11, Z12, Z13] at h4
      refine HC_seq fun K5 hK5 => ?_; refine HC_region ?_
      refine HL_store (k := 0) rfl rfl rfl rfl rfl rfl rfl rfl (by first | (simp only [List.setIfInBounds_toArray, List.set_cons_zero, List.set_cons_succ]; exact rfl) | exact rfl) (by first | (simp only [List.set_cons_zero, List.set_cons_succ]; exact rfl) | exact rfl) ?_; refine HL_nil ?_; refine HQ_then ?_; refine hK5 _ _ _ _ ?_; clear hK5 K5; refine HC_ret ?_; refine HQ_thenR ?_; clear hK2 K2; refine HQ_post rfl rfl (.cons (res_cell rfl (known_L (k := 0) rfl) rfl rfl) .nil) (fun w1 hs1 => ?_); exact ⟨rfl, hs1.keep⟩
    · try exact Bool.noConfusion h4
end Go.Proofs.YtnkmbkndpoghdaaGreat
/-! ### Results that grow from round to round -/
namespace Go.SL
set_option linter.all false
open Go Go.RowKit Go.Shelf
open Go.Proofs (Enters enters_of)
theorem HC_perm {c : Cx} {d : List Deferred} {l : List (Nat × Value)} {L L' : List (Nat × Obj)} {X : XP} {code : Code} {Q : Exit → Act → World → Prop} (hp : L.Perm L') (h : HC c d l L' X code Q) : HC c d l L X code Q := fun a w hf hs => h a w hf (hs.perm hp)
theorem perm_mid {α : Type} (A B C : List α) : (A ++ (B ++ C)).Perm (B ++ (A ++ C)) := by
  rw [← List.append_assoc, ← List.append_assoc]
  exact List.perm_append_comm.append_right C
theorem acRes_ne {R : List (Nat × Obj)} {a : AcL} (ha : a.In R) (k v : BS) : Nonempty (AcRes R (setE a.er k v)) := by
  by_cases h : (setE a.er k v).2 = 0
  · obtain ⟨h1, h2, h3, h4, h5⟩ := set_ok h
    rw [h5]
    have hw : (withE a.slots k v).length ≤ 16 := h4
    exact ⟨⟨⟨a.addr, a.nonce, a.bal, a.code, withE a.slots k v, some (⟨0, 0, none⟩, (withE a.slots k v).length)⟩, 0, [(0, .cells (slsC (withE a.slots k v)).toArray 0 (0, 0))], ac_in_with ha h2 h3 (by omega) ⟨Nat.le_refl _, fun _ => ⟨rfl, _, 0, (0, 0), List.mem_cons_self, by simp⟩⟩, rfl⟩⟩
  · have e : (setE a.er k v) = (a.er, (setE a.er k v).2) := by
      unfold setE at h ⊢
      split
      · rfl
      · rename_i h1
        rw [if_neg h1] at h
        split
        · rfl
        · rename_i h2
          rw [if_neg h2] at h
          split
          · rfl
          · rename_i h3
            rw [if_neg h3] at h
            exact absurd rfl h
    exact ⟨⟨a, (setE a.er k v).2, [], ha, e.symm⟩⟩
/-- An account and the blocks that it may lie in. -/
structure AcSt (R : List (Nat × Obj)) : Type where
  a : AcL
  L : List (Nat × Obj)
  ok : a.In (L ++ R)
structure StSt (R : List (Nat × Obj)) : Type where
  s : StL
  L : List (Nat × Obj)
  ok : s.In (L ++ R)
def AcSt.next {R : List (Nat × Obj)} (s : AcSt R) {e : AcE × Int} (x : AcRes (s.L ++ R) e) : AcSt R := ⟨x.a, x.L ++ s.L, by rw [List.append_assoc]; exact x.ok⟩
def StSt.next {R : List (Nat × Obj)} (s : StSt R) {L' : List (Nat × Obj)} {e : List AcE × Int} (x : StRes (L' ++ (s.L ++ R)) e) : StSt R := ⟨x.s, x.L ++ (L' ++ s.L), by rw [List.append_assoc, List.append_assoc]; exact x.ok⟩
theorem setRows_cons (a : AcE) (x : BS × BS) (l : List (BS × BS)) : setRows a (x :: l) = if (setE a x.1 x.2).2 ≠ 0 then setE a x.1 x.2 else setRows (setE a x.1 x.2).1 l := rfl
theorem map_drop {α : Type} (f : Nat → α) {i : Nat} (h : i < 7) : (tab.map f).drop i = f i :: (tab.map f).drop (i + 1) := by
  have : i = 0 ∨ i = 1 ∨ i = 2 ∨ i = 3 ∨ i = 4 ∨ i = 5 ∨ i = 6 := by omega
  rcases this with rfl | rfl | rfl | rfl | rfl | rfl | rfl <;> rfl
theorem set_same {a : AcE} {k v : BS} (h : (setE a k v).2 ≠ 0) : setE a k v = (a, (setE a k v).2) := by
  unfold setE at h ⊢
  split
  · rfl
  · rename_i h1
    rw [if_neg h1] at h
    split
    · rfl
    · rename_i h2
      rw [if_neg h2] at h
      split
      · rfl
      · rename_i h3
        rw [if_neg h3] at h
        exact absurd rfl h
theorem change_drop {i : Nat} (hi : i < 2) : ([0, 1] : List Int).drop i = (i : Int) :: ([0, 1] : List Int).drop (i + 1) := by
  have : i = 0 ∨ i = 1 := by omega
  rcases this with rfl | rfl <;> rfl
theorem changeL_cons (f : Int) (s0 : List AcE) (go : Int → AcE → AcE × Int) (w : Int) (ws : List Int) (t : List AcE) : changeL f s0 go (w :: ws) t = if (codeE f w).2 = false then changeL f s0 go ws t else
      if (go w (oldE t w)).2 ≠ 0 then (s0, (go w (oldE t w)).2) else if (putS t (go w (oldE t w)).1).2 ≠ 0 then (s0, (putS t (go w (oldE t w)).1).2) else changeL f s0 go ws (putS t (go w (oldE t w)).1).1 := rfl
theorem old_er (s : StL) (w : Int) : AcL.er { findL s (addrE w) with addr := addrE w } = oldE s.er w := by
  unfold oldE
  rw [← find_er]
  rfl
theorem addr_len (w : Int) : (addrE w).length ≤ 512 := by
  unfold addrE
  split
  · decide
  · simp
end Go.SL
namespace Go.Proofs.YtnkmbkndpoghdaaGreat
set_option linter.all false
open Go.SL Go.RowKit Go.Shelf
set_option maxRecDepth 10000 in
theorem S_val {R : List (Nat × Obj)} {p : Nat → Nat} {i rr e : Nat} {f : Int} (hi : i < 7) {r : Rec} (hr : r.ok) (hR : (rr, Obj.cells r.cells.toArray e (0, 0)) ∈ R) : PureR Tryz.prog 49 (.agg (rowC p i).toArray :: .bool (hasE f i) :: [ptV rr 0]).toArray (strV (rowW f r i).2) (rowB p i ++ R) := by
  refine pureR_of_HC Tryz.func49 rfl rfl fun w => ?_; refine HC_seq fun K1 hK1 => ?_; refine HC_region ?_; refine HL_box (cs := (rowC p i).toArray) rfl rfl rfl rfl fun rb => ?_; refine HL_r rfl rfl rfl rfl (R_assign rfl) ?_; refine HL_nil ?_; refine HQ_then ?_; refine hK1 _ _ _ _ ?_; clear hK1 K1; refine HC_seq fun K2 hK2 => ?_; refine HC_seq fun K3 hK3 => ?_; refine HC_region ?_; refine HL_r rfl rfl rfl rfl (R_move rfl) ?_; refine HL_r rfl rfl rfl rfl (R_pure rfl rfl rfl) ?_; refine HL_nil ?_; refine HQ_then ?_; refine hK3 _ _ _ _ ?_; clear hK3 K3; refine HC_cond rfl (fun h4 => ?_) (fun h4 => ?_)
  · try exact Bool.noConfusion h4
    try simp only [Z1, Z2, Z3, Z4, Z5, Z6, Z7, Z8, Z9, Z10, Z11, Z12, Z13] at h4
    refine HC_seq fun K5 hK5 => ?_; refine HC_region ?_; refine HL_callP rfl rfl rfl (enters_of Tryz.func50 (by kernel_rfl) rfl) P_lnone ?_; refine HL_r rfl rfl rfl rfl (R_assign rfl) ?_; refine HL_nil ?_; refine HQ_then ?_; refine hK5 _ _ _ _ ?_; clear hK5 K5; refine HC_ret ?_; refine HQ_thenR ?_; clear hK2 K2; refine HQ_post rfl rfl (.cons (res_tmp rfl) .nil) (fun w1 hs1 => ?_); refine ⟨?_, hs1.keep⟩; rw [← row_no (by assumption)]; rfl
  · try exact Bool.noConfusion h4
    try simp only [Z1, Z2, Z3, Z4, Z5, Z6, Z7, Z8, Z9, Z10, Z11, Z12, Z13] at h4
    refine HC_skip ?_; refine HQ_then ?_; refine hK2 _ _ _ _ ?_; clear hK2 K2; refine HC_seq fun K6 hK6 => ?_; refine HC_region ?_
    refine HL_r rfl rfl rfl rfl (R_fieldAddr rfl rfl (by first | (simp only [Nat.zero_add, Nat.reduceAdd, Nat.reduceMul, Nat.zero_mul, Nat.mul_one, Nat.add_zero]; exact rfl) | exact rfl)) ?_; refine HL_r rfl rfl rfl rfl (R_load rfl (known_L (k := 0) rfl) rfl rfl) ?_; refine HL_r rfl rfl rfl rfl (R_loadArr (xs := r.cells) (n := 17) rfl (Or.inr (List.mem_append_right _ hR)) rfl rfl rfl) ?_; refine HL_callR rfl rfl rfl (enters_hold hi) (S_holdR hi (fun q hq => hq) r) (fun q hq => Or.inr (List.mem_append_left _ hq)) ?_; refine HL_callP rfl rfl rfl (enters_of Tryz.func51 (by kernel_rfl) rfl) (P_word_Fixed (holds_ok hr i).wok) ?_; refine HL_r rfl rfl rfl rfl (R_assign rfl) ?_; refine HL_nil ?_; refine HQ_then ?_; refine hK6 _ _ _ _ ?_; clear hK6 K6; refine HC_ret ?_; refine HQ_post rfl rfl (.cons (res_tmp rfl) .nil) (fun w1 hs1 => ?_); refine ⟨?_, hs1.keep⟩; rw [← row_yes (by assumption)]; rfl
set_option maxRecDepth 10000 in
theorem S_lset {R : List (Nat × Obj)} {a : AcL} (ha : a.In R) {f : Int} (hf : Forked f) {gv : FuncId} {capsV : List Value} {vals : Nat → BS} (egv : Enters Tryz.prog gv) (hgv : ∀ i, i < 7 → ∀ p, PureR Tryz.prog gv (.agg (rowC p i).toArray :: .bool (hasE f i) :: capsV).toArray (strV (vals i)) (rowB p i ++ R)) :
    PureT (α := AcRes R (setRows a.er (tab.map fun i => (keyE (keyN i), vals i)))) Tryz.prog 48 [.int .i64 f, a.val, .func (.func gv) #[] capsV.toArray].toArray (fun x => x.val) [] (fun x => x.L) R := by
  obtain ⟨rows, hrows⟩ : ∃ rows, rows = tab.map fun i => (keyE (keyN i), vals i) := ⟨_, rfl⟩
  have hdr : ∀ i, i < 7 → rows.drop i = (keyE (keyN i), vals i) :: rows.drop (i + 1) := fun i hi => by rw [hrows]; exact map_drop _ hi
  have hd7 : rows.drop 7 = [] := by rw [hrows]; rfl
  rw [← hrows]; clear hrows; refine pureT_of_HC Tryz.func48 rfl rfl fun w => ?_; refine HC_seq fun K1 hK1 => ?_; refine HC_region ?_; refine HL_box (cs := a.cells.toArray) rfl rfl rfl rfl fun rb => ?_; refine HL_box (cs := #[_]) rfl rfl rfl rfl fun rv => ?_; refine HL_alloc (cs := #[_, _, _, _, _, _, _, _]) rfl rfl rfl rfl fun r1 => ?_; refine HL_alloc (cs := #[_]) rfl rfl rfl rfl fun r2 => ?_; refine HL_nil ?_; refine HQ_then ?_; refine hK1 _ _ _ _ ?_; clear hK1 K1; refine HC_seq fun K2 hK2 => ?_; refine HC_seq fun K3 hK3 => ?_; refine HC_region ?_; refine HL_r rfl rfl rfl rfl (R_move rfl) ?_; refine HL_callPE rfl rfl rfl (enters_of Tryz.func71 (by kernel_rfl) rfl) (E_rows f) fun b => ?_; refine HL_nil ?_; refine HQ_then ?_; refine hK3 _ _ _ _ ?_; clear hK3 K3; refine HC_block ?_; refine HC_sel [4, 2, 1, 0, 3] (L' := [_, _, _, _, _]) (by decide) rfl ?_; refine HC_rangeB (τ := AcSt R × Int) (fun i (s : AcSt R) => i ≤ 7 ∧ setRows a.er rows = setRows s.a.er (rows.drop i)) (fun s => (rb, .cells s.a.cells.toArray 55 (0, 0)) :: (r1, .cells ac0L.cells.toArray 55 (0, 0)) :: (r2, .cells #[.int .i64 0] 32 (0, 0)) :: s.L) (fun j s => j = .ret ∧ setRows a.er rows = (s.1.a.er, s.2)) (fun s => (rb, .cells s.1.a.cells.toArray 55 (0, 0)) :: (r1, .cells s.1.a.cells.toArray 55 (0, 0)) :: (r2, .cells #[.int .i64 s.2] 32 (0, 0)) :: s.1.L) [(b, .cells #[.int .i64 f] 3 (0, 0)), (rv, _)] ⟨a, [], ha⟩ rfl rfl (enters_of Tryz.func101 (by kernel_rfl) rfl) (I_rows hf b) nxT_len rfl (fun q hq => .inl (by rw [List.mem_singleton.1 hq]; exact List.mem_cons_self)) rfl ⟨Nat.zero_le _, rfl⟩ ?_ ?_ ?_
  · rintro q Xr Xb w3 i _ _ _ s ⟨hi, rfl, p, rfl, rfl⟩ ⟨hi7, hinv⟩ Kr hKr
    rw [hdr i hi, setRows_cons] at hinv; refine HC_seq fun K4 hK4 => ?_; refine HC_region ?_; refine HL_alloc (cs := #[_, _, _, _, _]) rfl rfl rfl rfl fun r3 => ?_
    refine HL_storeA (k := 0) (n := 5) (cs' := #[_, _, _, _, _]) (vs := #[_, _, _, _, _]) rfl rfl rfl rfl rfl rfl rfl (by exact Nat.le_of_ble_eq_true rfl) rfl (by first | (simp only [List.set_cons_zero, List.set_cons_succ]; exact rfl) | exact rfl) ?_; refine HL_nil ?_; refine HQ_then ?_; refine hK4 _ _ _ _ ?_; clear hK4 K4; refine HC_region ?_; refine HL_r rfl rfl rfl rfl (R_assign rfl) ?_; refine HL_nil ?_; refine HQ_then ?_; refine hKr _ _ ?_; clear hKr; refine HC_block ?_; refine HC_seq fun K5 hK5 => ?_; refine HC_drawB s.L [(1, .pure), (3, .pure), (6, .pure), (8, .grow (geCall (Classical.choice (acRes_ne s.ok (keyE (keyN i)) (vals i))) AcRes.val AcRes.L)), (9, .pure), (10, .pure), (11, .pure), (12, .grow (geNew ptrV (.cells #[.string ⟨#[]⟩, .int .u64 0, .int .u64 0, .int .u64 0, .int .u64 0, .int .u64 0, .string ⟨#[]⟩, .slice none 0 0] 55 (0, 0)))), (13, .turn), (14, .pure)] 15 [0, 1, 2, 3, 4, 5, 6, 7, 8, 9, 10, 11, 12, 13, 14] (by kernel_rfl) (by kernel_rfl) (fun p hp => List.mem_cons_of_mem _ (List.mem_cons_of_mem _ (List.mem_cons_of_mem _ (List.mem_cons_of_mem _ hp)))) ?_; refine HB_r (k := 0) rfl rfl rfl rfl rfl (R_loadArr (xs := s.a.cells) (n := 8) rfl (known_L (k := 1) rfl) rfl rfl rfl) ?_
    refine HB_p (k := 1) rfl rfl rfl rfl rfl (fun _ hS => (R_fieldAddr rfl rfl (by first | (simp only [Nat.zero_add, Nat.reduceAdd, Nat.reduceMul, Nat.zero_mul, Nat.mul_one, Nat.add_zero]; exact rfl) | exact rfl))) ?_; refine HB_r (k := 2) rfl rfl rfl rfl rfl (R_load rfl (known_L (k := 0) rfl) rfl rfl) ?_; refine HB_callP (k := 3) rfl rfl rfl rfl rfl (enters_of Tryz.func72 (by kernel_rfl) rfl) (P_lkey (keyN_u i)) ?_; refine HB_r (k := 4) rfl rfl rfl rfl rfl (R_load rfl (Or.inr (List.mem_append_left _ (List.mem_append_right _ (List.mem_cons_of_mem _ List.mem_cons_self)))) rfl rfl) ?_; refine HB_r (k := 5) rfl rfl rfl rfl rfl (R_loadArr (xs := rowC p i) (n := 5) rfl (known_L (k := 0) rfl) rfl rfl rfl) ?_; refine HB_p (k := 6) rfl rfl rfl rfl rfl (fun _ hS => (R_move rfl)) ?_; refine HB_callR (k := 7) rfl rfl rfl rfl rfl egv (hgv i hi p) (fun q hq => (List.mem_append.1 hq).elim (fun h => Or.inr (List.mem_append_left _ (List.mem_append_left _ h))) (fun h => Or.inr (List.mem_append_right _ h))) ?_; refine HB_callRE (k := 8) rfl rfl rfl rfl rfl (enters_of Tryz.func93 (by kernel_rfl) rfl) (S_Set s.ok (keyE (keyN i)) (vals i)) (fun q hq => (List.mem_append.1 hq).imp id (fun h => List.mem_append_right _ h)) fun x => ?_; refine HB_p (k := 9) rfl rfl rfl rfl rfl (fun _ hS => (R_move rfl)) ?_; refine HB_p (k := 10) rfl rfl rfl rfl rfl (fun _ hS => (R_extract rfl rfl)) ?_; refine HB_p (k := 11) rfl rfl rfl rfl rfl (fun _ hS => (R_extract rfl rfl)) ?_; refine HB_alloc (k := 12) (cs := #[_, _, _, _, _, _, _, _]) rfl rfl rfl rfl rfl rfl fun r4 => ?_; refine HB_storeArr (k := 13) (q := 0) (n := 8) (ys := x.a.cells) rfl rfl rfl rfl rfl rfl rfl rfl rfl rfl rfl (fun p hp => List.mem_cons_of_mem _ (List.mem_append_right _ (List.mem_cons_of_mem _ (List.mem_cons_of_mem _ (List.mem_cons_of_mem _ (List.mem_cons_of_mem _ hp)))))) ?_; refine HB_p (k := 14) rfl rfl rfl rfl rfl (fun _ hS => (R_assign rfl)) ?_; refine HB_end ?_; refine HL_nil ?_; refine HQ_then ?_; refine hK5 _ _ _ _ ?_; clear hK5 K5; refine HC_seq fun K6 hK6 => ?_; refine HC_seq fun K7 hK7 => ?_; refine HC_perm (L' := (r4, .cells x.a.cells.toArray 55 (0, 0)) :: (r3, .cells (rowC p i).toArray 72 (0, 0)) :: (rb, .cells s.a.cells.toArray 55 (0, 0)) :: (r1, .cells ac0L.cells.toArray 55 (0, 0)) :: (r2, .cells #[.int .i64 0] 32 (0, 0)) :: (x.L ++ s.L)) (List.Perm.cons _ (perm_mid x.L [_, _, _, _] s.L)) ?_
    have hx := x.eq
    have hxe : (setE s.a.er (keyE (keyN i)) (vals i)).2 = x.err := (congrArg Prod.snd hx).symm
    have hxa : (setE s.a.er (keyE (keyN i)) (vals i)).1 = x.a.er := (congrArg Prod.fst hx).symm
    refine HC_region ?_; refine HL_r rfl rfl rfl rfl (R_move rfl) ?_; refine HL_r rfl rfl rfl rfl (R_pure rfl rfl rfl) ?_; refine HL_nil ?_; refine HQ_then ?_; refine hK7 _ _ _ _ ?_; clear hK7 K7; refine HC_cond rfl (fun h8 => ?_) (fun h8 => ?_)
    · try exact Bool.noConfusion h8
      try simp only [Z1, Z2, Z3, Z4, Z5, Z6, Z7, Z8, Z9, Z10, Z11, Z12, Z13] at h8
      refine HC_seq fun K9 hK9 => ?_; refine HC_region ?_; refine HL_r rfl rfl rfl rfl (R_loadArr (xs := s.a.cells) (n := 8) rfl (known_L (k := 2) rfl) rfl rfl rfl) ?_; refine HL_r rfl rfl rfl rfl (R_move rfl) ?_; refine HL_storeArr (k := 3) (n := 8) (ys := s.a.cells) rfl rfl rfl rfl rfl rfl rfl rfl rfl ?_
      refine HL_store (k := 4) rfl rfl rfl rfl rfl rfl rfl rfl (by first | (simp only [List.setIfInBounds_toArray, List.set_cons_zero, List.set_cons_succ]; exact rfl) | exact rfl) (by first | (simp only [List.set_cons_zero, List.set_cons_succ]; exact rfl) | exact rfl) ?_; refine HL_nil ?_; refine HQ_then ?_; refine hK9 _ _ _ _ ?_; clear hK9 K9; refine HC_ret ?_; refine HQ_thenR ?_; clear hK6 K6; refine HQ_blockR ?_; refine HQ_weak (L' := (rb, .cells s.a.cells.toArray 55 (0, 0)) :: (r1, .cells s.a.cells.toArray 55 (0, 0)) :: (r2, .cells #[.int .i64 x.err] 32 (0, 0)) :: s.L) (fun _ _ h => h) (.cons _ (.cons _ (.cons_cons _ (.cons_cons _ (.cons_cons _ (List.sublist_append_right _ _)))))) ?_; exact HQ_roundR (s, x.err) ⟨rfl, by rw [hinv, if_pos (by rw [hxe]; assumption)]; exact (set_same (by rw [hxe]; assumption)).trans (congrArg (Prod.mk s.a.er) hxe)⟩ rfl
    · try exact Bool.noConfusion h8
      try simp only [Z1, Z2, Z3, Z4, Z5, Z6, Z7, Z8, Z9, Z10, Z11, Z12, Z13] at h8
      refine HC_skip ?_; refine HQ_then ?_; refine hK6 _ _ _ _ ?_; clear hK6 K6; refine HC_region ?_; refine HL_r rfl rfl rfl rfl (R_loadArr (xs := x.a.cells) (n := 8) rfl (known_L (k := 0) rfl) rfl rfl rfl) ?_; refine HL_storeArr (k := 2) (n := 8) (ys := x.a.cells) rfl rfl rfl rfl rfl rfl rfl rfl rfl ?_; refine HL_nil ?_; refine HQ_blockN ?_; refine HQ_weak (L' := (rb, .cells x.a.cells.toArray 55 (0, 0)) :: (r1, .cells ac0L.cells.toArray 55 (0, 0)) :: (r2, .cells #[.int .i64 0] 32 (0, 0)) :: (x.L ++ s.L)) (fun _ _ h => h) (.cons _ (.cons _ (List.Sublist.refl _))) ?_; exact HQ_round (s.next x) ⟨by omega, by rw [hinv, if_neg (by rw [hxe]; simpa using ‹x.err = 0›), hxa]; rfl⟩ rfl
  · rintro D i s hfi ⟨-, hinv⟩
    obtain rfl : i = 7 := hfi
    rw [hd7] at hinv; refine HQ_blockN ?_; refine HQ_then ?_; refine hK2 _ _ _ _ ?_; clear hK2 K2; refine HC_seq fun K10 hK10 => ?_; refine HC_region ?_; refine HL_r rfl rfl rfl rfl (R_loadArr (xs := s.a.cells) (n := 8) rfl (known_L (k := 1) rfl) rfl rfl rfl) ?_; refine HL_storeArr (k := 2) (n := 8) (ys := s.a.cells) rfl rfl rfl rfl rfl rfl rfl rfl rfl ?_
    refine HL_store (k := 3) rfl rfl rfl rfl rfl rfl rfl rfl (by first | (simp only [List.setIfInBounds_toArray, List.set_cons_zero, List.set_cons_succ]; exact rfl) | exact rfl) (by first | (simp only [List.set_cons_zero, List.set_cons_succ]; exact rfl) | exact rfl) ?_; refine HL_nil ?_; refine HQ_then ?_; refine hK10 _ _ _ _ ?_; clear hK10 K10; refine HC_ret ?_; refine HQ_mark (k := 0) rfl rfl ?_
    (refine HQ_post rfl rfl (.cons (res_cellA (vs := s.a.cells) rfl (known_L (k := 2) rfl) rfl rfl) (.cons (res_cell rfl (known_L (k := 3) rfl) rfl rfl) .nil)) (fun w1 hs1 => ?_)
     exact ⟨⟨s.a, 0, s.L, s.ok, by rw [hinv]; rfl⟩, rfl, hs1.weakL (.cons _ (.cons _ (.cons _ (.cons _ (List.sublist_append_left _ _)))))⟩)
  · rintro D j s ⟨rfl, hst⟩
    refine HC_ret ?_; refine HQ_blockR ?_; refine HQ_thenR ?_; clear hK2 K2; refine HQ_mark (k := 0) rfl rfl ?_
    (refine HQ_post rfl rfl (.cons (res_cellA (vs := s.1.a.cells) rfl (known_L (k := 2) rfl) rfl rfl) (.cons (res_cell rfl (known_L (k := 3) rfl) rfl rfl) .nil)) (fun w1 hs1 => ?_)
     exact ⟨⟨s.1.a, s.2, s.1.L, s.1.ok, hst.symm⟩, rfl, hs1.weakL (.cons _ (.cons _ (.cons _ (.cons _ (List.sublist_append_left _ _)))))⟩)
end Go.Proofs.YtnkmbkndpoghdaaGreat
namespace Go.Proofs.YtnkmbkndpoghdaaGreat
set_option linter.all false
open Go.SL Go.RowKit Go.Shelf
theorem code_in {R : List (Nat × Obj)} {a : AcL} (h : a.In R) {c : BS} (hc : c.length ≤ 512) : AcL.In R { a with code := c } := ⟨h.addr, h.nonce, h.bal, (by show c.length ≤ 9223372036854775807; omega), h.len, h.seg, h.slots⟩
theorem addr_in {R : List (Nat × Obj)} {a : AcL} (h : a.In R) {c : BS} (hc : c.length ≤ 512) : AcL.In R { a with addr := c } := ⟨(by show c.length ≤ 9223372036854775807; omega), h.nonce, h.bal, h.code, h.len, h.seg, h.slots⟩
theorem rows_w {f : Int} {r : Rec} : (tab.map fun i => (keyE (keyN i), (rowW f r i).2)) = rowsW f r := rfl
set_option maxRecDepth 10000 in
theorem S_wdo {R : List (Nat × Obj)} {f : Int} (hf : Forked f) {r : Rec} (hr : r.ok) {bf br ef er : Nat} (hbf : (bf, Obj.cells #[.int .i64 f] ef (0, 0)) ∈ R) (hbr : (br, Obj.cells r.cells.toArray er (0, 0)) ∈ R) {w : Nat} (hw : w < 2) {a : AcL} (ha : a.In R) :
    PureT (α := AcRes R (codedE f w a.er r)) Tryz.prog 46 (.int .i64 (w : Int) :: a.val :: [ptV bf 0, ptV br 0]).toArray (fun x => x.val) [] (fun x => x.L) R := by
  have hin := code_in ha (code_len f w)
  have hset := S_lset (gv := 49) (capsV := [ptV br 0]) (vals := fun i => (rowW f r i).2) hin hf (enters_of Tryz.func49 (by kernel_rfl) rfl) (fun i hi p => S_val hi hr hbr)
  rw [rows_w] at hset
  have hC : codedE f w a.er r = if (w : Int) = 1 then ({ a.er with code := (codeE f w).1 }, 0) else setRows { a.er with code := (codeE f w).1 } (rowsW f r) := by
    unfold codedE
    by_cases h : (w : Int) = 1
    · rw [if_pos h, if_pos h, h]
    · rw [if_neg h, if_neg h]
  rw [hC]; clear hC; refine pureT_of_HC Tryz.func46 rfl rfl fun w => ?_; refine HC_seq fun K1 hK1 => ?_; refine HC_region ?_; refine HL_box (cs := a.cells.toArray) rfl rfl rfl rfl fun rb => ?_; refine HL_alloc (cs := #[_, _, _, _, _, _, _, _]) rfl rfl rfl rfl fun r1 => ?_; refine HL_r rfl rfl rfl rfl (R_assign rfl) ?_; refine HL_nil ?_; refine HQ_then ?_; refine hK1 _ _ _ _ ?_; clear hK1 K1; refine HC_seq fun K2 hK2 => ?_; refine HC_region ?_; refine HL_r rfl rfl rfl rfl (R_load rfl (Or.inr hbf) rfl rfl) ?_; refine HL_r rfl rfl rfl rfl (R_move rfl) ?_; refine HL_callP rfl rfl rfl (enters_of Tryz.func47 (by kernel_rfl) rfl) (P_ofN hf hw) ?_; refine HL_r rfl rfl rfl rfl (R_move rfl) ?_; refine HL_r rfl rfl rfl rfl (R_extract rfl rfl) ?_; refine HL_r rfl rfl rfl rfl (R_extract rfl rfl) ?_
  refine HL_r rfl rfl rfl rfl (R_fieldAddr rfl rfl (by first | (simp only [Nat.zero_add, Nat.reduceAdd, Nat.reduceMul, Nat.zero_mul, Nat.mul_one, Nat.add_zero]; exact rfl) | exact rfl)) ?_
  refine HL_store (k := 1) rfl rfl rfl rfl rfl rfl rfl rfl (by first | (simp only [List.setIfInBounds_toArray, List.set_cons_zero, List.set_cons_succ]; exact rfl) | exact rfl) (by first | (simp only [List.set_cons_zero, List.set_cons_succ]; exact rfl) | exact rfl) ?_; refine HL_nil ?_; refine HQ_then ?_; refine hK2 _ _ _ _ ?_; clear hK2 K2; refine HC_seq fun K3 hK3 => ?_; refine HC_seq fun K4 hK4 => ?_; refine HC_region ?_; refine HL_r rfl rfl rfl rfl (R_move rfl) ?_; refine HL_r rfl rfl rfl rfl (R_pure rfl rfl rfl) ?_; refine HL_nil ?_; refine HQ_then ?_; refine hK4 _ _ _ _ ?_; clear hK4 K4; refine HC_cond rfl (fun h5 => ?_) (fun h5 => ?_)
  · try exact Bool.noConfusion h5
    try simp only [Z1, Z2, Z3, Z4, Z5, Z6, Z7, Z8, Z9, Z10, Z11, Z12, Z13] at h5
    refine HC_seq fun K6 hK6 => ?_; refine HC_region ?_; refine HL_r rfl rfl rfl rfl (R_loadA (vs := [_, _, _, _, _, _, _, _]) rfl (known_L (k := 1) rfl) rfl rfl rfl rfl) ?_
    refine HL_storeA (k := 0) (n := 8) (cs' := #[_, _, _, _, _, _, _, _]) (vs := #[_, _, _, _, _, _, _, _]) rfl rfl rfl rfl rfl rfl rfl (by exact Nat.le_of_ble_eq_true rfl) rfl (by first | (simp only [List.set_cons_zero, List.set_cons_succ]; exact rfl) | exact rfl) ?_; refine HL_r rfl rfl rfl rfl (R_assign rfl) ?_; refine HL_nil ?_; refine HQ_then ?_; refine hK6 _ _ _ _ ?_; clear hK6 K6; refine HC_ret ?_; refine HQ_thenR ?_; clear hK3 K3; refine HQ_post rfl rfl (.cons (res_cellA (vs := [_, _, _, _, _, _, _, _]) rfl (known_L (k := 0) rfl) rfl rfl) (.cons (res_tmp rfl) .nil)) (fun w1 hs1 => ?_)
    (rw [if_pos (by omega)]
     exact ⟨⟨{ a with code := (codeE f _).1 }, 0, [], hin, rfl⟩, rfl, hs1.weakL (List.nil_sublist _)⟩)
  · try exact Bool.noConfusion h5
    try simp only [Z1, Z2, Z3, Z4, Z5, Z6, Z7, Z8, Z9, Z10, Z11, Z12, Z13] at h5
    refine HC_skip ?_; refine HQ_then ?_; refine hK3 _ _ _ _ ?_; clear hK3 K3; refine HC_seq fun K7 hK7 => ?_; refine HC_region ?_; refine HL_r rfl rfl rfl rfl (R_load rfl (Or.inr hbf) rfl rfl) ?_; refine HL_r rfl rfl rfl rfl (R_loadA (vs := [_, _, _, _, _, _, _, _]) rfl (known_L (k := 1) rfl) rfl rfl rfl rfl) ?_; refine HL_r rfl rfl rfl rfl (R_makeFunc rfl rfl) ?_; refine HL_callRE rfl rfl rfl (enters_of Tryz.func48 (by kernel_rfl) rfl) hset (fun q hq => Or.inr hq) fun x => ?_; refine HL_perm List.perm_append_comm ?_; change HL _ _ ((21, .tuple #[x.a.val, .int .i64 x.err]) :: _) ((r1, _) :: (rb, _) :: x.L) _ _ _ _; refine HL_r rfl rfl rfl rfl (R_extract rfl rfl) ?_; refine HL_r rfl rfl rfl rfl (R_extract rfl rfl) ?_; refine HL_storeArr (k := 0) (n := 8) (ys := x.a.cells) rfl rfl rfl rfl rfl rfl rfl rfl rfl ?_; refine HL_r rfl rfl rfl rfl (R_assign rfl) ?_; refine HL_nil ?_; refine HQ_then ?_; refine hK7 _ _ _ _ ?_; clear hK7 K7; refine HC_ret ?_; refine HQ_post rfl rfl (.cons (res_cellA (vs := [_, _, _, _, _, _, _, _]) rfl (known_L (k := 0) rfl) rfl rfl) (.cons (res_tmp rfl) .nil)) (fun w1 hs1 => ?_)
    (rw [if_neg (by omega)]
     exact ⟨x, rfl, hs1.weakL (List.sublist_append_right [_, _] _)⟩)
end Go.Proofs.YtnkmbkndpoghdaaGreat
namespace Go.Proofs.YtnkmbkndpoghdaaGreat
set_option linter.all false
open Go.SL Go.RowKit Go.Shelf
set_option maxRecDepth 10000 in
theorem S_change {R : List (Nat × Obj)} {s : StL} (hs : s.In R) {f : Int} (hf : Forked f) {gd : FuncId} {capsd : List Value} {go : Int → AcE → AcE × Int} (egd : Enters Tryz.prog gd)
    (hdo : ∀ w : Nat, w < 2 → ∀ (a : AcL) (R' : List (Nat × Obj)), (∀ q ∈ R, q ∈ R') → a.In R' → PureT (α := AcRes R' (go w a.er)) Tryz.prog gd (.int .i64 (w : Int) :: a.val :: capsd).toArray (fun x => x.val) [] (fun x => x.L) R') :
    PureT (α := StRes R (changeE f s.er go)) Tryz.prog 45 [.int .i64 f, s.val, .func (.func gd) #[] capsd.toArray].toArray (fun x => x.val) [] (fun x => x.L) R := by
  obtain ⟨res, hres⟩ : ∃ res, res = changeE f s.er go := ⟨_, rfl⟩
  rw [← hres]; refine pureT_of_HC Tryz.func45 rfl rfl fun w => ?_; refine HC_seq fun K1 hK1 => ?_; refine HC_region ?_; refine HL_box (cs := s.cells.toArray) rfl rfl rfl rfl fun rb => ?_; refine HL_alloc (cs := #[_]) rfl rfl rfl rfl fun r1 => ?_; refine HL_r rfl rfl rfl rfl (R_assign rfl) ?_; refine HL_nil ?_; refine HQ_then ?_; refine hK1 _ _ _ _ ?_; clear hK1 K1; refine HC_seq fun K2 hK2 => ?_; refine HC_region ?_; refine HL_r rfl rfl rfl rfl (R_loadA (vs := [_]) rfl (known_L (k := 1) rfl) rfl rfl rfl rfl) ?_; refine HL_alloc (cs := #[_]) rfl rfl rfl rfl fun r2 => ?_
  refine HL_storeA (k := 0) (n := 1) (cs' := #[_]) (vs := #[_]) rfl rfl rfl rfl rfl rfl rfl (by exact Nat.le_of_ble_eq_true rfl) rfl (by first | (simp only [List.set_cons_zero, List.set_cons_succ]; exact rfl) | exact rfl) ?_; refine HL_nil ?_; refine HQ_then ?_; refine hK2 _ _ _ _ ?_; clear hK2 K2; refine HC_seq fun K3 hK3 => ?_; refine HC_seq fun K4 hK4 => ?_; refine HC_region ?_; refine HL_r rfl rfl rfl rfl (R_move rfl) ?_; refine HL_nil ?_; refine HQ_then ?_; refine hK4 _ _ _ _ ?_; clear hK4 K4; refine HC_block ?_; refine HC_loop (σ := Nat × StSt R) (fun q => q.1 ≤ 2 ∧ changeL f s.er go (([0, 1] : List Int).drop q.1) q.2.s.er = res) (fun q => [(0, .int .i64 f), (2, .func (.func gd) #[] capsd.toArray), (4, ptV rb 0), (6, ptV r1 0), (8, ptV r2 0), (17, .int .i64 (q.1 : Int))]) (fun q => (r2, .cells q.2.s.cells.toArray 24 (0, 0)) :: (r1, .cells st0L.cells.toArray 24 (0, 0)) :: (rb, .cells s.cells.toArray 24 (0, 0)) :: q.2.L) (fun _ _ _ => True) (fun q => 2 - q.1) (0, ⟨s, [], hs⟩) ⟨Nat.zero_le _, hres.symm⟩ (.cons rfl (.cons rfl (.cons rfl (.cons rfl (.cons rfl (.cons rfl .nil)))))) (List.Sublist.refl _) (fun _ _ h => h) ?_; rintro ⟨i, t⟩ ⟨hi2, hinv⟩; simp only at hi2 hinv; change HC _ _ [(0, _), (2, _), (4, _), (6, _), (8, _), (17, .int .i64 (i : Int))] ((r2, .cells t.s.cells.toArray _ (0, 0)) :: (r1, _) :: (rb, _) :: t.L) _ _ _; refine HC_seq fun K5 hK5 => ?_; refine HC_region ?_; refine HL_r rfl rfl rfl rfl (R_pure rfl rfl rfl) ?_; refine HL_nil ?_; refine HQ_then ?_; refine hK5 _ _ _ _ ?_; clear hK5 K5; refine HC_seq fun K6 hK6 => ?_; refine HC_cond rfl (fun h7 => ?_) (fun h7 => ?_)
  · try exact Bool.noConfusion h7
    try simp only [Z1, Z2, Z3, Z4, Z5, Z6, Z7, Z8, Z9, Z10, Z11, Z12, Z13] at h7
    refine HC_skip ?_; refine HQ_then ?_; refine hK6 _ _ _ _ ?_; clear hK6 K6; refine HC_seq fun K8 hK8 => ?_; refine HC_block ?_; refine HC_seq fun K9 hK9 => ?_; refine HC_region ?_; refine HL_r rfl rfl rfl rfl (R_move rfl) ?_; refine HL_r rfl rfl rfl rfl (R_assign rfl) ?_; refine HL_nil ?_; refine HQ_then ?_; refine hK9 _ _ _ _ ?_; clear hK9 K9; refine HC_seq fun K10 hK10 => ?_; refine HC_seq fun K11 hK11 => ?_
    have hi : i < 2 := by omega
    rw [change_drop hi, changeL_cons] at hinv; refine HC_region ?_; refine HL_r rfl rfl rfl rfl (R_move rfl) ?_; refine HL_r rfl rfl rfl rfl (R_move rfl) ?_; refine HL_callP rfl rfl rfl (enters_of Tryz.func47 (by kernel_rfl) rfl) (P_ofN hf hi) ?_; refine HL_r rfl rfl rfl rfl (R_move rfl) ?_; refine HL_r rfl rfl rfl rfl (R_extract rfl rfl) ?_; refine HL_r rfl rfl rfl rfl (R_extract rfl rfl) ?_; refine HL_r rfl rfl rfl rfl (R_assign rfl) ?_; refine HL_r rfl rfl rfl rfl (R_assign rfl) ?_; refine HL_nil ?_; refine HQ_then ?_; refine hK11 _ _ _ _ ?_; clear hK11 K11; refine HC_seq fun K12 hK12 => ?_; refine HC_region ?_; refine HL_r rfl rfl rfl rfl (R_move rfl) ?_; refine HL_r rfl rfl rfl rfl (R_pure rfl rfl rfl) ?_; refine HL_nil ?_; refine HQ_then ?_; refine hK12 _ _ _ _ ?_; clear hK12 K12; refine HC_cond rfl (fun h13 => ?_) (fun h13 => ?_)
    · try exact Bool.noConfusion h13
      try simp only [Z1, Z2, Z3, Z4, Z5, Z6, Z7, Z8, Z9, Z10, Z11, Z12, Z13] at h13
      refine HC_exit ?_; refine HQ_thenE ?_; clear hK10 K10; refine HQ_blockE ?_; refine HQ_then ?_; refine hK8 _ _ _ _ ?_; clear hK8 K8; refine HC_region ?_; refine HL_r rfl rfl rfl rfl (R_pure rfl rfl rfl) ?_; refine HL_wrap_i64 (by omega) (by omega) ?_; refine HL_r rfl rfl rfl rfl (R_move rfl) ?_; refine HL_nil ?_; refine HQ_then ?_
      (rw [if_pos (by simp_all)] at hinv
       exact HQ_again (i + 1, t) ⟨by simp only; omega, hinv⟩ (by simp only; omega) (.cons rfl (.cons rfl (.cons rfl (.cons rfl (.cons rfl (.cons rfl .nil)))))) (List.Sublist.refl _) (fun _ _ h => h))
    · try exact Bool.noConfusion h13
      try simp only [Z1, Z2, Z3, Z4, Z5, Z6, Z7, Z8, Z9, Z10, Z11, Z12, Z13] at h13
      refine HC_skip ?_; refine HQ_then ?_; refine hK10 _ _ _ _ ?_; clear hK10 K10; refine HC_seq fun K14 hK14 => ?_; rw [if_neg (by simp_all)] at hinv
      refine HC_drawB [] [(1, .pure), (2, .pure), (4, .pure), (5, .pure), (6, .pure), (7, .grow (geNew ptrV (.cells #[.string ⟨#[]⟩, .int .u64 0, .int .u64 0, .int .u64 0, .int .u64 0, .int .u64 0, .string ⟨#[]⟩, .slice none 0 0] 55 (0, 0)))), (8, .turn), (9, .pure)] 10 [0, 1, 2, 3, 4, 5, 6, 7, 8, 9] (by kernel_rfl) (by kernel_rfl) (by first | exact (fun _ h => nomatch h) | simp [SubS] | (intro p hp; simp [hp])) ?_; refine HB_r (k := 0) rfl rfl rfl rfl rfl (R_loadArr (xs := t.s.cells) (n := 1) rfl (known_L (k := 0) rfl) rfl rfl rfl) ?_; refine HB_p (k := 1) rfl rfl rfl rfl rfl (fun _ hS => (R_move rfl)) ?_; refine HB_callP (k := 2) rfl rfl rfl rfl rfl (enters_of Tryz.func23 (by kernel_rfl) rfl) (P_Addr i) ?_; refine HB_callR (k := 3) rfl rfl rfl rfl rfl (enters_of Tryz.func40 (by kernel_rfl) rfl) (S_Find t.ok (addrE i)) (fun q hq => (List.mem_append.1 hq).elim (fun h => Or.inl (List.mem_cons_of_mem _ (List.mem_cons_of_mem _ (List.mem_cons_of_mem _ h)))) Or.inr) ?_; refine HB_p (k := 4) rfl rfl rfl rfl rfl (fun _ hS => (R_move rfl)) ?_; refine HB_p (k := 5) rfl rfl rfl rfl rfl (fun _ hS => (R_extract rfl rfl)) ?_; refine HB_p (k := 6) rfl rfl rfl rfl rfl (fun _ hS => (R_extract rfl rfl)) ?_; refine HB_alloc (k := 7) (cs := #[_, _, _, _, _, _, _, _]) rfl rfl rfl rfl rfl rfl fun r3 => ?_; refine HB_storeArr (k := 8) (q := 0) (n := 8) (ys := (findL t.s (addrE i)).cells) rfl rfl rfl rfl rfl rfl rfl rfl rfl rfl rfl (fun _ h => nomatch h) ?_; refine HB_p (k := 9) rfl rfl rfl rfl rfl (fun _ hS => (R_assign rfl)) ?_; refine HB_end ?_; refine HL_nil ?_; refine HQ_then ?_; refine hK14 _ _ _ _ ?_; clear hK14 K14; refine HC_seq fun K15 hK15 => ?_; refine HC_region ?_; refine HL_r rfl rfl rfl rfl (R_move rfl) ?_; refine HL_callP rfl rfl rfl (enters_of Tryz.func23 (by kernel_rfl) rfl) (P_Addr i) ?_
      refine HL_r rfl rfl rfl rfl (R_fieldAddr rfl rfl (by first | (simp only [Nat.zero_add, Nat.reduceAdd, Nat.reduceMul, Nat.zero_mul, Nat.mul_one, Nat.add_zero]; exact rfl) | exact rfl)) ?_
      refine HL_store (k := 0) rfl rfl rfl rfl rfl rfl rfl rfl (by first | (simp only [List.setIfInBounds_toArray, List.set_cons_zero, List.set_cons_succ]; exact rfl) | exact rfl) (by first | (simp only [List.set_cons_zero, List.set_cons_succ]; exact rfl) | exact rfl) ?_; refine HL_nil ?_; refine HQ_then ?_; refine hK15 _ _ _ _ ?_; clear hK15 K15; refine HC_seq fun K16 hK16 => ?_; refine HC_region ?_; refine HL_r rfl rfl rfl rfl (R_move rfl) ?_; refine HL_r rfl rfl rfl rfl (R_move rfl) ?_; refine HL_r rfl rfl rfl rfl (R_loadA (vs := [_, _, _, _, _, _, _, _]) rfl (known_L (k := 0) rfl) rfl rfl rfl rfl) ?_; refine HL_callRE rfl rfl rfl egd (hdo i hi { findL t.s (addrE i) with addr := addrE i } (t.L ++ R) (fun q hq => List.mem_append_right _ hq) (addr_in (find_in t.ok (addrE i)) (addr_len i))) (fun q hq => (List.mem_append.1 hq).elim (fun h => Or.inl (List.mem_cons_of_mem _ (List.mem_cons_of_mem _ (List.mem_cons_of_mem _ (List.mem_cons_of_mem _ h))))) Or.inr) fun x => ?_; refine HL_perm (perm_mid x.L [_, _, _, _] t.L) ?_; change HL _ _ ((42, .tuple #[x.a.val, .int .i64 x.err]) :: _) ((r3, _) :: (r2, _) :: (r1, _) :: (rb, _) :: (x.L ++ t.L)) _ _ _ _
      have hxe : (go i (oldE t.s.er i)).2 = x.err := by rw [← old_er]; exact (congrArg Prod.snd x.eq).symm
      have hxa : (go i (oldE t.s.er i)).1 = x.a.er := by rw [← old_er]; exact (congrArg Prod.fst x.eq).symm
      rw [hxe, hxa] at hinv; refine HL_r rfl rfl rfl rfl (R_move rfl) ?_; refine HL_r rfl rfl rfl rfl (R_extract rfl rfl) ?_; refine HL_r rfl rfl rfl rfl (R_extract rfl rfl) ?_; refine HL_alloc (cs := #[_, _, _, _, _, _, _, _]) rfl rfl rfl rfl fun r4 => ?_; refine HL_storeArr (k := 0) (n := 8) (ys := x.a.cells) rfl rfl rfl rfl rfl rfl rfl rfl rfl ?_; refine HL_r rfl rfl rfl rfl (R_assign rfl) ?_; refine HL_nil ?_; refine HQ_then ?_; refine hK16 _ _ _ _ ?_; clear hK16 K16; refine HC_seq fun K17 hK17 => ?_; refine HC_seq fun K18 hK18 => ?_; refine HC_region ?_; refine HL_r rfl rfl rfl rfl (R_move rfl) ?_; refine HL_r rfl rfl rfl rfl (R_pure rfl rfl rfl) ?_; refine HL_nil ?_; refine HQ_then ?_; refine hK18 _ _ _ _ ?_; clear hK18 K18; refine HC_cond rfl (fun h19 => ?_) (fun h19 => ?_)
      · try exact Bool.noConfusion h19
        try simp only [Z1, Z2, Z3, Z4, Z5, Z6, Z7, Z8, Z9, Z10, Z11, Z12, Z13] at h19
        refine HC_region ?_; refine HL_r rfl rfl rfl rfl (R_loadArr (xs := t.s.cells) (n := 1) rfl (known_L (k := 2) rfl) rfl rfl rfl) ?_; refine HL_r rfl rfl rfl rfl (R_loadArr (xs := x.a.cells) (n := 8) rfl (known_L (k := 0) rfl) rfl rfl rfl) ?_; refine HL_callRE rfl rfl rfl (enters_of Tryz.func91 (by kernel_rfl) rfl) (S_Put (R := x.L ++ (t.L ++ R)) (t.ok.mono fun q hq => List.mem_append_right _ hq) x.ok) (fun q hq => (List.mem_append.1 hq).elim (fun h => Or.inl (List.mem_cons_of_mem _ (List.mem_cons_of_mem _ (List.mem_cons_of_mem _ (List.mem_cons_of_mem _ (List.mem_cons_of_mem _ (List.mem_append_left _ h))))))) fun hq => (List.mem_append.1 hq).elim (fun h => Or.inl (List.mem_cons_of_mem _ (List.mem_cons_of_mem _ (List.mem_cons_of_mem _ (List.mem_cons_of_mem _ (List.mem_cons_of_mem _ (List.mem_append_right _ h))))))) Or.inr) fun y => ?_; refine HL_perm (perm_mid y.L [_, _, _, _, _] (x.L ++ t.L)) ?_; change HL _ _ ((50, .tuple #[y.s.val, .int .i64 y.err]) :: _) ((r4, _) :: (r3, _) :: (r2, _) :: (r1, _) :: (rb, _) :: (y.L ++ (x.L ++ t.L))) _ _ _ _
        have hye : (putS t.s.er x.a.er).2 = y.err := (congrArg Prod.snd y.eq).symm
        have hys : (putS t.s.er x.a.er).1 = y.s.er := (congrArg Prod.fst y.eq).symm
        rw [hye, hys] at hinv; refine HL_r rfl rfl rfl rfl (R_move rfl) ?_; refine HL_r rfl rfl rfl rfl (R_extract rfl rfl) ?_; refine HL_r rfl rfl rfl rfl (R_extract rfl rfl) ?_; refine HL_storeArr (k := 2) (n := 1) (ys := y.s.cells) rfl rfl rfl rfl rfl rfl rfl rfl rfl ?_; refine HL_r rfl rfl rfl rfl (R_assign rfl) ?_; refine HL_nil ?_; refine HQ_then ?_; refine hK17 _ _ _ _ ?_; clear hK17 K17; refine HC_seq fun K20 hK20 => ?_; refine HC_region ?_; refine HL_r rfl rfl rfl rfl (R_move rfl) ?_; refine HL_r rfl rfl rfl rfl (R_pure rfl rfl rfl) ?_; refine HL_nil ?_; refine HQ_then ?_; refine hK20 _ _ _ _ ?_; clear hK20 K20; refine HC_cond rfl (fun h21 => ?_) (fun h21 => ?_)
        · try exact Bool.noConfusion h21
          try simp only [Z1, Z2, Z3, Z4, Z5, Z6, Z7, Z8, Z9, Z10, Z11, Z12, Z13] at h21
          refine HC_seq fun K22 hK22 => ?_; refine HC_region ?_; refine HL_r rfl rfl rfl rfl (R_loadArr (xs := s.cells) (n := 1) rfl (known_L (k := 4) rfl) rfl rfl rfl) ?_; refine HL_r rfl rfl rfl rfl (R_move rfl) ?_; refine HL_storeArr (k := 3) (n := 1) (ys := s.cells) rfl rfl rfl rfl rfl rfl rfl rfl rfl ?_; refine HL_r rfl rfl rfl rfl (R_assign rfl) ?_; refine HL_nil ?_; refine HQ_then ?_; refine hK22 _ _ _ _ ?_; clear hK22 K22; refine HC_ret ?_; refine HQ_blockR ?_; refine HQ_thenR ?_; clear hK8 K8; refine HQ_thenR ?_; refine HQ_blockR ?_; refine HQ_thenR ?_; clear hK3 K3; refine HQ_post rfl rfl (.cons (res_cellA (vs := [_]) rfl (known_L (k := 3) rfl) rfl rfl) (.cons (res_tmp rfl) .nil)) (fun w1 hs1 => ?_)
          (rw [if_neg (show ¬ (x.err ≠ 0) by omega), if_pos (show y.err ≠ 0 by omega)] at hinv
           exact ⟨⟨s, y.err, [], hs, hinv⟩, rfl, hs1.weakL (List.nil_sublist _)⟩)
        · try exact Bool.noConfusion h21
          try simp only [Z1, Z2, Z3, Z4, Z5, Z6, Z7, Z8, Z9, Z10, Z11, Z12, Z13] at h21
          refine HC_skip ?_; refine HQ_blockN ?_; refine HQ_then ?_; refine hK8 _ _ _ _ ?_; clear hK8 K8; refine HC_region ?_; refine HL_r rfl rfl rfl rfl (R_pure rfl rfl rfl) ?_; refine HL_wrap_i64 (by omega) (by omega) ?_; refine HL_r rfl rfl rfl rfl (R_move rfl) ?_; refine HL_nil ?_; refine HQ_then ?_
          (rw [if_neg (show ¬ (x.err ≠ 0) by omega), if_neg (show ¬ (y.err ≠ 0) by omega)] at hinv
           exact HQ_again (i + 1, t.next y) ⟨by simp only; omega, hinv⟩ (by simp only; omega) (.cons rfl (.cons rfl (.cons rfl (.cons rfl (.cons rfl (.cons rfl .nil)))))) (.cons _ (.cons _ (List.Sublist.refl _))) (fun _ _ h => h))
      · try exact Bool.noConfusion h19
        try simp only [Z1, Z2, Z3, Z4, Z5, Z6, Z7, Z8, Z9, Z10, Z11, Z12, Z13] at h19
        refine HC_skip ?_; refine HQ_then ?_; refine hK17 _ _ _ _ ?_; clear hK17 K17; refine HC_seq fun K23 hK23 => ?_; refine HC_region ?_; refine HL_r rfl rfl rfl rfl (R_move rfl) ?_; refine HL_r rfl rfl rfl rfl (R_pure rfl rfl rfl) ?_; refine HL_nil ?_; refine HQ_then ?_; refine hK23 _ _ _ _ ?_; clear hK23 K23; refine HC_cond rfl (fun h24 => ?_) (fun h24 => ?_)
        · try exact Bool.noConfusion h24
          try simp only [Z1, Z2, Z3, Z4, Z5, Z6, Z7, Z8, Z9, Z10, Z11, Z12, Z13] at h24
          refine HC_seq fun K25 hK25 => ?_; refine HC_region ?_; refine HL_r rfl rfl rfl rfl (R_loadArr (xs := s.cells) (n := 1) rfl (known_L (k := 4) rfl) rfl rfl rfl) ?_; refine HL_r rfl rfl rfl rfl (R_move rfl) ?_; refine HL_storeArr (k := 3) (n := 1) (ys := s.cells) rfl rfl rfl rfl rfl rfl rfl rfl rfl ?_; refine HL_r rfl rfl rfl rfl (R_assign rfl) ?_; refine HL_nil ?_; refine HQ_then ?_; refine hK25 _ _ _ _ ?_; clear hK25 K25; refine HC_ret ?_; refine HQ_blockR ?_; refine HQ_thenR ?_; clear hK8 K8; refine HQ_thenR ?_; refine HQ_blockR ?_; refine HQ_thenR ?_; clear hK3 K3; refine HQ_post rfl rfl (.cons (res_cellA (vs := [_]) rfl (known_L (k := 3) rfl) rfl rfl) (.cons (res_tmp rfl) .nil)) (fun w1 hs1 => ?_)
          (rw [if_pos (show x.err ≠ 0 by omega)] at hinv
           exact ⟨⟨s, x.err, [], hs, hinv⟩, rfl, hs1.weakL (List.nil_sublist _)⟩)
        · try exact Bool.noConfusion h24
          try simp only [Z1, Z2, Z3, Z4, Z5, Z6, Z7, Z8, Z9, Z10, Z11, Z12, Z13] at h24
          refine HC_skip ?_; refine HQ_blockN ?_; refine HQ_then ?_; refine hK8 _ _ _ _ ?_; clear hK8 K8; refine HC_region ?_; refine HL_r rfl rfl rfl rfl (R_pure rfl rfl rfl) ?_; refine HL_wrap_i64 (by omega) (by omega) ?_; refine HL_r rfl rfl rfl rfl (R_move rfl) ?_; refine HL_nil ?_; refine HQ_then ?_
          exfalso; omega
  · try exact Bool.noConfusion h7
    try simp only [Z1, Z2, Z3, Z4, Z5, Z6, Z7, Z8, Z9, Z10, Z11, Z12, Z13] at h7
    refine HC_exit ?_; refine HQ_thenE ?_; clear hK6 K6; refine HQ_thenE ?_; refine HQ_blockE ?_; refine HQ_then ?_; refine hK3 _ _ _ _ ?_; clear hK3 K3; refine HC_seq fun K26 hK26 => ?_; refine HC_region ?_; refine HL_r rfl rfl rfl rfl (R_loadArr (xs := t.s.cells) (n := 1) rfl (known_L (k := 0) rfl) rfl rfl rfl) ?_; refine HL_storeArr (k := 1) (n := 1) (ys := t.s.cells) rfl rfl rfl rfl rfl rfl rfl rfl rfl ?_; refine HL_r rfl rfl rfl rfl (R_assign rfl) ?_; refine HL_nil ?_; refine HQ_then ?_; refine hK26 _ _ _ _ ?_; clear hK26 K26; refine HC_ret ?_; refine HQ_post rfl rfl (.cons (res_cellA (vs := [_]) rfl (known_L (k := 1) rfl) rfl rfl) (.cons (res_tmp rfl) .nil)) (fun w1 hs1 => ?_)
    (obtain rfl : i = 2 := by omega
     exact ⟨⟨t.s, 0, t.L, t.ok, hinv⟩, rfl, hs1.weakL (.cons _ (.cons _ (.cons _ (List.Sublist.refl _))))⟩)
set_option maxRecDepth 10000 in
theorem S_Write {R : List (Nat × Obj)} (f : Int) {s : StL} (hs : s.In R) {r : Rec} (hr : r.ok) : PureT (α := StRes R (writeE f s.er r)) Tryz.prog 15 [.int .i64 f, s.val, r.val].toArray (fun x => x.val) [] (fun x => x.L) R := by
  have hc := S_Check hs
  obtain ⟨res, hres⟩ : ∃ res, res = changeE f s.er fun w a => codedE f w a r := ⟨_, rfl⟩
  have hwr : writeE f s.er r = if fitsE f r ≠ 0 then (s.er, fitsE f r) else if chkS s.er ≠ 0 then (s.er, chkS s.er) else res := by rw [hres]; rfl
  rw [hwr]; refine pureT_of_HC Tryz.func15 rfl rfl fun w => ?_; refine HC_seq fun K1 hK1 => ?_; refine HC_region ?_; refine HL_box (cs := #[_]) rfl rfl rfl rfl fun r1 => ?_; refine HL_box (cs := s.cells.toArray) rfl rfl rfl rfl fun rs => ?_; refine HL_box (cs := r.cells.toArray) rfl rfl rfl rfl fun rr => ?_; refine HL_alloc (cs := #[_]) rfl rfl rfl rfl fun r2 => ?_; refine HL_r rfl rfl rfl rfl (R_assign rfl) ?_; refine HL_nil ?_; refine HQ_then ?_; refine hK1 _ _ _ _ ?_; clear hK1 K1; refine HC_seq fun K2 hK2 => ?_; refine HC_seq fun K3 hK3 => ?_; refine HC_region ?_; refine HL_r rfl rfl rfl rfl (R_load rfl (known_L (k := 3) rfl) rfl rfl) ?_; refine HL_r rfl rfl rfl rfl (R_loadArr (xs := r.cells) (n := 17) rfl (known_L (k := 1) rfl) rfl rfl rfl) ?_; refine HL_callP rfl rfl rfl (enters_of Tryz.func22 (by kernel_rfl) rfl) (P_Fits f r) ?_; refine HL_r rfl rfl rfl rfl (R_assign rfl) ?_; refine HL_nil ?_; refine HQ_then ?_; refine hK3 _ _ _ _ ?_; clear hK3 K3; refine HC_seq fun K4 hK4 => ?_; refine HC_region ?_; refine HL_r rfl rfl rfl rfl (R_move rfl) ?_; refine HL_r rfl rfl rfl rfl (R_pure rfl rfl rfl) ?_; refine HL_nil ?_; refine HQ_then ?_; refine hK4 _ _ _ _ ?_; clear hK4 K4; refine HC_cond rfl (fun h5 => ?_) (fun h5 => ?_)
  · try exact Bool.noConfusion h5
    try simp only [Z1, Z2, Z3, Z4, Z5, Z6, Z7, Z8, Z9, Z10, Z11, Z12, Z13] at h5
    refine HC_seq fun K6 hK6 => ?_; refine HC_region ?_; refine HL_r rfl rfl rfl rfl (R_loadA (vs := [_]) rfl (known_L (k := 2) rfl) rfl rfl rfl rfl) ?_; refine HL_r rfl rfl rfl rfl (R_move rfl) ?_
    refine HL_storeA (k := 0) (n := 1) (cs' := #[_]) (vs := #[_]) rfl rfl rfl rfl rfl rfl rfl (by exact Nat.le_of_ble_eq_true rfl) rfl (by first | (simp only [List.set_cons_zero, List.set_cons_succ]; exact rfl) | exact rfl) ?_; refine HL_r rfl rfl rfl rfl (R_assign rfl) ?_; refine HL_nil ?_; refine HQ_then ?_; refine hK6 _ _ _ _ ?_; clear hK6 K6; refine HC_ret ?_; refine HQ_thenR ?_; clear hK2 K2; refine HQ_post rfl rfl (.cons (res_cellA (vs := [_]) rfl (known_L (k := 0) rfl) rfl rfl) (.cons (res_tmp rfl) .nil)) (fun w1 hs1 => ?_); rw [if_pos (by omega)]; exact ⟨⟨s, fitsE f r, [], hs, rfl⟩, rfl, hs1.weakL (List.nil_sublist _)⟩
  · try exact Bool.noConfusion h5
    try simp only [Z1, Z2, Z3, Z4, Z5, Z6, Z7, Z8, Z9, Z10, Z11, Z12, Z13] at h5
    refine HC_skip ?_; refine HQ_then ?_; refine hK2 _ _ _ _ ?_; clear hK2 K2; refine HC_seq fun K7 hK7 => ?_; refine HC_seq fun K8 hK8 => ?_; refine HC_region ?_; refine HL_r rfl rfl rfl rfl (R_loadA (vs := [_]) rfl (known_L (k := 2) rfl) rfl rfl rfl rfl) ?_; refine HL_callR rfl rfl rfl (enters_of Tryz.func44 (by kernel_rfl) rfl) hc (fun q hq => Or.inr hq) ?_; refine HL_r rfl rfl rfl rfl (R_assign rfl) ?_; refine HL_nil ?_; refine HQ_then ?_; refine hK8 _ _ _ _ ?_; clear hK8 K8; refine HC_seq fun K9 hK9 => ?_; refine HC_region ?_; refine HL_r rfl rfl rfl rfl (R_move rfl) ?_; refine HL_r rfl rfl rfl rfl (R_pure rfl rfl rfl) ?_; refine HL_nil ?_; refine HQ_then ?_; refine hK9 _ _ _ _ ?_; clear hK9 K9; refine HC_cond rfl (fun h10 => ?_) (fun h10 => ?_)
    · try exact Bool.noConfusion h10
      try simp only [Z1, Z2, Z3, Z4, Z5, Z6, Z7, Z8, Z9, Z10, Z11, Z12, Z13] at h10
      refine HC_seq fun K11 hK11 => ?_; refine HC_region ?_; refine HL_r rfl rfl rfl rfl (R_loadA (vs := [_]) rfl (known_L (k := 2) rfl) rfl rfl rfl rfl) ?_; refine HL_r rfl rfl rfl rfl (R_move rfl) ?_
      refine HL_storeA (k := 0) (n := 1) (cs' := #[_]) (vs := #[_]) rfl rfl rfl rfl rfl rfl rfl (by exact Nat.le_of_ble_eq_true rfl) rfl (by first | (simp only [List.set_cons_zero, List.set_cons_succ]; exact rfl) | exact rfl) ?_; refine HL_r rfl rfl rfl rfl (R_assign rfl) ?_; refine HL_nil ?_; refine HQ_then ?_; refine hK11 _ _ _ _ ?_; clear hK11 K11; refine HC_ret ?_; refine HQ_thenR ?_; clear hK7 K7; refine HQ_post rfl rfl (.cons (res_cellA (vs := [_]) rfl (known_L (k := 0) rfl) rfl rfl) (.cons (res_tmp rfl) .nil)) (fun w1 hs1 => ?_); rw [if_neg (by omega), if_pos (by omega)]; exact ⟨⟨s, chkS s.er, [], hs, rfl⟩, rfl, hs1.weakL (List.nil_sublist _)⟩
    · try exact Bool.noConfusion h10
      try simp only [Z1, Z2, Z3, Z4, Z5, Z6, Z7, Z8, Z9, Z10, Z11, Z12, Z13] at h10
      refine HC_skip ?_; refine HQ_then ?_; refine hK7 _ _ _ _ ?_; clear hK7 K7; refine HC_seq fun K12 hK12 => ?_
      have hf : Forked f := (fits_ok (show fitsE f r = 0 by omega)).1
      have hch := S_change (R := (rr, Obj.cells r.cells.toArray 29 (0, 0)) :: (r1, Obj.cells #[.int .i64 f] 3 (0, 0)) :: R) (hs.mono fun q hq => List.mem_cons_of_mem _ (List.mem_cons_of_mem _ hq)) hf (gd := 46) (capsd := [ptV r1 0, ptV rr 0]) (go := fun w a => codedE f w a r) (enters_of Tryz.func46 (by kernel_rfl) rfl) (fun w hw a R2 hR2 ha => S_wdo hf hr (hR2 _ (List.mem_cons_of_mem _ List.mem_cons_self)) (hR2 _ List.mem_cons_self) hw ha)
      refine HC_region ?_; refine HL_r rfl rfl rfl rfl (R_load rfl (known_L (k := 3) rfl) rfl rfl) ?_; refine HL_r rfl rfl rfl rfl (R_loadA (vs := [_]) rfl (known_L (k := 2) rfl) rfl rfl rfl rfl) ?_; refine HL_r rfl rfl rfl rfl (R_makeFunc rfl rfl) ?_
      refine HL_callRE (Rl := (rr, Obj.cells r.cells.toArray 29 (0, 0)) :: (r1, Obj.cells #[.int .i64 f] 3 (0, 0)) :: R) rfl rfl rfl (enters_of Tryz.func45 (by kernel_rfl) rfl) hch (fun q hq => by
        rcases List.mem_cons.1 hq with rfl | hq
        · exact Or.inl (by simp)
        · rcases List.mem_cons.1 hq with rfl | hq
          · exact Or.inl (by simp)
          · exact Or.inr hq) fun x => ?_
      refine HL_perm List.perm_append_comm ?_; change HL _ _ ((26, .tuple #[x.s.val, .int .i64 x.err]) :: _) ((r2, _) :: (rr, _) :: (rs, _) :: (r1, _) :: x.L) _ _ _ _; refine HL_r rfl rfl rfl rfl (R_extract rfl rfl) ?_; refine HL_r rfl rfl rfl rfl (R_extract rfl rfl) ?_; refine HL_storeArr (k := 0) (n := 1) (ys := x.s.cells) rfl rfl rfl rfl rfl rfl rfl rfl rfl ?_; refine HL_r rfl rfl rfl rfl (R_assign rfl) ?_; refine HL_nil ?_; refine HQ_then ?_; refine hK12 _ _ _ _ ?_; clear hK12 K12; refine HC_ret ?_; refine HQ_post rfl rfl (.cons (res_cellA (vs := [_]) rfl (known_L (k := 0) rfl) rfl rfl) (.cons (res_tmp rfl) .nil)) (fun w1 hs1 => ?_)
      (rw [if_neg (by omega), if_neg (by omega), hres]
       exact ⟨⟨x.s, x.err, x.L ++ [(rr, Obj.cells r.cells.toArray 29 (0, 0)), (r1, Obj.cells #[.int .i64 f] 3 (0, 0))], x.ok.mono fun q hq => by simp only [List.mem_append, List.mem_cons, List.not_mem_nil, or_false] at hq ⊢; rcases hq with h | h | h | h <;> simp [h], x.eq⟩, rfl, (hs1.perm (L' := x.L ++ [_, _, _, _]) (List.perm_append_comm (l₁ := [_, _, _, _]))).weakL ((List.Sublist.refl _).append (.cons _ (.cons_cons _ (.cons _ (List.Sublist.refl _)))))⟩)
set_option maxRecDepth 10000 in
theorem S_lRead {R : List (Nat × Obj)} (f : Int) {s : StL} (hs : s.In R) : PureR Tryz.prog 25 [.int .i64 f, s.val].toArray (.tuple #[(readS f s.er).1.val, .int .i64 (readS f s.er).2]) R := by
  have hc := S_lCheck f hs
  have hA := find_in hs A0
  have hrs : readS f s.er = if checkE f s.er ≠ 0 then (rec0, checkE f s.er) else (readE f (findL s A0).er, 0) := by rw [find_er]; rfl
  rw [hrs]; refine pureR_of_HC Tryz.func25 rfl rfl fun w => ?_; refine HC_seq fun K1 hK1 => ?_; refine HC_region ?_; refine HL_box (cs := s.cells.toArray) rfl rfl rfl rfl fun rs => ?_; refine HL_alloc (cs := #[_, _, _, _, _, _, _, _, _, _, _, _, _, _, _, _, _]) rfl rfl rfl rfl fun r1 => ?_; refine HL_r rfl rfl rfl rfl (R_assign rfl) ?_; refine HL_nil ?_; refine HQ_then ?_; refine hK1 _ _ _ _ ?_; clear hK1 K1; refine HC_seq fun K2 hK2 => ?_; refine HC_seq fun K3 hK3 => ?_; refine HC_region ?_; refine HL_r rfl rfl rfl rfl (R_move rfl) ?_; refine HL_r rfl rfl rfl rfl (R_loadA (vs := [_]) rfl (known_L (k := 1) rfl) rfl rfl rfl rfl) ?_; refine HL_callR rfl rfl rfl (enters_of Tryz.func29 (by kernel_rfl) rfl) hc (fun q hq => Or.inr hq) ?_; refine HL_r rfl rfl rfl rfl (R_assign rfl) ?_; refine HL_nil ?_; refine HQ_then ?_; refine hK3 _ _ _ _ ?_; clear hK3 K3; refine HC_seq fun K4 hK4 => ?_; refine HC_region ?_; refine HL_r rfl rfl rfl rfl (R_move rfl) ?_; refine HL_r rfl rfl rfl rfl (R_pure rfl rfl rfl) ?_; refine HL_nil ?_; refine HQ_then ?_; refine hK4 _ _ _ _ ?_; clear hK4 K4; refine HC_cond rfl (fun h5 => ?_) (fun h5 => ?_)
  · try exact Bool.noConfusion h5
    try simp only [Z1, Z2, Z3, Z4, Z5, Z6, Z7, Z8, Z9, Z10, Z11, Z12, Z13] at h5
    refine HC_seq fun K6 hK6 => ?_; refine HC_region ?_; refine HL_r rfl rfl rfl rfl (R_build (r := [_, _, _, _, _, _, _, _, _, _, _, _, _, _, _, _, _]) rfl rfl) ?_; refine HL_r rfl rfl rfl rfl (R_move rfl) ?_
    refine HL_storeA (k := 0) (n := 17) (cs' := #[_, _, _, _, _, _, _, _, _, _, _, _, _, _, _, _, _]) (vs := #[_, _, _, _, _, _, _, _, _, _, _, _, _, _, _, _, _]) rfl rfl rfl rfl rfl rfl rfl (by exact Nat.le_of_ble_eq_true rfl) rfl (by first | (simp only [List.set_cons_zero, List.set_cons_succ]; exact rfl) | exact rfl) ?_; refine HL_r rfl rfl rfl rfl (R_assign rfl) ?_; refine HL_nil ?_; refine HQ_then ?_; refine hK6 _ _ _ _ ?_; clear hK6 K6; refine HC_ret ?_; refine HQ_thenR ?_; clear hK2 K2; refine HQ_post rfl rfl (.cons (res_cellA (vs := [_, _, _, _, _, _, _, _, _, _, _, _, _, _, _, _, _]) rfl (known_L (k := 0) rfl) rfl rfl) (.cons (res_tmp rfl) .nil)) (fun w1 hs1 => ?_); rw [if_pos (by omega)]; exact ⟨rfl, hs1.keep⟩
  · try exact Bool.noConfusion h5
    try simp only [Z1, Z2, Z3, Z4, Z5, Z6, Z7, Z8, Z9, Z10, Z11, Z12, Z13] at h5
    refine HC_skip ?_; refine HQ_then ?_; refine hK2 _ _ _ _ ?_; clear hK2 K2; refine HC_seq fun K7 hK7 => ?_
    have hrd := S_read (f := f) (by
      obtain ⟨a, ha⟩ := check_ok.1 (show checkE f s.er = 0 by omega)
      exact ha.forked) hA
    refine HC_drawB [] [(1, .pure), (3, .pure), (4, .pure), (5, .pure), (6, .grow (geNew ptrV (.cells #[.string ⟨#[]⟩, .int .u64 0, .int .u64 0, .int .u64 0, .int .u64 0, .int .u64 0, .string ⟨#[]⟩, .slice none 0 0] 55 (0, 0)))), (7, .turn), (8, .pure)] 9 [0, 1, 2, 3, 4, 5, 6, 7, 8] (by kernel_rfl) (by kernel_rfl) (by first | exact (fun _ h => nomatch h) | simp [SubS] | (intro p hp; simp [hp])) ?_; refine HB_r (k := 0) rfl rfl rfl rfl rfl (R_loadA (vs := [_]) rfl (known_L (k := 1) rfl) rfl rfl rfl rfl) ?_; refine HB_callP (k := 1) rfl rfl rfl rfl rfl (enters_of Tryz.func23 (by kernel_rfl) rfl) (P_Addr 0) ?_; refine HB_callR (k := 2) rfl rfl rfl rfl rfl (enters_of Tryz.func40 (by kernel_rfl) rfl) (S_Find hs A0) (fun q hq => Or.inr hq) ?_; refine HB_p (k := 3) rfl rfl rfl rfl rfl (fun _ hS => (R_move rfl)) ?_; refine HB_p (k := 4) rfl rfl rfl rfl rfl (fun _ hS => (R_extract rfl rfl)) ?_; refine HB_p (k := 5) rfl rfl rfl rfl rfl (fun _ hS => (R_extract rfl rfl)) ?_; refine HB_alloc (k := 6) (cs := #[_, _, _, _, _, _, _, _]) rfl rfl rfl rfl rfl rfl fun r2 => ?_; refine HB_storeArr (k := 7) (q := 0) (n := 8) (ys := (findL s A0).cells) rfl rfl rfl rfl rfl rfl rfl rfl rfl rfl rfl (fun _ h => nomatch h) ?_; refine HB_p (k := 8) rfl rfl rfl rfl rfl (fun _ hS => (R_assign rfl)) ?_; refine HB_end ?_; refine HL_nil ?_; refine HQ_then ?_; refine hK7 _ _ _ _ ?_; clear hK7 K7; refine HC_seq fun K8 hK8 => ?_; refine HC_region ?_; refine HL_r rfl rfl rfl rfl (R_move rfl) ?_; refine HL_r rfl rfl rfl rfl (R_loadArr (xs := (findL s A0).cells) (n := 8) rfl (known_L (k := 0) rfl) rfl rfl rfl) ?_; refine HL_callR rfl rfl rfl (enters_of Tryz.func67 (by kernel_rfl) rfl) hrd (fun q hq => Or.inr hq) ?_; refine HL_storeArr (k := 1) (n := 17) (ys := (readE f (findL s A0).er).cells) rfl rfl rfl rfl rfl rfl rfl rfl rfl ?_; refine HL_r rfl rfl rfl rfl (R_assign rfl) ?_; refine HL_nil ?_; refine HQ_then ?_; refine hK8 _ _ _ _ ?_; clear hK8 K8; refine HC_ret ?_; refine HQ_post rfl rfl (.cons (res_cellA (vs := [_, _, _, _, _, _, _, _, _, _, _, _, _, _, _, _, _]) rfl (known_L (k := 1) rfl) rfl rfl) (.cons (res_tmp rfl) .nil)) (fun w1 hs1 => ?_); rw [if_neg (by omega)]; exact ⟨rfl, hs1.keep⟩
end Go.Proofs.YtnkmbkndpoghdaaGreat
namespace Go.Proofs.YtnkmbkndpoghdaaGreat
set_option linter.all false
open Go.SL Go.RowKit Go.Shelf
/-! Few: which states are looked at -/
def fewA (a : AcE) : Bool := !((decide (100 < a.addr.length) || (decide (60 < a.code.length) && decide (a.code.length ≤ 512))) || decide (20 < a.slots.length)) && a.slots.all fun x => !(decide (100 < x.1.length) || decide (100 < x.2.length))
def fewG : Nat → Int → List AcE → Bool × Int
  | _, n, [] => (true, n)
  | i, n, a :: l => if 40 < i then (true, n) else if fewA a = false then (false, n) else fewG (i + 1) (n + (a.slots.length : Int)) l
def fewS (s : List AcE) : Bool := (fewG 0 0 s).1 && (decide (s.length ≤ 40) && decide ((fewG 0 0 s).2 ≤ 40))
theorem few_all {a : AcE} {i : Nat} {x : BS × BS} (hx : a.slots[i]? = some x) (h : x.1.length > 100 ∨ x.2.length > 100) : fewA a = false := by
  unfold fewA
  have : (a.slots.all fun x => !(decide (100 < x.1.length) || decide (100 < x.2.length))) = false := by
    rw [List.all_eq_false]
    exact ⟨x, List.mem_of_getElem? hx, by rcases h with h | h <;> simp [h]⟩
  rw [this, Bool.and_false]
theorem few_len {a : AcE} (h : fewA a = true) : a.slots.length ≤ 20 := by
  unfold fewA at h
  simp only [Bool.and_eq_true, Bool.not_eq_true', Bool.or_eq_false_iff, decide_eq_false_iff_not] at h; omega
theorem few_step {i : Nat} {n : Int} {s : List AcE} {a : AcE} (h : s[i]? = some a) (hi : i ≤ 40) (hf : fewA a = true) : fewG i n (s.drop i) = fewG (i + 1) (n + (a.slots.length : Int)) (s.drop (i + 1)) := by
  obtain ⟨hlt, e⟩ := List.getElem?_eq_some_iff.1 h
  rw [List.drop_eq_getElem_cons hlt, e]
  unfold fewG
  rw [if_neg (by omega), if_neg (by rw [hf]; simp)]
  cases s.drop (i + 1) <;> rfl
theorem few_stop {i : Nat} {n : Int} {s : List AcE} (h : 40 < i ∨ s.length ≤ i) : fewG i n (s.drop i) = (true, n) := by
  rcases h with h | h
  · cases s.drop i with
    | nil => rfl
    | cons a l => unfold fewG; rw [if_pos h]
  · rw [List.drop_of_length_le h]; rfl
theorem few_no {i : Nat} {n : Int} {s : List AcE} {a : AcE} (h : s[i]? = some a) (hi : i ≤ 40) (hf : fewA a = false) : (fewG i n (s.drop i)).1 = false := by
  obtain ⟨hlt, e⟩ := List.getElem?_eq_some_iff.1 h
  rw [List.drop_eq_getElem_cons hlt, e]
  unfold fewG
  rw [if_neg (by omega), if_pos hf]
set_option maxRecDepth 10000 in
theorem S_FewAcct {R : List (Nat × Obj)} {a : AcL} (ha : a.In R) : PureR Tryz.prog 43 [a.val].toArray (.bool (fewA a.er)) R := by
  have hl := ha.len
  have hseg := ha.seg
  obtain ⟨res, hres⟩ : ∃ b, b = fewA a.er := ⟨_, rfl⟩
  rw [← hres]
  have h1 : (100 < (a.addr.length : Int) ∨ (60 < (a.code.length : Int) ∧ (a.code.length : Int) ≤ 512) ∨ 20 < (a.slots.length : Int)) → res = false := fun h => by
    rw [hres]; unfold fewA
    have : ((decide (100 < a.addr.length) || (decide (60 < a.code.length) && decide (a.code.length ≤ 512))) || decide (20 < a.slots.length)) = true := by
      simp only [Bool.or_eq_true, Bool.and_eq_true, decide_eq_true_eq]; omega
    show (!((decide (100 < a.addr.length) || (decide (60 < a.code.length) && decide (a.code.length ≤ 512))) || decide (20 < a.slots.length)) && _) = false
    rw [this]; rfl
  have h2 : ¬ (100 < (a.addr.length : Int) ∨ (60 < (a.code.length : Int) ∧ (a.code.length : Int) ≤ 512) ∨ 20 < (a.slots.length : Int)) → (∀ (j : Nat) (x : BS × BS), a.slots[j]? = some x → x.1.length ≤ 100 ∧ x.2.length ≤ 100) → res = true := fun h h' => by
    rw [hres]; unfold fewA
    have e : ((decide (100 < a.addr.length) || (decide (60 < a.code.length) && decide (a.code.length ≤ 512))) || decide (20 < a.slots.length)) = false := by
      simp only [Bool.or_eq_false_iff, Bool.and_eq_false_iff, decide_eq_false_iff_not]; omega
    show (!((decide (100 < a.addr.length) || (decide (60 < a.code.length) && decide (a.code.length ≤ 512))) || decide (20 < a.slots.length)) && _) = true
    rw [e]; simp only [Bool.not_false, Bool.true_and, List.all_eq_true]; intro x hx
    obtain ⟨j, hj⟩ := List.getElem?_of_mem hx
    obtain ⟨g1, g2⟩ := h' j x hj
    simp; omega
  refine pureR_of_HC Tryz.func43 rfl rfl fun w => ?_; refine HC_seq fun K1 hK1 => ?_; refine HC_region ?_; refine HL_box (cs := a.cells.toArray) rfl rfl rfl rfl fun r1 => ?_; refine HL_r rfl rfl rfl rfl (R_assign rfl) ?_; refine HL_nil ?_; refine HQ_then ?_; refine hK1 _ _ _ _ ?_; clear hK1 K1; refine HC_seq fun K2 hK2 => ?_; refine HC_seq fun K3 hK3 => ?_; refine HC_region ?_
  refine HL_r rfl rfl rfl rfl (R_fieldAddr rfl rfl (by first | (simp only [Nat.zero_add, Nat.reduceAdd, Nat.reduceMul, Nat.zero_mul, Nat.mul_one, Nat.add_zero]; exact rfl) | exact rfl)) ?_; refine HL_r rfl rfl rfl rfl (R_load rfl (known_L (k := 0) rfl) rfl rfl) ?_; refine HL_r rfl rfl rfl rfl (R_lenBs rfl rfl) ?_; refine HL_r rfl rfl rfl rfl (R_pure rfl rfl rfl) ?_; refine HL_r rfl rfl rfl rfl (R_move rfl) ?_
  refine HL_case 8 rfl (fun hb4 => ?_) (fun hb4 => ?_) <;> (try simp only [Z1, Z2, Z3, Z4, Z5, Z6, Z7, Z8, Z9, Z10, Z11, Z12, Z13] at hb4) <;> first | (refine HL_r rfl rfl rfl rfl (R_fieldAddr rfl rfl (by first | (simp only [Nat.zero_add, Nat.reduceAdd, Nat.reduceMul, Nat.zero_mul, Nat.mul_one, Nat.add_zero]; exact rfl) | exact rfl)) ?_) | (refine HL_skip rfl rfl rfl ?_)
  all_goals first
    | (refine HL_r rfl rfl rfl rfl (R_load rfl (known_L (k := 0) rfl) rfl rfl) ?_)
    | (refine HL_skip rfl rfl rfl ?_)
  all_goals first
    | (refine HL_r rfl rfl rfl rfl (R_lenBs rfl rfl) ?_)
    | (refine HL_skip rfl rfl rfl ?_)
  all_goals first
    | (refine HL_r rfl rfl rfl rfl (R_pure rfl rfl rfl) ?_)
    | (refine HL_skip rfl rfl rfl ?_)
  all_goals first
    | (refine HL_r rfl rfl rfl rfl (R_move rfl) ?_)
    | (refine HL_skip rfl rfl rfl ?_)
  all_goals first
    | (refine HL_skip rfl rfl rfl ?_)
    | (refine HL_case 13 rfl (fun hb9 => ?_) (fun hb9 => ?_) <;> (try simp only [Z1, Z2, Z3, Z4, Z5, Z6, Z7, Z8, Z9, Z10, Z11, Z12, Z13] at hb9) <;> first | (refine HL_r rfl rfl rfl rfl (R_fieldAddr rfl rfl (by first | (simp only [Nat.zero_add, Nat.reduceAdd, Nat.reduceMul, Nat.zero_mul, Nat.mul_one, Nat.add_zero]; exact rfl) | exact rfl)) ?_) | (refine HL_skip rfl rfl rfl ?_))
  all_goals first
    | (refine HL_r rfl rfl rfl rfl (R_load rfl (known_L (k := 0) rfl) rfl rfl) ?_)
    | (refine HL_skip rfl rfl rfl ?_)
  all_goals first
    | (refine HL_r rfl rfl rfl rfl (R_lenBs rfl rfl) ?_)
    | (refine HL_skip rfl rfl rfl ?_)
  all_goals first
    | (refine HL_r rfl rfl rfl rfl (R_pure rfl rfl rfl) ?_)
    | (refine HL_skip rfl rfl rfl ?_)
  all_goals first
    | (refine HL_r rfl rfl rfl rfl (R_pickT rfl rfl) ?_)
    | (refine HL_r rfl rfl rfl rfl (R_pickF rfl rfl) ?_)
    | (refine HL_skip rfl rfl rfl ?_)
  all_goals first
    | (refine HL_r rfl rfl rfl rfl (R_pickT rfl rfl) ?_)
    | (refine HL_r rfl rfl rfl rfl (R_pickF rfl rfl) ?_)
  all_goals refine HL_r rfl rfl rfl rfl (R_move rfl) ?_
  all_goals first
    | (refine HL_r rfl rfl rfl rfl (R_fieldAddr rfl rfl (by first | (simp only [Nat.zero_add, Nat.reduceAdd, Nat.reduceMul, Nat.zero_mul, Nat.mul_one, Nat.add_zero]; exact rfl) | exact rfl)) ?_)
    | (refine HL_skip rfl rfl rfl ?_)
    | (refine HL_case 20 rfl (fun hb14 => ?_) (fun hb14 => ?_) <;> (try simp only [Z1, Z2, Z3, Z4, Z5, Z6, Z7, Z8, Z9, Z10, Z11, Z12, Z13] at hb14) <;> first | (refine HL_r rfl rfl rfl rfl (R_fieldAddr rfl rfl (by first | (simp only [Nat.zero_add, Nat.reduceAdd, Nat.reduceMul, Nat.zero_mul, Nat.mul_one, Nat.add_zero]; exact rfl) | exact rfl)) ?_) | (refine HL_skip rfl rfl rfl ?_))
  all_goals first
    | (refine HL_r rfl rfl rfl rfl (R_load rfl (known_L (k := 0) rfl) rfl rfl) ?_)
    | (refine HL_skip rfl rfl rfl ?_)
  all_goals first
    | (refine HL_r rfl rfl rfl rfl (R_lenPl rfl hseg rfl) ?_)
    | (refine HL_skip rfl rfl rfl ?_)
  all_goals first
    | (refine HL_r rfl rfl rfl rfl (R_pure rfl rfl rfl) ?_)
    | (refine HL_skip rfl rfl rfl ?_)
  all_goals first
    | (refine HL_r rfl rfl rfl rfl (R_pickT rfl rfl) ?_)
    | (refine HL_r rfl rfl rfl rfl (R_pickF rfl rfl) ?_)
  all_goals refine HL_nil ?_
  all_goals (
   refine HQ_then ?_; refine hK3 _ _ _ _ ?_; clear hK3 K3; refine HC_cond rfl (fun h18 => ?_) (fun h18 => ?_)
   · try exact Bool.noConfusion h18
     try simp only [Z1, Z2, Z3, Z4, Z5, Z6, Z7, Z8, Z9, Z10, Z11, Z12, Z13] at h18
     refine HC_seq fun K19 hK19 => ?_; refine HC_region ?_; refine HL_r rfl rfl rfl rfl (R_assign rfl) ?_; refine HL_nil ?_; refine HQ_then ?_; refine hK19 _ _ _ _ ?_; clear hK19 K19; refine HC_ret ?_; refine HQ_thenR ?_; clear hK2 K2; refine HQ_post rfl rfl (.cons (res_tmp rfl) .nil) (fun w1 hs1 => ?_); rw [h1 (by omega)]; exact ⟨rfl, hs1.keep⟩
   · try exact Bool.noConfusion h18
     all_goals try simp only [Z1, Z2, Z3, Z4, Z5, Z6, Z7, Z8, Z9, Z10, Z11, Z12, Z13] at h18
     all_goals (
      refine HC_skip ?_; refine HQ_then ?_; refine hK2 _ _ _ _ ?_; clear hK2 K2; refine HC_seq fun K20 hK20 => ?_; refine HC_seq fun K21 hK21 => ?_; refine HC_region ?_; refine HL_r rfl rfl rfl rfl (R_assign rfl) ?_; refine HL_nil ?_; refine HQ_then ?_; refine hK21 _ _ _ _ ?_; clear hK21 K21; refine HC_block ?_
      have h0 : ¬ (100 < (a.addr.length : Int) ∨ (60 < (a.code.length : Int) ∧ (a.code.length : Int) ≤ 512) ∨ 20 < (a.slots.length : Int)) := by
        simp_all
        all_goals first | done | omega | trace_state
      refine HC_loop (σ := Nat) (fun i => i ≤ a.slots.length ∧ ∀ (j : Nat) (x : BS × BS), j < i → a.slots[j]? = some x → x.1.length ≤ 100 ∧ x.2.length ≤ 100) (fun i => [(1, .pointer (some ⟨r1, 0, none⟩)), (3, .int .i64 (i : Int))]) (fun _ => [(r1, .cells a.cells.toArray 55 (0, 0))]) (fun _ _ _ => True) (fun i => a.slots.length - i) 0 ⟨Nat.zero_le _, fun _ _ h => absurd h (Nat.not_lt_zero _)⟩ (.cons rfl (.cons rfl .nil)) (List.Sublist.refl _) (fun _ _ h => h) ?_; rintro i ⟨hi1, hinv⟩; refine HC_seq fun K22 hK22 => ?_; refine HC_seq fun K23 hK23 => ?_; refine HC_region ?_; refine HL_r rfl rfl rfl rfl (R_move rfl) ?_
      refine HL_r rfl rfl rfl rfl (R_fieldAddr rfl rfl (by first | (simp only [Nat.zero_add, Nat.reduceAdd, Nat.reduceMul, Nat.zero_mul, Nat.mul_one, Nat.add_zero]; exact rfl) | exact rfl)) ?_; refine HL_r rfl rfl rfl rfl (R_load rfl (known_L (k := 0) rfl) rfl rfl) ?_; refine HL_r rfl rfl rfl rfl (R_lenPl rfl hseg rfl) ?_; refine HL_r rfl rfl rfl rfl (R_pure rfl rfl rfl) ?_; refine HL_nil ?_; refine HQ_then ?_; refine hK23 _ _ _ _ ?_; clear hK23 K23; refine HC_cond rfl (fun h24 => ?_) (fun h24 => ?_)
      · try exact Bool.noConfusion h24
        try simp only [Z1, Z2, Z3, Z4, Z5, Z6, Z7, Z8, Z9, Z10, Z11, Z12, Z13] at h24
        refine HC_skip ?_; refine HQ_then ?_; refine hK22 _ _ _ _ ?_; clear hK22 K22; refine HC_seq fun K25 hK25 => ?_; refine HC_block ?_; refine HC_seq fun K26 hK26 => ?_
        obtain ⟨x, hx, hmx⟩ := getI (show i < a.slots.length by omega)
        have hxl := ha.slots x hmx
        refine HC_region ?_
        refine HL_r rfl rfl rfl rfl (R_fieldAddr rfl rfl (by first | (simp only [Nat.zero_add, Nat.reduceAdd, Nat.reduceMul, Nat.zero_mul, Nat.mul_one, Nat.add_zero]; exact rfl) | exact rfl)) ?_; refine HL_r rfl rfl rfl rfl (R_load rfl (known_L (k := 0) rfl) rfl rfl) ?_; refine HL_r rfl rfl rfl rfl (R_move rfl) ?_
        refine HL_r rfl rfl rfl rfl (R_indexPl (j := i) rfl hseg rfl rfl rfl (by first | rfl | omega) (by omega)) ?_; refine HL_r rfl rfl rfl rfl (R_fieldAddr (off' := plO a.p + (i * 2 + 0)) rfl rfl (by show plO a.p + i * 2 + 0 = _; omega)) ?_; refine HL_r rfl rfl rfl rfl (R_loadEf slC_len (k := 0) (v := strV x.1) (fun q hq => Or.inr hq) rfl hseg hx rfl rfl) ?_; refine HL_r rfl rfl rfl rfl (R_lenBs rfl rfl) ?_; refine HL_r rfl rfl rfl rfl (R_pure rfl rfl rfl) ?_; refine HL_r rfl rfl rfl rfl (R_move rfl) ?_
        refine HL_case 41 rfl (fun hb27 => ?_) (fun hb27 => ?_) <;> (try simp only [Z1, Z2, Z3, Z4, Z5, Z6, Z7, Z8, Z9, Z10, Z11, Z12, Z13] at hb27) <;> first | (refine HL_r rfl rfl rfl rfl (R_fieldAddr rfl rfl (by first | (simp only [Nat.zero_add, Nat.reduceAdd, Nat.reduceMul, Nat.zero_mul, Nat.mul_one, Nat.add_zero]; exact rfl) | exact rfl)) ?_) | (refine HL_skip rfl rfl rfl ?_)
        all_goals first
          | (refine HL_r rfl rfl rfl rfl (R_load rfl (known_L (k := 0) rfl) rfl rfl) ?_)
          | (refine HL_skip rfl rfl rfl ?_)
        all_goals first
          | (refine HL_r rfl rfl rfl rfl (R_move rfl) ?_)
          | (refine HL_skip rfl rfl rfl ?_)
        all_goals first
          | (refine HL_r rfl rfl rfl rfl (R_indexPl (j := i) rfl hseg rfl rfl rfl (by first | rfl | omega) (by omega)) ?_)
          | (refine HL_skip rfl rfl rfl ?_)
        all_goals first
          | (refine HL_r rfl rfl rfl rfl (R_fieldAddr (off' := plO a.p + (i * 2 + 1)) rfl rfl (by show plO a.p + i * 2 + 1 = _; omega)) ?_)
          | (refine HL_skip rfl rfl rfl ?_)
        all_goals first
          | (refine HL_r rfl rfl rfl rfl (R_loadEf slC_len (k := 1) (v := strV x.2) (fun q hq => Or.inr hq) rfl hseg hx rfl rfl) ?_)
          | (refine HL_skip rfl rfl rfl ?_)
        all_goals first
          | (refine HL_r rfl rfl rfl rfl (R_lenBs rfl rfl) ?_)
          | (refine HL_skip rfl rfl rfl ?_)
        all_goals first
          | (refine HL_r rfl rfl rfl rfl (R_pure rfl rfl rfl) ?_)
          | (refine HL_skip rfl rfl rfl ?_)
        all_goals first
          | (refine HL_r rfl rfl rfl rfl (R_pickT rfl rfl) ?_)
          | (refine HL_r rfl rfl rfl rfl (R_pickF rfl rfl) ?_)
        all_goals refine HL_nil ?_
        all_goals (
         refine HQ_then ?_; refine hK26 _ _ _ _ ?_; clear hK26 K26; refine HC_cond rfl (fun h35 => ?_) (fun h35 => ?_)
         · try exact Bool.noConfusion h35
           try simp only [Z1, Z2, Z3, Z4, Z5, Z6, Z7, Z8, Z9, Z10, Z11, Z12, Z13] at h35
           refine HC_seq fun K36 hK36 => ?_; refine HC_region ?_; refine HL_r rfl rfl rfl rfl (R_assign rfl) ?_; refine HL_nil ?_; refine HQ_then ?_; refine hK36 _ _ _ _ ?_; clear hK36 K36; refine HC_ret ?_; refine HQ_blockR ?_; refine HQ_thenR ?_; clear hK25 K25; refine HQ_thenR ?_; refine HQ_blockR ?_; refine HQ_thenR ?_; clear hK20 K20; refine HQ_post rfl rfl (.cons (res_tmp rfl) .nil) (fun w1 hs1 => ?_); rw [hres, few_all hx (by omega)]; exact ⟨rfl, hs1.keep⟩
         · try exact Bool.noConfusion h35
           all_goals try simp only [Z1, Z2, Z3, Z4, Z5, Z6, Z7, Z8, Z9, Z10, Z11, Z12, Z13] at h35
           all_goals (
            refine HC_skip ?_; refine HQ_blockN ?_; refine HQ_then ?_; refine hK25 _ _ _ _ ?_; clear hK25 K25; refine HC_region ?_; refine HL_r rfl rfl rfl rfl (R_move rfl) ?_; refine HL_r rfl rfl rfl rfl (R_pure rfl rfl rfl) ?_; refine HL_wrap_i64 (by omega) (by omega) ?_; refine HL_r rfl rfl rfl rfl (R_assign rfl) ?_; refine HL_nil ?_; refine HQ_then ?_
            exact HQ_again (i + 1) ⟨by omega, fun j y hj hy => by
              rcases Nat.lt_succ_iff_lt_or_eq.1 hj with h | rfl
              · exact hinv j y h hy
              · obtain rfl := Option.some.inj (hx.symm.trans hy); simp_all; all_goals first | done | omega | trace_state⟩ (by omega) (.cons rfl (.cons rfl .nil)) (List.Sublist.refl _) (fun _ _ h => h)
            skip)
         skip)
      · try exact Bool.noConfusion h24
        try simp only [Z1, Z2, Z3, Z4, Z5, Z6, Z7, Z8, Z9, Z10, Z11, Z12, Z13] at h24
        refine HC_exit ?_; refine HQ_thenE ?_; clear hK22 K22; refine HQ_thenE ?_; refine HQ_blockE ?_; refine HQ_then ?_; refine hK20 _ _ _ _ ?_; clear hK20 K20; refine HC_seq fun K37 hK37 => ?_; refine HC_region ?_; refine HL_r rfl rfl rfl rfl (R_assign rfl) ?_; refine HL_nil ?_; refine HQ_then ?_; refine hK37 _ _ _ _ ?_; clear hK37 K37; refine HC_ret ?_; refine HQ_post rfl rfl (.cons (res_tmp rfl) .nil) (fun w1 hs1 => ?_); rw [h2 h0 (fun j y hy => hinv j y (by have := (List.getElem?_eq_some_iff.1 hy).1; omega) hy)]; exact ⟨rfl, hs1.keep⟩
      skip)
   skip)
set_option maxRecDepth 10000 in
theorem S_Few {R : List (Nat × Obj)} {s : StL} (hs : s.In R) : PureR Tryz.prog 14 [s.val].toArray (.bool (fewS s.er)) R := by
  have hl := hs.len
  have hseg := hs.seg
  obtain ⟨⟨rb, rn⟩, hres⟩ : ∃ b, b = fewG 0 0 s.er := ⟨_, rfl⟩
  have hfs : fewS s.er = (rb && (decide (s.accts.length ≤ 40) && decide (rn ≤ 40))) := by unfold fewS; rw [← hres, s.er_len]
  rw [hfs]; refine pureR_of_HC Tryz.func14 rfl rfl fun w => ?_; refine HC_seq fun K1 hK1 => ?_; refine HC_region ?_; refine HL_box (cs := s.cells.toArray) rfl rfl rfl rfl fun r1 => ?_; refine HL_r rfl rfl rfl rfl (R_assign rfl) ?_; refine HL_nil ?_; refine HQ_then ?_; refine hK1 _ _ _ _ ?_; clear hK1 K1; refine HC_seq fun K2 hK2 => ?_; refine HC_region ?_; refine HL_r rfl rfl rfl rfl (R_assign rfl) ?_; refine HL_nil ?_; refine HQ_then ?_; refine hK2 _ _ _ _ ?_; clear hK2 K2; refine HC_seq fun K3 hK3 => ?_; refine HC_seq fun K4 hK4 => ?_; refine HC_region ?_; refine HL_r rfl rfl rfl rfl (R_assign rfl) ?_; refine HL_nil ?_; refine HQ_then ?_; refine hK4 _ _ _ _ ?_; clear hK4 K4; refine HC_block ?_; refine HC_loop (σ := Nat × Int) (fun q => q.1 ≤ s.accts.length ∧ 0 ≤ q.2 ∧ q.2 ≤ 20 * q.1 ∧ q.1 ≤ 41 ∧ fewG q.1 q.2 (s.er.drop q.1) = (rb, rn)) (fun q => [(1, .pointer (some ⟨r1, 0, none⟩)), (3, .int .i64 q.2), (4, .int .i64 (q.1 : Int))]) (fun _ => [(r1, .cells s.cells.toArray 24 (0, 0))]) (fun _ _ _ => True) (fun q => s.accts.length - q.1) (0, 0) ⟨Nat.zero_le _, by omega, by omega, by omega, hres.symm⟩ (.cons rfl (.cons rfl (.cons rfl .nil))) (List.Sublist.refl _) (fun _ _ h => h) ?_; rintro ⟨i, n⟩ ⟨hi1, hn0, hn1, hi41, hinv⟩; simp only at hi1 hn0 hn1 hi41 hinv; change HC _ _ [(1, _), (3, .int .i64 n), (4, .int .i64 (i : Int))] _ _ _ _; refine HC_seq fun K5 hK5 => ?_; refine HC_seq fun K6 hK6 => ?_; refine HC_region ?_; refine HL_r rfl rfl rfl rfl (R_move rfl) ?_
  refine HL_r rfl rfl rfl rfl (R_fieldAddr rfl rfl (by first | (simp only [Nat.zero_add, Nat.reduceAdd, Nat.reduceMul, Nat.zero_mul, Nat.mul_one, Nat.add_zero]; exact rfl) | exact rfl)) ?_; refine HL_r rfl rfl rfl rfl (R_load rfl (known_L (k := 0) rfl) rfl rfl) ?_; refine HL_r rfl rfl rfl rfl (R_lenPl rfl hseg rfl) ?_; refine HL_r rfl rfl rfl rfl (R_pure rfl rfl rfl) ?_; refine HL_r rfl rfl rfl rfl (R_move rfl) ?_
  refine HL_case 11 rfl (fun hb7 => ?_) (fun hb7 => ?_) <;> (try simp only [Z1, Z2, Z3, Z4, Z5, Z6, Z7, Z8, Z9, Z10, Z11, Z12, Z13] at hb7) <;> first | (refine HL_r rfl rfl rfl rfl (R_move rfl) ?_) | (refine HL_skip rfl rfl rfl ?_)
  all_goals first
    | (refine HL_r rfl rfl rfl rfl (R_pure rfl rfl rfl) ?_)
    | (refine HL_skip rfl rfl rfl ?_)
  all_goals first
    | (refine HL_r rfl rfl rfl rfl (R_pickT rfl rfl) ?_)
    | (refine HL_r rfl rfl rfl rfl (R_pickF rfl rfl) ?_)
  all_goals refine HL_nil ?_
  all_goals (
   refine HQ_then ?_; refine hK6 _ _ _ _ ?_; clear hK6 K6; refine HC_cond rfl (fun h9 => ?_) (fun h9 => ?_)
   · try exact Bool.noConfusion h9
     all_goals try simp only [Z1, Z2, Z3, Z4, Z5, Z6, Z7, Z8, Z9, Z10, Z11, Z12, Z13] at h9
     all_goals (
      refine HC_skip ?_; refine HQ_then ?_; refine hK5 _ _ _ _ ?_; clear hK5 K5; refine HC_seq fun K10 hK10 => ?_; refine HC_block ?_; refine HC_seq fun K11 hK11 => ?_
      obtain ⟨a, ha, hma⟩ := getI (show i < s.accts.length by omega)
      have ha2 := hs.accts a hma
      have hi40 : i ≤ 40 := by simp_all <;> omega
      refine HC_region ?_
      refine HL_r rfl rfl rfl rfl (R_fieldAddr rfl rfl (by first | (simp only [Nat.zero_add, Nat.reduceAdd, Nat.reduceMul, Nat.zero_mul, Nat.mul_one, Nat.add_zero]; exact rfl) | exact rfl)) ?_; refine HL_r rfl rfl rfl rfl (R_load rfl (known_L (k := 0) rfl) rfl rfl) ?_; refine HL_r rfl rfl rfl rfl (R_move rfl) ?_
      refine HL_r rfl rfl rfl rfl (R_indexPl (j := i) rfl hseg rfl rfl rfl (by first | rfl | omega) (by omega)) ?_; refine HL_r rfl rfl rfl rfl (R_loadEl AcL.len (fun q hq => Or.inr hq) rfl hseg ha rfl rfl) ?_; refine HL_callR rfl rfl rfl (enters_of Tryz.func43 (by kernel_rfl) rfl) (S_FewAcct ha2) (fun q hq => Or.inr hq) ?_; refine HL_r rfl rfl rfl rfl (R_assign rfl) ?_; refine HL_nil ?_; refine HQ_then ?_; refine hK11 _ _ _ _ ?_; clear hK11 K11; refine HC_seq fun K12 hK12 => ?_; refine HC_seq fun K13 hK13 => ?_; refine HC_region ?_; refine HL_r rfl rfl rfl rfl (R_move rfl) ?_; refine HL_r rfl rfl rfl rfl (R_pure rfl rfl rfl) ?_; refine HL_nil ?_; refine HQ_then ?_; refine hK13 _ _ _ _ ?_; clear hK13 K13; refine HC_cond rfl (fun h14 => ?_) (fun h14 => ?_)
      · try exact Bool.noConfusion h14
        try simp only [Z1, Z2, Z3, Z4, Z5, Z6, Z7, Z8, Z9, Z10, Z11, Z12, Z13] at h14
        refine HC_seq fun K15 hK15 => ?_; refine HC_region ?_; refine HL_r rfl rfl rfl rfl (R_assign rfl) ?_; refine HL_nil ?_; refine HQ_then ?_; refine hK15 _ _ _ _ ?_; clear hK15 K15; refine HC_ret ?_; refine HQ_thenR ?_; clear hK12 K12; refine HQ_blockR ?_; refine HQ_thenR ?_; clear hK10 K10; refine HQ_thenR ?_; refine HQ_blockR ?_; refine HQ_thenR ?_; clear hK3 K3; refine HQ_post rfl rfl (.cons (res_tmp rfl) .nil) (fun w1 hs1 => ?_)
        (have hff : fewA a.er = false := by simp_all
         have h1 := few_no (n := n) (er_get ha) hi40 hff
         rw [hinv] at h1
         rw [show rb = false from h1]; exact ⟨rfl, hs1.keep⟩)
      · try exact Bool.noConfusion h14
        try simp only [Z1, Z2, Z3, Z4, Z5, Z6, Z7, Z8, Z9, Z10, Z11, Z12, Z13] at h14
        refine HC_skip ?_; refine HQ_then ?_; refine hK12 _ _ _ _ ?_; clear hK12 K12
        have hft : fewA a.er = true := by simp_all
        have h20 := few_len hft
        have h20 : a.slots.length ≤ 20 := h20
        rw [few_step (er_get ha) hi40 hft] at hinv; refine HC_region ?_; refine HL_r rfl rfl rfl rfl (R_move rfl) ?_
        refine HL_r rfl rfl rfl rfl (R_fieldAddr rfl rfl (by first | (simp only [Nat.zero_add, Nat.reduceAdd, Nat.reduceMul, Nat.zero_mul, Nat.mul_one, Nat.add_zero]; exact rfl) | exact rfl)) ?_; refine HL_r rfl rfl rfl rfl (R_load rfl (known_L (k := 0) rfl) rfl rfl) ?_; refine HL_r rfl rfl rfl rfl (R_move rfl) ?_
        refine HL_r rfl rfl rfl rfl (R_indexPl (j := i) rfl hseg rfl rfl rfl (by first | rfl | omega) (by omega)) ?_; refine HL_r rfl rfl rfl rfl (R_fieldAddr (off' := plO s.p + (i * 8 + 7)) rfl rfl (by show plO s.p + i * 8 + 7 = _; omega)) ?_; refine HL_r rfl rfl rfl rfl (R_loadEf AcL.len (k := 7) (v := plV a.slots.length a.p) (fun q hq => Or.inr hq) rfl hseg ha rfl rfl) ?_; refine HL_r rfl rfl rfl rfl (R_lenPl rfl ha2.seg rfl) ?_; refine HL_r rfl rfl rfl rfl (R_pure rfl rfl rfl) ?_; refine HL_wrap_i64 (by omega) (by omega) ?_; refine HL_r rfl rfl rfl rfl (R_assign rfl) ?_; refine HL_nil ?_; refine HQ_blockN ?_; refine HQ_then ?_; refine hK10 _ _ _ _ ?_; clear hK10 K10; refine HC_region ?_; refine HL_r rfl rfl rfl rfl (R_move rfl) ?_; refine HL_r rfl rfl rfl rfl (R_pure rfl rfl rfl) ?_; refine HL_wrap_i64 (by omega) (by omega) ?_; refine HL_r rfl rfl rfl rfl (R_assign rfl) ?_; refine HL_nil ?_; refine HQ_then ?_; exact HQ_again (i + 1, n + (a.slots.length : Int)) ⟨by simp only; omega, by simp only; omega, by simp only; omega, by simp only; omega, hinv⟩ (by simp only; omega) (.cons rfl (.cons rfl (.cons rfl .nil))) (List.Sublist.refl _) (fun _ _ h => h)
      skip)
   · try exact Bool.noConfusion h9
     try simp only [Z1, Z2, Z3, Z4, Z5, Z6, Z7, Z8, Z9, Z10, Z11, Z12, Z13] at h9
     refine HC_exit ?_; refine HQ_thenE ?_; clear hK5 K5; refine HQ_thenE ?_; refine HQ_blockE ?_; refine HQ_then ?_; refine hK3 _ _ _ _ ?_; clear hK3 K3; refine HC_seq fun K16 hK16 => ?_; refine HC_region ?_
     refine HL_r rfl rfl rfl rfl (R_fieldAddr rfl rfl (by first | (simp only [Nat.zero_add, Nat.reduceAdd, Nat.reduceMul, Nat.zero_mul, Nat.mul_one, Nat.add_zero]; exact rfl) | exact rfl)) ?_; refine HL_r rfl rfl rfl rfl (R_load rfl (known_L (k := 0) rfl) rfl rfl) ?_; refine HL_r rfl rfl rfl rfl (R_lenPl rfl hseg rfl) ?_; refine HL_r rfl rfl rfl rfl (R_pure rfl rfl rfl) ?_; refine HL_r rfl rfl rfl rfl (R_move rfl) ?_
     refine HL_case 38 rfl (fun hb17 => ?_) (fun hb17 => ?_) <;> (try simp only [Z1, Z2, Z3, Z4, Z5, Z6, Z7, Z8, Z9, Z10, Z11, Z12, Z13] at hb17) <;> first | (refine HL_r rfl rfl rfl rfl (R_move rfl) ?_) | (refine HL_skip rfl rfl rfl ?_)
     all_goals first
       | (refine HL_r rfl rfl rfl rfl (R_pure rfl rfl rfl) ?_)
       | (refine HL_skip rfl rfl rfl ?_)
     all_goals first
       | (refine HL_r rfl rfl rfl rfl (R_pickT rfl rfl) ?_)
       | (refine HL_r rfl rfl rfl rfl (R_pickF rfl rfl) ?_)
     all_goals refine HL_r rfl rfl rfl rfl (R_assign rfl) ?_
     all_goals refine HL_nil ?_
     all_goals (
      refine HQ_then ?_; refine hK16 _ _ _ _ ?_; clear hK16 K16; refine HC_ret ?_; refine HQ_post rfl rfl (.cons (res_tmp rfl) .nil) (fun w1 hs1 => ?_)
      first
        | (have hff : fewA a.er = false := by simp_all
           have h1 := few_no (n := n) (er_get ha) hi40 hff
           rw [hinv] at h1
           rw [show rb = false from h1]; exact ⟨rfl, hs1.keep⟩)
        | (rw [few_stop (by rw [s.er_len]; omega)] at hinv
           obtain ⟨rfl, rfl⟩ := Prod.mk.inj hinv
           refine ⟨?_, hs1.keep⟩
           simp [resVal]
           all_goals first | done | omega | trace_state)
        | trace_state
      skip)
   skip)
end Go.Proofs.YtnkmbkndpoghdaaGreat
namespace Go.Proofs.YtnkmbkndpoghdaaGreat
set_option linter.all false
open Go.SL Go.RowKit Go.Shelf
/-! the fixed facts of the law of layouts -/
def rw1 : Rec := ⟨5, 6, ⟨7, 0, 0, 0⟩, w40, w40, 8, 0, 0⟩
def rw3 : Rec := ⟨0, 0, w40, w40, w40, 8, 9, 0⟩
def rwE : Rec := ⟨0, 0, w40, w40, w40, 0, 1, 0⟩
def rwO : Rec := ⟨0, 0, w40, w40, ⟨1, 0, 0, 0⟩, 0, 0, 0⟩
theorem u64_lt {n : Nat} (h : n < 1000) : U64 n := by unfold U64; omega
theorem rw1_ok : rw1.ok := ⟨u64_lt (by decide), u64_lt (by decide), ⟨u64_lt (by decide), u64_0, u64_0, u64_0⟩, w40_ok, w40_ok, u64_lt (by decide), u64_0, u64_0⟩
theorem rw3_ok : rw3.ok := ⟨u64_0, u64_0, w40_ok, w40_ok, w40_ok, u64_lt (by decide), u64_lt (by decide), u64_0⟩
def sw1 : List AcE := (writeE 0 [] rw1).1
def sw3 : List AcE := (writeE 3 sw1 rw3).1
theorem pair0 {p : List AcE × Int} (h : p.2 = 0) : p = (p.1, 0) := by
  obtain ⟨a, b⟩ := p
  cases h; rfl
theorem wk1 : writeE 0 [] rw1 = (sw1, 0) := pair0 (p := writeE 0 [] rw1) (by decide +kernel)
theorem wk3 : writeE 3 sw1 rw3 = (sw3, 0) := pair0 (p := writeE 3 sw1 rw3) (by decide +kernel)
theorem wk4 : sw1.length = 1 := by decide +kernel
theorem wk5 : sw3.length = 2 := by decide +kernel
theorem wk6 : readS 1 sw1 = (rec0, 2) := by decide +kernel
theorem wk7 : readS 0 [] = (rec0, 12) := by decide +kernel
theorem wk8 : fitsE 2 rwE = 2 := by decide +kernel
theorem wk9 : fitsE 3 rwO = 2 := by decide +kernel
theorem wk10 : fitsE 6 rw1 = 10 := by decide +kernel
theorem wk11 : readS 0 sw1 = (rw1, 0) := (back rw1_ok wk1).2.1
theorem wk12 : readS 3 sw3 = (rw3, 0) := (back rw3_ok wk3).2.1
theorem wk13 : checkE 0 sw1 = 0 := (back rw1_ok wk1).1
theorem as_read {f : Int} {s : List AcE} {r : Rec} {e : Int} (h : readS f s = (r, e)) : Value.tuple #[(readS f s).1.val, .int .i64 (readS f s).2] = .tuple #[r.val, .int .i64 e] := by rw [h]
theorem as_int {a b : Int} (h : a = b) : Value.int .i64 a = .int .i64 b := congrArg _ h
theorem as_bool {a b : Bool} (h : a = b) : Value.bool a = .bool b := congrArg _ h
set_option maxRecDepth 10000 in
theorem S_works23 {R : List (Nat × Obj)} : PureR Tryz.prog 13 #[] (.bool true) R := by
  refine pureR_of_HC Tryz.func13 rfl rfl fun w => ?_; refine HC_seq fun K1 hK1 => ?_; refine HC_region ?_; refine HL_r rfl rfl rfl rfl (R_assign rfl) ?_; refine HL_nil ?_; refine HQ_then ?_; refine hK1 _ _ _ _ ?_; clear hK1 K1; refine HC_seq fun K2 hK2 => ?_; refine HC_region ?_; refine HL_r rfl rfl rfl rfl (R_build (r := [_, _, _, _]) rfl rfl) ?_; refine HL_r rfl rfl rfl rfl (R_build (r := [_, _, _, _, _, _, _, _, _, _, _, _, _, _, _, _, _]) rfl rfl) ?_; refine HL_alloc (cs := #[_, _, _, _, _, _, _, _, _, _, _, _, _, _, _, _, _]) rfl rfl rfl rfl fun r1 => ?_; refine HL_storeArr (k := 0) (n := 17) (ys := rw1.cells) rfl rfl rfl rfl rfl rfl rfl rfl rfl ?_; refine HL_nil ?_; refine HQ_then ?_; refine hK2 _ _ _ _ ?_; clear hK2 K2; refine HC_seq fun K3 hK3 => ?_; refine HC_region ?_; refine HL_r rfl rfl rfl rfl (R_build (r := [_]) rfl rfl) ?_; refine HL_r rfl rfl rfl rfl (R_loadArr (xs := rw1.cells) (n := 17) rfl (known_L (k := 0) rfl) rfl rfl rfl) ?_; refine HL_callRE rfl rfl rfl (enters_of Tryz.func15 (by kernel_rfl) rfl) (S_Write (R := []) 0 (s := st0L) st0_in (r := rw1) rw1_ok) (fun q hq => nomatch hq) fun x => ?_; refine HL_perm List.perm_append_comm ?_; change HL _ _ ((25, .tuple #[x.s.val, .int .i64 x.err]) :: _) ((r1, _) :: x.L) _ _ _ _
  have hxe : x.err = 0 := (congrArg Prod.snd x.eq).trans (congrArg Prod.snd wk1)
  have hxs : x.s.er = sw1 := (congrArg Prod.fst x.eq).trans (congrArg Prod.fst wk1)
  rw [hxe]; refine HL_r rfl rfl rfl rfl (R_move rfl) ?_; refine HL_r rfl rfl rfl rfl (R_extract rfl rfl) ?_; refine HL_r rfl rfl rfl rfl (R_extract rfl rfl) ?_; refine HL_alloc (cs := #[_]) rfl rfl rfl rfl fun r2 => ?_; refine HL_storeArr (k := 0) (n := 1) (ys := x.s.cells) rfl rfl rfl rfl rfl rfl rfl rfl rfl ?_; refine HL_r rfl rfl rfl rfl (R_assign rfl) ?_; refine HL_nil ?_; refine HQ_then ?_; refine hK3 _ _ _ _ ?_; clear hK3 K3; refine HC_seq fun K4 hK4 => ?_; refine HC_region ?_; refine HL_r rfl rfl rfl rfl (R_loadArr (xs := x.s.cells) (n := 1) rfl (known_L (k := 0) rfl) rfl rfl rfl) ?_; refine HL_callR rfl rfl rfl (enters_of Tryz.func25 (by kernel_rfl) rfl) (S_lRead (R := x.L ++ []) 0 x.ok) (fun q hq => Or.inl (List.mem_cons_of_mem _ (List.mem_cons_of_mem _ (List.append_nil x.L ▸ hq)))) ?_; refine HL_as (as_read (hxs ▸ wk11)) ?_; refine HL_r rfl rfl rfl rfl (R_move rfl) ?_; refine HL_r rfl rfl rfl rfl (R_extract rfl rfl) ?_; refine HL_r rfl rfl rfl rfl (R_extract rfl rfl) ?_; refine HL_alloc (cs := #[_, _, _, _, _, _, _, _, _, _, _, _, _, _, _, _, _]) rfl rfl rfl rfl fun r3 => ?_; refine HL_storeArr (k := 0) (n := 17) (ys := rw1.cells) rfl rfl rfl rfl rfl rfl rfl rfl rfl ?_; refine HL_r rfl rfl rfl rfl (R_assign rfl) ?_; refine HL_nil ?_; refine HQ_then ?_; refine hK4 _ _ _ _ ?_; clear hK4 K4; refine HC_seq fun K5 hK5 => ?_; refine HC_region ?_; refine HL_r rfl rfl rfl rfl (R_loadArr (xs := x.s.cells) (n := 1) rfl (known_L (k := 1) rfl) rfl rfl rfl) ?_; refine HL_callR rfl rfl rfl (enters_of Tryz.func25 (by kernel_rfl) rfl) (S_lRead (R := x.L ++ []) 1 x.ok) (fun q hq => Or.inl (List.mem_cons_of_mem _ (List.mem_cons_of_mem _ (List.mem_cons_of_mem _ (List.append_nil x.L ▸ hq))))) ?_; refine HL_as (as_read (hxs ▸ wk6)) ?_; refine HL_r rfl rfl rfl rfl (R_move rfl) ?_; refine HL_r rfl rfl rfl rfl (R_extract rfl rfl) ?_; refine HL_r rfl rfl rfl rfl (R_extract rfl rfl) ?_; refine HL_alloc (cs := #[_, _, _, _, _, _, _, _, _, _, _, _, _, _, _, _, _]) rfl rfl rfl rfl fun r4 => ?_; refine HL_storeArr (k := 0) (n := 17) (ys := rec0.cells) rfl rfl rfl rfl rfl rfl rfl rfl rfl ?_; refine HL_r rfl rfl rfl rfl (R_assign rfl) ?_; refine HL_nil ?_; refine HQ_then ?_; refine hK5 _ _ _ _ ?_; clear hK5 K5; refine HC_seq fun K6 hK6 => ?_; refine HC_region ?_; refine HL_r rfl rfl rfl rfl (R_loadArr (xs := x.s.cells) (n := 1) rfl (known_L (k := 2) rfl) rfl rfl rfl) ?_; refine HL_r rfl rfl rfl rfl (R_build (r := [_, _, _, _, _, _, _, _, _, _, _, _, _, _, _, _, _]) rfl rfl) ?_; refine HL_callRE rfl rfl rfl (enters_of Tryz.func15 (by kernel_rfl) rfl) (S_Write (R := x.L ++ []) 3 x.ok (r := rw3) rw3_ok) (fun q hq => Or.inl (List.mem_cons_of_mem _ (List.mem_cons_of_mem _ (List.mem_cons_of_mem _ (List.mem_cons_of_mem _ (List.append_nil x.L ▸ hq)))))) fun y => ?_; refine HL_perm (perm_mid y.L [_, _, _, _] x.L) ?_; change HL _ _ ((41, .tuple #[y.s.val, .int .i64 y.err]) :: _) ((r4, _) :: (r3, _) :: (r2, _) :: (r1, _) :: (y.L ++ x.L)) _ _ _ _
  have hye : y.err = 0 := (congrArg Prod.snd y.eq).trans (by rw [hxs, wk3])
  have hys : y.s.er = sw3 := (congrArg Prod.fst y.eq).trans (by rw [hxs, wk3])
  rw [hye]; refine HL_r rfl rfl rfl rfl (R_move rfl) ?_; refine HL_r rfl rfl rfl rfl (R_extract rfl rfl) ?_; refine HL_r rfl rfl rfl rfl (R_extract rfl rfl) ?_; refine HL_alloc (cs := #[_]) rfl rfl rfl rfl fun r5 => ?_; refine HL_storeArr (k := 0) (n := 1) (ys := y.s.cells) rfl rfl rfl rfl rfl rfl rfl rfl rfl ?_; refine HL_r rfl rfl rfl rfl (R_assign rfl) ?_; refine HL_nil ?_; refine HQ_then ?_; refine hK6 _ _ _ _ ?_; clear hK6 K6; refine HC_seq fun K7 hK7 => ?_; refine HC_region ?_; refine HL_r rfl rfl rfl rfl (R_loadArr (xs := y.s.cells) (n := 1) rfl (known_L (k := 0) rfl) rfl rfl rfl) ?_; refine HL_callR rfl rfl rfl (enters_of Tryz.func25 (by kernel_rfl) rfl) (S_lRead (R := y.L ++ (x.L ++ [])) 3 y.ok) (fun q hq => Or.inl (List.mem_cons_of_mem _ (List.mem_cons_of_mem _ (List.mem_cons_of_mem _ (List.mem_cons_of_mem _ (List.mem_cons_of_mem _ ((List.mem_append.1 hq).elim (fun h => List.mem_append_left _ h) fun h => List.mem_append_right _ (List.append_nil x.L ▸ h)))))))) ?_; refine HL_as (as_read (hys ▸ wk12)) ?_; refine HL_r rfl rfl rfl rfl (R_move rfl) ?_; refine HL_r rfl rfl rfl rfl (R_extract rfl rfl) ?_; refine HL_r rfl rfl rfl rfl (R_extract rfl rfl) ?_; refine HL_alloc (cs := #[_, _, _, _, _, _, _, _, _, _, _, _, _, _, _, _, _]) rfl rfl rfl rfl fun r6 => ?_; refine HL_storeArr (k := 0) (n := 17) (ys := rw3.cells) rfl rfl rfl rfl rfl rfl rfl rfl rfl ?_; refine HL_r rfl rfl rfl rfl (R_assign rfl) ?_; refine HL_nil ?_; refine HQ_then ?_; refine hK7 _ _ _ _ ?_; clear hK7 K7; refine HC_seq fun K8 hK8 => ?_; refine HC_region ?_; refine HL_r rfl rfl rfl rfl (R_build (r := [_]) rfl rfl) ?_; refine HL_callR rfl rfl rfl (enters_of Tryz.func25 (by kernel_rfl) rfl) (S_lRead (R := []) 0 (s := st0L) st0_in) (fun q hq => nomatch hq) ?_; refine HL_as (as_read wk7) ?_; refine HL_r rfl rfl rfl rfl (R_move rfl) ?_; refine HL_r rfl rfl rfl rfl (R_extract rfl rfl) ?_; refine HL_r rfl rfl rfl rfl (R_extract rfl rfl) ?_; refine HL_alloc (cs := #[_, _, _, _, _, _, _, _, _, _, _, _, _, _, _, _, _]) rfl rfl rfl rfl fun r7 => ?_; refine HL_storeArr (k := 0) (n := 17) (ys := rec0.cells) rfl rfl rfl rfl rfl rfl rfl rfl rfl ?_; refine HL_r rfl rfl rfl rfl (R_assign rfl) ?_; refine HL_nil ?_; refine HQ_then ?_; refine hK8 _ _ _ _ ?_; clear hK8 K8; refine HC_seq fun K9 hK9 => ?_; refine HC_region ?_; refine HL_callP rfl rfl rfl (enters_of Tryz.func19 (by kernel_rfl) rfl) (P_Code 1 1) ?_; refine HL_as (show _ = Value.tuple #[strV [], .bool false, .int .i64 0] from rfl) ?_; refine HL_r rfl rfl rfl rfl (R_move rfl) ?_; refine HL_r rfl rfl rfl rfl (R_extract rfl rfl) ?_; refine HL_r rfl rfl rfl rfl (R_extract rfl rfl) ?_; refine HL_r rfl rfl rfl rfl (R_extract rfl rfl) ?_; refine HL_r rfl rfl rfl rfl (R_assign rfl) ?_; refine HL_r rfl rfl rfl rfl (R_assign rfl) ?_; refine HL_r rfl rfl rfl rfl (R_assign rfl) ?_; refine HL_nil ?_; refine HQ_then ?_; refine hK9 _ _ _ _ ?_; clear hK9 K9; refine HC_seq fun K10 hK10 => ?_; refine HC_region ?_; refine HL_callP rfl rfl rfl (enters_of Tryz.func19 (by kernel_rfl) rfl) (P_Code 5 0) ?_; refine HL_as (show _ = Value.tuple #[strV cFive, .bool true, .int .i64 0] from rfl) ?_; refine HL_r rfl rfl rfl rfl (R_move rfl) ?_; refine HL_r rfl rfl rfl rfl (R_extract rfl rfl) ?_; refine HL_r rfl rfl rfl rfl (R_extract rfl rfl) ?_; refine HL_r rfl rfl rfl rfl (R_extract rfl rfl) ?_; refine HL_r rfl rfl rfl rfl (R_assign rfl) ?_; refine HL_r rfl rfl rfl rfl (R_assign rfl) ?_; refine HL_r rfl rfl rfl rfl (R_assign rfl) ?_; refine HL_nil ?_; refine HQ_then ?_; refine hK10 _ _ _ _ ?_; clear hK10 K10; refine HC_seq fun K11 hK11 => ?_; refine HC_region ?_; refine HL_r rfl rfl rfl rfl (R_move rfl) ?_; refine HL_r rfl rfl rfl rfl (R_pure rfl rfl rfl) ?_; refine HL_r rfl rfl rfl rfl (R_move rfl) ?_; refine HL_r rfl rfl rfl rfl (R_move rfl) ?_; refine HL_r rfl rfl rfl rfl (R_pure rfl rfl rfl) ?_; refine HL_r rfl rfl rfl rfl (R_pickT rfl rfl) ?_; refine HL_r rfl rfl rfl rfl (R_move rfl) ?_; refine HL_r rfl rfl rfl rfl (R_loadArr (xs := rw1.cells) (n := 17) rfl (known_L (k := 4) rfl) rfl rfl rfl) ?_; refine HL_r rfl rfl rfl rfl (R_loadArr (xs := rw1.cells) (n := 17) rfl (known_L (k := 6) rfl) rfl rfl rfl) ?_; refine HL_r rfl rfl rfl rfl (R_eqStr (xs := (rw1).cells) (ys := (rw1).cells) rfl rfl rfl (by kernel_rfl) (by kernel_rfl) (.scal (by decide) rfl rfl rfl rfl rfl (.scal (by decide) rfl rfl rfl rfl rfl (.arr (by decide) rfl rfl rfl rfl rfl rfl rfl rfl rfl rfl (.arr (by decide) rfl rfl rfl rfl rfl rfl rfl rfl rfl rfl (.arr (by decide) rfl rfl rfl rfl rfl rfl rfl rfl rfl rfl (.scal (by decide) rfl rfl rfl rfl rfl (.scal (by decide) rfl rfl rfl rfl rfl (.scal (by decide) rfl rfl rfl rfl rfl .nil))))))))) ?_; refine HL_as (congrArg Value.bool (rec_eq (rw1) (rw1))) ?_; refine HL_as (as_bool (show decide (rw1 = rw1) = true from decide_eq_true rfl)) ?_; refine HL_r rfl rfl rfl rfl (R_pickT rfl rfl) ?_; refine HL_r rfl rfl rfl rfl (R_move rfl) ?_; refine HL_r rfl rfl rfl rfl (R_move rfl) ?_; refine HL_r rfl rfl rfl rfl (R_pure rfl rfl rfl) ?_; refine HL_r rfl rfl rfl rfl (R_pickT rfl rfl) ?_; refine HL_r rfl rfl rfl rfl (R_move rfl) ?_; refine HL_r rfl rfl rfl rfl (R_move rfl) ?_; refine HL_r rfl rfl rfl rfl (R_pure rfl rfl rfl) ?_; refine HL_r rfl rfl rfl rfl (R_pickT rfl rfl) ?_; refine HL_r rfl rfl rfl rfl (R_move rfl) ?_; refine HL_r rfl rfl rfl rfl (R_move rfl) ?_; refine HL_r rfl rfl rfl rfl (R_pure rfl rfl rfl) ?_; refine HL_r rfl rfl rfl rfl (R_pickT rfl rfl) ?_; refine HL_r rfl rfl rfl rfl (R_move rfl) ?_; refine HL_r rfl rfl rfl rfl (R_loadArr (xs := rw3.cells) (n := 17) rfl (known_L (k := 1) rfl) rfl rfl rfl) ?_; refine HL_r rfl rfl rfl rfl (R_build (r := [_, _, _, _, _, _, _, _, _, _, _, _, _, _, _, _, _]) rfl rfl) ?_; refine HL_r rfl rfl rfl rfl (R_eqStr (xs := (rw3).cells) (ys := (rw3).cells) rfl rfl rfl (by kernel_rfl) (by kernel_rfl) (.scal (by decide) rfl rfl rfl rfl rfl (.scal (by decide) rfl rfl rfl rfl rfl (.arr (by decide) rfl rfl rfl rfl rfl rfl rfl rfl rfl rfl (.arr (by decide) rfl rfl rfl rfl rfl rfl rfl rfl rfl rfl (.arr (by decide) rfl rfl rfl rfl rfl rfl rfl rfl rfl rfl (.scal (by decide) rfl rfl rfl rfl rfl (.scal (by decide) rfl rfl rfl rfl rfl (.scal (by decide) rfl rfl rfl rfl rfl .nil))))))))) ?_; refine HL_as (congrArg Value.bool (rec_eq (rw3) (rw3))) ?_; refine HL_as (as_bool (show decide (rw3 = rw3) = true from decide_eq_true rfl)) ?_; refine HL_r rfl rfl rfl rfl (R_pickT rfl rfl) ?_; refine HL_r rfl rfl rfl rfl (R_move rfl) ?_; refine HL_r rfl rfl rfl rfl (R_move rfl) ?_; refine HL_r rfl rfl rfl rfl (R_pure rfl rfl rfl) ?_; refine HL_r rfl rfl rfl rfl (R_pickT rfl rfl) ?_; refine HL_r rfl rfl rfl rfl (R_move rfl) ?_; refine HL_r rfl rfl rfl rfl (R_move rfl) ?_; refine HL_r rfl rfl rfl rfl (R_strEq (a := []) (b := []) rfl rfl) ?_; refine HL_r rfl rfl rfl rfl (R_pickT rfl rfl) ?_; refine HL_r rfl rfl rfl rfl (R_move rfl) ?_; refine HL_r rfl rfl rfl rfl (R_move rfl) ?_; refine HL_r rfl rfl rfl rfl (R_pure rfl rfl rfl) ?_; refine HL_r rfl rfl rfl rfl (R_pickT rfl rfl) ?_; refine HL_r rfl rfl rfl rfl (R_move rfl) ?_; refine HL_r rfl rfl rfl rfl (R_move rfl) ?_; refine HL_r rfl rfl rfl rfl (R_pure rfl rfl rfl) ?_; refine HL_r rfl rfl rfl rfl (R_pickT rfl rfl) ?_; refine HL_r rfl rfl rfl rfl (R_move rfl) ?_; refine HL_r rfl rfl rfl rfl (R_move rfl) ?_; refine HL_r rfl rfl rfl rfl (R_strEq (a := cFive) (b := cFive) rfl rfl) ?_; refine HL_as (as_bool (show decide (cFive = cFive) = true from decide_eq_true rfl)) ?_; refine HL_r rfl rfl rfl rfl (R_pickT rfl rfl) ?_; refine HL_r rfl rfl rfl rfl (R_move rfl) ?_; refine HL_r rfl rfl rfl rfl (R_move rfl) ?_; refine HL_r rfl rfl rfl rfl (R_pickT rfl rfl) ?_; refine HL_r rfl rfl rfl rfl (R_move rfl) ?_; refine HL_r rfl rfl rfl rfl (R_move rfl) ?_; refine HL_r rfl rfl rfl rfl (R_pure rfl rfl rfl) ?_; refine HL_r rfl rfl rfl rfl (R_pickT rfl rfl) ?_; refine HL_r rfl rfl rfl rfl (R_move rfl) ?_; refine HL_r rfl rfl rfl rfl (R_build (r := [_, _, _, _, _, _, _, _, _, _, _, _, _, _, _, _, _]) rfl rfl) ?_; refine HL_callP rfl rfl rfl (enters_of Tryz.func22 (by kernel_rfl) rfl) (P_Fits 2 rwE) ?_; refine HL_as (as_int wk8) ?_; refine HL_r rfl rfl rfl rfl (R_pure rfl rfl rfl) ?_; refine HL_r rfl rfl rfl rfl (R_pickT rfl rfl) ?_; refine HL_r rfl rfl rfl rfl (R_move rfl) ?_; refine HL_r rfl rfl rfl rfl (R_build (r := [_, _, _, _]) rfl rfl) ?_; refine HL_r rfl rfl rfl rfl (R_build (r := [_, _, _, _, _, _, _, _, _, _, _, _, _, _, _, _, _]) rfl rfl) ?_; refine HL_callP rfl rfl rfl (enters_of Tryz.func22 (by kernel_rfl) rfl) (P_Fits 3 rwO) ?_; refine HL_as (as_int wk9) ?_; refine HL_r rfl rfl rfl rfl (R_pure rfl rfl rfl) ?_; refine HL_r rfl rfl rfl rfl (R_pickT rfl rfl) ?_; refine HL_r rfl rfl rfl rfl (R_move rfl) ?_; refine HL_r rfl rfl rfl rfl (R_loadArr (xs := rw1.cells) (n := 17) rfl (known_L (k := 6) rfl) rfl rfl rfl) ?_; refine HL_callP rfl rfl rfl (enters_of Tryz.func22 (by kernel_rfl) rfl) (P_Fits 6 rw1) ?_; refine HL_as (as_int wk10) ?_; refine HL_r rfl rfl rfl rfl (R_pure rfl rfl rfl) ?_; refine HL_r rfl rfl rfl rfl (R_pickT rfl rfl) ?_; refine HL_r rfl rfl rfl rfl (R_move rfl) ?_; refine HL_callP rfl rfl rfl (enters_of Tryz.func23 (by kernel_rfl) rfl) (P_Addr 0) ?_; refine HL_r rfl rfl rfl rfl (R_lenStr rfl rfl rfl) ?_; refine HL_as (show _ = Value.int .i64 20 from rfl) ?_; refine HL_r rfl rfl rfl rfl (R_pure rfl rfl rfl) ?_; refine HL_r rfl rfl rfl rfl (R_pickT rfl rfl) ?_; refine HL_r rfl rfl rfl rfl (R_move rfl) ?_; refine HL_callP rfl rfl rfl (enters_of Tryz.func23 (by kernel_rfl) rfl) (P_Addr 2) ?_; refine HL_r rfl rfl rfl rfl (R_strEq (a := []) (b := []) rfl rfl) ?_; refine HL_r rfl rfl rfl rfl (R_pickT rfl rfl) ?_; refine HL_r rfl rfl rfl rfl (R_move rfl) ?_; refine HL_r rfl rfl rfl rfl (R_loadArr (xs := x.s.cells) (n := 1) rfl (known_L (k := 5) rfl) rfl rfl rfl) ?_; refine HL_callR rfl rfl rfl (enters_of Tryz.func29 (by kernel_rfl) rfl) (S_lCheck (R := x.L ++ []) 0 x.ok) (fun q hq => Or.inl (List.mem_cons_of_mem _ (List.mem_cons_of_mem _ (List.mem_cons_of_mem _ (List.mem_cons_of_mem _ (List.mem_cons_of_mem _ (List.mem_cons_of_mem _ (List.mem_cons_of_mem _ (List.mem_append_right _ (List.append_nil x.L ▸ hq)))))))))) ?_; refine HL_as (as_int (hxs ▸ wk13)) ?_; refine HL_r rfl rfl rfl rfl (R_pure rfl rfl rfl) ?_; refine HL_r rfl rfl rfl rfl (R_pickT rfl rfl) ?_; refine HL_r rfl rfl rfl rfl (R_move rfl) ?_
  refine HL_r rfl rfl rfl rfl (R_fieldAddr rfl rfl (by first | (simp only [Nat.zero_add, Nat.reduceAdd, Nat.reduceMul, Nat.zero_mul, Nat.mul_one, Nat.add_zero]; exact rfl) | exact rfl)) ?_; refine HL_r rfl rfl rfl rfl (R_load rfl (known_L (k := 5) rfl) rfl rfl) ?_; refine HL_r rfl rfl rfl rfl (R_lenPl rfl x.ok.seg rfl) ?_; refine HL_as (as_int (show _ = (1 : Int) by rw [← x.s.er_len, hxs, wk4]; rfl)) ?_; refine HL_r rfl rfl rfl rfl (R_pure rfl rfl rfl) ?_; refine HL_r rfl rfl rfl rfl (R_pickT rfl rfl) ?_; refine HL_r rfl rfl rfl rfl (R_move rfl) ?_
  refine HL_r rfl rfl rfl rfl (R_fieldAddr rfl rfl (by first | (simp only [Nat.zero_add, Nat.reduceAdd, Nat.reduceMul, Nat.zero_mul, Nat.mul_one, Nat.add_zero]; exact rfl) | exact rfl)) ?_; refine HL_r rfl rfl rfl rfl (R_load rfl (known_L (k := 2) rfl) rfl rfl) ?_; refine HL_r rfl rfl rfl rfl (R_lenPl rfl y.ok.seg rfl) ?_; refine HL_as (as_int (show _ = (2 : Int) by rw [← y.s.er_len, hys, wk5]; rfl)) ?_; refine HL_r rfl rfl rfl rfl (R_pure rfl rfl rfl) ?_; refine HL_r rfl rfl rfl rfl (R_pickT rfl rfl) ?_; refine HL_r rfl rfl rfl rfl (R_assign rfl) ?_; refine HL_nil ?_; refine HQ_then ?_; refine hK11 _ _ _ _ ?_; clear hK11 K11; refine HC_ret ?_; refine HQ_post rfl rfl (.cons (res_tmp rfl) .nil) (fun w1 hs1 => ?_); exact ⟨rfl, hs1.keep⟩
end Go.Proofs.YtnkmbkndpoghdaaGreat
