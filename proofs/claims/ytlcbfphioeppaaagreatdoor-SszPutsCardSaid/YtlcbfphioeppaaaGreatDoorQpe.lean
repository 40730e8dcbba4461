import Derived.Test.YtlcbfphioeppaaaGreatDoorQpd
namespace Go.Proofs.YtlcbfphioeppaaaGreatDoor
set_option linter.all false
open Go.SL Go.RowKit Go.Shelf
/-! ### bitlist, many -/
section
variable {c : Cx} {l : List (Nat × Value)} {L : List (Nat × Obj)} {X : XP} {d : List Deferred} {i : Nat} {t t2 : TypeId} {ps : String} {af : Array Edge} {gd : Option (Nat × Bool)} {ty : TypeId}
theorem R_remV {x y : Operand} {a b : Nat} (hx : evl l x = some (.int .i64 (a : Int))) (hy : evl l y = some (.int .i64 (b : Int))) (h0 : 0 < b) : RunsTo c d l L X ⟨some i, .binOp .rem t x y t2, ty, ps, af, gd⟩ (.int .i64 ((a % b : Nat) : Int)) := fun a' w hf _ => by
  simp only [execOp]; rw [hf.eval hx, hf.eval hy]
  have e1 : ¬ ((b : Int) = 0) := by omega
  simp only [binOp, eqGuard, Op.intDiv, if_neg e1, Sem.run_bind]
  rfl
theorem R_quoV {x y : Operand} {a b : Nat} (hx : evl l x = some (.int .i64 (a : Int))) (hy : evl l y = some (.int .i64 (b : Int))) (h0 : 0 < b) (ha : a ≤ 9223372036854775807) : RunsTo c d l L X ⟨some i, .binOp .quo t x y t2, ty, ps, af, gd⟩ (.int .i64 ((a / b : Nat) : Int)) := fun a' w hf _ => by
  simp only [execOp]; rw [hf.eval hx, hf.eval hy]
  have e1 : ¬ ((b : Int) = 0) := by omega
  have e2 := quo_i64 (a := (a : Int)) (b := (b : Int)) (by omega) (by omega) (by omega)
  simp only [binOp, eqGuard, Op.intDiv, if_neg e1, Sem.run_bind, e2]
  rfl
end
/-- A value that is laid anew. -/
structure VR (v : Vl) : Type where
  x : Vl
  L : List (Nat × Obj)
  ok : x.In L
  er : erV x = v
def blT (n : Int) (s : List UInt8) : Vl × Int := if s.getLast? = none ∨ s.getLast? = some 0 then (v0L, 2) else if n < (topB s (8 * s.length) : Int) then (v0L, 5) else (mkBits (unpackB s (topB s (8 * s.length))), 0)
theorem last_get {s : BS} (h : s ≠ []) : s.getLast? = some (s.getD (s.length - 1) 0) := by
  have hp : 0 < s.length := List.length_pos_iff.2 h
  rw [List.getLast?_eq_getElem?, List.getD_eq_getElem?_getD, List.getElem?_eq_getElem (by omega)]; rfl
theorem blT_nil {n : Int} {s : BS} (h : s = []) : blT n s = (v0L, 2) := by unfold blT; rw [if_pos (.inl (by rw [h]; rfl))]
theorem blT_0 {n : Int} {s : BS} (h : s.getD (s.length - 1) 0 = 0) : blT n s = (v0L, 2) := by
  by_cases h0 : s = []
  · exact blT_nil h0
  · unfold blT; rw [if_pos (.inr (by rw [last_get h0, h]))]
theorem blT_no {s : BS} (h0 : s ≠ []) (h : s.getD (s.length - 1) 0 ≠ 0) : ¬ (s.getLast? = none ∨ s.getLast? = some 0) := by
  rw [last_get h0]
  rintro (h1 | h1)
  · cases h1
  · exact h (Option.some.inj h1)
theorem u8_zero {x : UInt8} : (((x.toNat : Int) != 0) = false) ↔ x = 0 := by
  rw [Z6, ← UInt8.toNat_inj]; exact Int.natCast_eq_zero
theorem unpack_take (s : BS) {m n : Nat} (h : m ≤ n) : (bitsC (unpackB s n)).take m = bitsC (unpackB s m) := by
  unfold bitsC unpackB
  rw [← List.map_take, ← List.map_take, List.take_range, Nat.min_eq_left h]
theorem bitsU_len (s : BS) (n : Nat) : (bitsC (unpackB s n)).length = n := by unfold bitsC; rw [List.length_map, unpackB_len]
theorem bits_at (s : BS) {i n : Nat} (h : i < n) (sp : List Value) : nth (bitsC (unpackB s n) ++ sp) i = some (.bool (bitAt s i)) := by
  rw [nth_eq, List.getElem?_append_left (by rw [bitsU_len]; exact h)]
  unfold bitsC
  rw [List.getElem?_map, unpackB_get s h]; rfl
theorem u0 : U64 0 := by unfold U64; omega
theorem i0 : I64 0 := by unfold I64; omega
theorem bits_in' {s : BS} {r cap m n e : Nat} {sp : List Value} (h : m ≤ n) (hc : n ≤ cap) (h0 : n ≤ 800000) : Vl.In [(r, .cells (bitsC (unpackB s n) ++ sp).toArray e (0, 0))] (.mk 0 0 0 0 (unpackB s m) (some (⟨r, 0, none⟩, cap)) [] none 0) := by
  refine .mk u0 u0 u0 u0 (by rw [unpackB_len]; omega) ?_ (by decide) rfl i0 (fun x hx => nomatch hx); refine ⟨by rw [unpackB_len]; omega, fun _ => ⟨rfl, _, e, (0, 0), List.mem_singleton_self _, ?_⟩⟩; simp only [List.toList_toArray, List.drop_zero]; rw [bitsU_len, List.take_append_of_le_length (by rw [bitsU_len]; exact h), unpack_take s h]
theorem bitsVal (s : BS) (m r cap : Nat) : Vl.val (.mk 0 0 0 0 (unpackB s m) (some (⟨r, 0, none⟩, cap)) [] none 0) = .agg #[.int .u64 0, .int .u64 0, .int .u64 0, .int .u64 0, .slice (some ⟨r, 0, none⟩) m cap, .slice none 0 0, .int .i64 0] := by
  show Value.agg #[uV 0, uV 0, uV 0, uV 0, Value.slice (some ⟨r, 0, none⟩) (unpackB s m).length cap, Value.slice none 0 0, Value.int .i64 0] = _
  rw [unpackB_len]; rfl
theorem bl_bad {n : Int} {s : BS} {v : Value} (hno : ¬ (s.getLast? = none ∨ s.getLast? = some 0)) (hv : decide ((topB s (8 * s.length) : Int) ≤ n) = false ∧ v = wrV 5) : (blT n s).2 ≠ 0 ∧ v = wrV (blT n s).2 := by
  have h : n < (topB s (8 * s.length) : Int) := by have := hv.1; rw [Z2] at this; omega
  have e : (blT n s).2 = 5 := by unfold blT; rw [if_neg hno, if_pos h]
  rw [e]; exact ⟨by decide, hv.2⟩
theorem bl_ok {n : Int} {s : BS} (hno : ¬ (s.getLast? = none ∨ s.getLast? = some 0)) (h : decide ((topB s (8 * s.length) : Int) ≤ n) = true) : blT n s = (mkBits (unpackB s (topB s (8 * s.length))), 0) := by
  have h : ¬ n < (topB s (8 * s.length) : Int) := by rw [Z1] at h; omega
  unfold blT; rw [if_neg hno, if_neg h]
set_option maxRecDepth 10000 in
theorem X_bitlist {k n : Int} {p : Pl} {ins : List Ty} {s : BS} (hl : s.length ≤ 100000) (hn : I64 n) : PureX (α := VR (blT n s).1) Tryz.prog 83 [Ty.val (.mk k n p ins), strV s].toArray ((blT n s).2 = 0) (fun v => (blT n s).2 ≠ 0 ∧ v = wrV (blT n s).2) (fun y => y.x.val) (fun y => y.L) [] := by
  have bad2 : s = [] ∨ s.getD (s.length - 1) 0 = 0 → (blT n s).2 = 2 := fun h => h.elim (fun h => by rw [blT_nil h]) (fun h => by rw [blT_0 h])
  have hbad2 : ∀ {v : Value} {b : Bool}, s = [] ∨ s.getD (s.length - 1) 0 = 0 → b = false ∧ v = wrV 2 → (blT n s).2 ≠ 0 ∧ v = wrV (blT n s).2 := fun h hv => by rw [bad2 h]; exact ⟨by decide, hv.2⟩
  have hT := T_bits (s := s) (n := 8 * s.length) (Nat.le_refl _) hl
  refine pureX_of_HC Tryz.func83 rfl rfl fun w => ?_; refine HC_seq fun K1 hK1 => HC_region ?_; refine HL_box (cs := #[_, _, _]) rfl rfl rfl rfl fun r1 => ?_; refine HL_alloc (cs := #[_, _, _, _, _, _, _]) rfl rfl rfl rfl fun r2 => ?_; refine HL_nil (hK1 _ _ _ _ ?_); refine HC_seq fun K2 hK2 => HC_region ?_; refine HLm rfl (HL_r rfl rfl rfl rfl (R_strNe rfl rfl) (HLm rfl ?_))
  refine HL_case 9 rfl (fun hb3 => ?_) (fun hb3 => ?_) <;> (try simp only [ZZ] at hb3) <;> first | (refine HLm rfl ?_) | (refine HL_skip rfl rfl rfl ?_)
  all_goals first
    | (refine HLm rfl ?_)
    | (refine HL_skip rfl rfl rfl ?_)
  all_goals first
    | (refine HL_r rfl rfl rfl rfl (R_lenBs rfl rfl) ?_)
    | (refine HL_skip rfl rfl rfl ?_)
  all_goals first
    | (have hpos : 0 < s.length := List.length_pos_iff.2 ‹s ≠ []›; refine HLp rfl ?_; refine HL_as (show _ = Value.int .i64 ((s.length - 1 : Nat)) from congrArg (Value.int .i64) (by rw [wrap_i64 (by omega) (by omega)]; omega)) ?_)
    | (refine HL_skip rfl rfl rfl ?_)
  all_goals first
    | (refine HL_r rfl rfl rfl rfl (R_indexBs (j := s.length - 1) rfl rfl rfl rfl (by omega) rfl) ?_)
    | (refine HL_skip rfl rfl rfl ?_)
  all_goals first
    | (refine HLp rfl ?_)
    | (refine HL_skip rfl rfl rfl ?_)
  all_goals first
    | (refine HL_r rfl rfl rfl rfl (R_pickT rfl rfl) ?_)
    | (refine HL_r rfl rfl rfl rfl (R_pickF rfl rfl) ?_)
  all_goals refine HL_callX rfl rfl rfl (enters_of Tryz.func42 (by kernel_rfl) rfl) (X_need (_) 2) (fun q hq => nomatch hq) (fun hok _ => ?_) (fun v hv => HQ_panX rfl rfl (hbad2 (by first | exact .inl ‹_› | exact .inr (u8_zero.1 hv.1)) hv))
  all_goals try exact Bool.noConfusion hok
  refine HL_nil (hK2 _ _ _ _ ?_); refine HC_seq fun K9 hK9 => ?_
  have hne : s ≠ [] := ‹s ≠ []›
  have hpos : 0 < s.length := List.length_pos_iff.2 hne
  have hno := blT_no hne (fun e => by rw [e] at hok; cases hok)
  obtain ⟨q1, q2, q3⟩ := topB_ok hno
  refine HC_region (HLm rfl ?_); refine HLm rfl (HL_r rfl rfl rfl rfl (R_lenBs rfl rfl) (HLp rfl ?_)); refine HL_as (show _ = Value.int .i64 ((8 * s.length : Nat)) from congrArg (Value.int .i64) (by rw [wrap_i64 (by omega) (by omega)]; omega)) ?_; refine HL_callRE rfl rfl rfl (enters_of Tryz.func82 (by kernel_rfl) rfl) hT (fun q hq => nomatch hq) fun x => ?_
  obtain ⟨row, hrow⟩ := x
  match row, hrow with | none, hrow => ?_ | some (ra, cap, sp), hrow => ?_
  all_goals first | exact absurd hrow.1 (by omega) | skip
  refine HLm rfl ?_; refine HL_nil (hK9 _ _ _ _ ?_); refine HC_seq fun K10 hK10 => HC_region ?_; refine HLm rfl (HL_r rfl rfl rfl rfl (R_lenSl rfl rfl) (HLp rfl ?_)); refine HL_as (show _ = Value.int .i64 ((8 * s.length - 1 : Nat)) from congrArg (Value.int .i64) (by rw [wrap_i64 (by omega) (by omega)]; omega)) ?_; refine HLm rfl ?_; refine HL_nil (hK10 _ _ _ _ ?_); refine HC_seq fun K11 hK11 => HC_block ?_; refine HC_loop (σ := Nat) (fun i => topB s (8 * s.length) ≤ i ∧ i < 8 * s.length) (fun i => [(2, pt0 r1), (4, pt0 r2), (5, .slice (some ⟨ra, 0, none⟩) (8 * s.length) cap), (6, .int .i64 (i : Int))]) (fun i => [(ra, .cells (bitsC (unpackB s (8 * s.length)) ++ sp).toArray 4 (0, 0)), vBlk r2 v0L, tBlk r1 (.mk k n p ins)]) (fun _ _ _ => True) (fun i => i) (8 * s.length - 1) ⟨by omega, by omega⟩ (.cons rfl (.cons rfl (.cons rfl (.cons rfl .nil)))) (List.Sublist.refl _) (fun _ _ h => h) ?_; rintro i ⟨hi1, hi2⟩; change HC _ _ _ ((ra, _) :: (r2, _) :: (r1, _) :: []) _ _ _; refine HC_seq fun K12 hK12 => ?_; refine HC_seq fun K13 hK13 => HC_region ?_; refine HLm rfl (HLm rfl (HL_r rfl rfl rfl rfl (R_indexS (j := i) (m := 1) (off' := i) rfl rfl rfl rfl (by omega) (by omega) (by omega)) ?_)); refine HL_r rfl rfl rfl rfl (R_load rfl (known_L (k := 0) rfl) rfl (bits_at s (i := i) (by omega) sp)) ?_; refine HLp rfl ?_; refine HL_nil (hK13 _ _ _ _ ?_); refine HC_cond rfl (fun h14 => ?_) (fun h14 => ?_)
  · try exact Bool.noConfusion h14
    try simp only [ZZ] at h14
    refine HC_skip (hK12 _ _ _ _ ?_); refine HC_block ?_
    have hlt : topB s (8 * s.length) ≠ i := fun e => by rw [e] at q2; rw [q2] at h14; cases h14
    refine HC_region (HLm rfl (HLp rfl ?_)); refine HL_as (show _ = Value.int .i64 ((i - 1 : Nat)) from congrArg (Value.int .i64) (by rw [wrap_i64 (by omega) (by omega)]; omega)) ?_; refine HLm rfl (HL_nil ?_); refine HQ_blockN (HQ_then ?_); exact HQ_again (i - 1) ⟨by omega, by omega⟩ (by omega) (.cons rfl (.cons rfl (.cons rfl (.cons rfl .nil)))) (List.Sublist.refl _) (fun _ _ h => h)
  · try exact Bool.noConfusion h14
    try simp only [ZZ] at h14
    refine HC_exit (HQ_thenE ?_); refine HQ_thenE (HQ_blockE (hK11 _ _ _ _ ?_)); refine HC_seq fun K15 hK15 => ?_
    have hcap : 8 * s.length ≤ cap := by have := hrow.2; omega
    have hL : i = topB s (8 * s.length) := Decidable.byContradiction fun hne => by have := q3 i (by omega) hi2; rw [this] at h14; cases h14
    subst hL; refine HC_region (HLm rfl ?_)
    refine HL_r rfl rfl rfl rfl (R_fieldAddr rfl rfl (by first | (simp only [Nat.zero_add, Nat.reduceAdd, Nat.reduceMul, Nat.zero_mul, Nat.mul_one, Nat.add_zero]; exact rfl) | exact rfl)) ?_; refine HL_r rfl rfl rfl rfl (R_load rfl (known_L (k := 2) rfl) rfl rfl) ?_; refine HLp rfl ?_; refine HL_callX rfl rfl rfl (enters_of Tryz.func42 (by kernel_rfl) rfl) (X_need (_) 5) (fun q hq => nomatch hq) (fun hok _ => ?_) (fun v hv => HQ_panX rfl rfl (bl_bad hno hv)); refine HL_nil (hK15 _ _ _ _ ?_); refine HC_seq fun K16 hK16 => HC_region ?_; refine HLm rfl (HLm rfl ?_)
    refine HL_r rfl rfl rfl rfl (R_sliceSl (kl := none) (kh := some (topB s (8 * s.length))) (km := none) (m := 0) (q := topB s (8 * s.length)) (z := cap) (off' := 0) (sz := 1) rfl rfl rfl trivial ⟨_, rfl⟩ trivial rfl rfl rfl (by omega) (by omega) (Nat.le_refl _) (fun e => nomatch e) (by split <;> omega)) ?_; refine HL_r rfl rfl rfl rfl (R_build (r := [_, _, _, _, _, _, _]) rfl rfl) ?_
    refine HL_storeA (k := 1) (n := 7) (cs' := #[_, _, _, _, _, _, _]) (vs := #[_, _, _, _, _, _, _]) rfl rfl rfl rfl rfl rfl rfl (by exact Nat.le_of_ble_eq_true rfl) rfl (by first | (simp only [List.set_cons_zero, List.set_cons_succ]; exact rfl) | exact rfl) ?_; refine HL_nil (hK16 _ _ _ _ ?_); refine HC_ret ?_; refine HQ_post rfl rfl (.cons (res_cellA (vs := [_, _, _, _, _, _, _]) rfl (known_L (k := 1) rfl) rfl rfl) .nil) (fun w1 hs1 => ?_)
    have hbo := bl_ok hno hok
    refine .inl ⟨by rw [hbo], ⟨.mk 0 0 0 0 (unpackB s (topB s (8 * s.length))) (some (⟨ra, 0, none⟩, cap)) [] none 0, [(ra, .cells (bitsC (unpackB s (8 * s.length)) ++ sp).toArray 4 (0, 0))], bits_in' (by omega) (by omega) (by omega), by rw [hbo, erV_mk, erL]; rfl⟩, congrArg Ending.returned (bitsVal s _ ra cap).symm, hs1.weakL ((List.cons_sublist_cons).2 (List.nil_sublist _))⟩
theorem many_q {k n : Int} {ins : List Ty} {s : BS} {B y : Nat} (h7 : k ≠ 7) (h3 : k ≠ 3) (hs : s ≠ []) (hF : isFix (inTy k 0 ins 0) = true → B = s.length ∧ y = (sizT (inTy k 0 ins 0)).toNat) (hV : isFix (inTy k 0 ins 0) = false → 4 ≤ s.length ∧ leV (s.take 4) ≠ 0 ∧ B = leV (s.take 4) ∧ y = 4) :
    manyT k n ins s = if B % y ≠ 0 then (0, 2) else if n < ((B / y : Nat) : Int) then (0, 5) else (B / y, 0) := by
  unfold manyT
  rw [if_neg h7, if_neg h3, if_neg hs]
  cases h : isFix (inTy k 0 ins 0) with
  | true => obtain ⟨rfl, rfl⟩ := hF h; rw [if_pos rfl]
  | false =>
    obtain ⟨e1, e2, rfl, rfl⟩ := hV h
    rw [if_neg (by simp)]
    by_cases h4 : leV (s.take 4) % 4 ≠ 0
    · rw [if_pos (.inr (.inl h4)), if_pos h4]
    · rw [if_neg (by rintro (h | h | h); omega; exact h4 h; exact e2 h), if_neg h4]
theorem many_v {k n : Int} {ins : List Ty} {s : BS} (h7 : k ≠ 7) (h3 : k ≠ 3) (hs : s ≠ []) (hF : isFix (inTy k 0 ins 0) = false) (h : s.length < 4 ∨ leV (s.take 4) = 0) : (manyT k n ins s).2 = 2 := by
  unfold manyT
  rw [if_neg h7, if_neg h3, if_neg hs, hF, if_neg (by simp), if_pos (by rcases h with h | h; exact .inl h; exact .inr (.inr h))]
theorem many_7 {k n : Int} {ins : List Ty} {s : BS} (h7 : k = 7) : manyT k n ins s = (ins.length, 0) := by unfold manyT; rw [if_pos h7]
theorem many_3 {k n : Int} {ins : List Ty} {s : BS} (h7 : k ≠ 7) (h3 : k = 3) : manyT k n ins s = (n.toNat, 0) := by unfold manyT; rw [if_neg h7, if_pos h3]
theorem many_0 {k n : Int} {ins : List Ty} {s : BS} (h7 : k ≠ 7) (h3 : k ≠ 3) (hs : s = []) : manyT k n ins s = (0, 0) := by unfold manyT; rw [if_neg h7, if_neg h3, if_pos hs]
theorem bad_of {r : Int} {v : Value} {e : Int} {b : Bool} (h : r = e) (he : e ≠ 0) (hv : b = false ∧ v = wrV e) : r ≠ 0 ∧ v = wrV r := by rw [h]; exact ⟨he, hv.2⟩
set_option maxRecDepth 10000 in
theorem X_many {R : List (Nat × Obj)} {k n : Int} {p : Pl} {ins : List Ty} {s : BS} (ht : Ty.In R (.mk k n p ins)) (hc : chk (.mk k n p ins) 0 = 0) (hk3 : k = 3 ∨ k = 4 ∨ k = 7) (hl : s.length ≤ 100000) :
    PureX (α := Unit) Tryz.prog 131 [Ty.val (.mk k n p ins), strV s].toArray ((manyT k n ins s).2 = 0) (fun v => (manyT k n ins s).2 ≠ 0 ∧ v = wrV (manyT k n ins s).2) (fun _ => .int .i64 ((manyT k n ins s).1 : Int)) (fun _ => []) R := by
  obtain ⟨hk8, ho, _, _⟩ := chk_mk hc
  have hsg : Seg R ins.length (tysC ins) p := by cases ht; assumption
  have hin0 : inX k 0 0 < ins.length := by
    unfold okForm at ho
    unfold inX
    rcases hk3 with rfl | rfl | rfl <;> simp at ho ⊢ <;> omega
  obtain ⟨hx0, hxm⟩ := inTy_get hin0
  have hsz := S_ssize (ht.sub _ hxm)
  have hfx := fix_siz (t := inTy k 0 ins 0)
  have hbl := begT_le (inTy k 0 ins 0)
  have hbe := begT_eq (inTy k 0 ins 0)
  obtain ⟨y, hy⟩ : ∃ y : Nat, begT (inTy k 0 ins 0) = (y : Int) := ⟨_, (Int.toNat_of_nonneg (by omega)).symm⟩
  rw [hy] at hsz hbl hbe
  have hnk : k = 3 → 0 ≤ n := fun e => by subst e; unfold okForm at ho; simp at ho; omega
  refine pureX_of_HC Tryz.func131 rfl rfl fun w => ?_; refine HC_seq fun K1 hK1 => HC_region ?_; refine HL_box (cs := #[_, _, _]) rfl rfl rfl rfl fun r1 => ?_; refine HLm rfl ?_; refine HL_nil (hK1 _ _ _ _ ?_); refine HC_seq fun K2 hK2 => HC_block ?_; refine HC_seq fun K3 hK3 => HC_region ?_
  refine HL_r rfl rfl rfl rfl (R_fieldAddr rfl rfl (by first | (simp only [Nat.zero_add, Nat.reduceAdd, Nat.reduceMul, Nat.zero_mul, Nat.mul_one, Nat.add_zero]; exact rfl) | exact rfl)) ?_; refine HL_r rfl rfl rfl rfl (R_load rfl (known_L (k := 0) rfl) rfl rfl) ?_; refine HLp rfl (HLm rfl ?_); refine HL_nil (hK3 _ _ _ _ ?_); refine HC_cond rfl (fun h4 => ?_) (fun h4 => ?_)
  · try exact Bool.noConfusion h4
    try simp only [ZZ] at h4
    refine HC_seq fun K5 hK5 => HC_region ?_
    refine HL_r rfl rfl rfl rfl (R_fieldAddr rfl rfl (by first | (simp only [Nat.zero_add, Nat.reduceAdd, Nat.reduceMul, Nat.zero_mul, Nat.mul_one, Nat.add_zero]; exact rfl) | exact rfl)) ?_; refine HL_r rfl rfl rfl rfl (R_load rfl (known_L (k := 0) rfl) rfl rfl) ?_; refine HL_r rfl rfl rfl rfl (R_lenPl rfl hsg rfl) ?_; refine HLm rfl ?_; refine HL_nil (hK5 _ _ _ _ ?_); refine HC_ret (HQ_blockR (HQ_thenR ?_)); refine HQ_post rfl rfl (.cons (res_tmp rfl) .nil) (fun w1 hs1 => ?_); exact .inl ⟨by rw [many_7 ‹k = 7›], (), by rw [many_7 ‹k = 7›]; rfl, hs1.weakL (List.nil_sublist _)⟩
  · try exact Bool.noConfusion h4
    try simp only [ZZ] at h4
    refine HC_seq fun K6 hK6 => HC_region ?_
    refine HL_r rfl rfl rfl rfl (R_fieldAddr rfl rfl (by first | (simp only [Nat.zero_add, Nat.reduceAdd, Nat.reduceMul, Nat.zero_mul, Nat.mul_one, Nat.add_zero]; exact rfl) | exact rfl)) ?_; refine HL_r rfl rfl rfl rfl (R_load rfl (known_L (k := 0) rfl) rfl rfl) ?_; refine HLp rfl (HLm rfl ?_); refine HL_nil (hK6 _ _ _ _ ?_); refine HC_cond rfl (fun h7 => ?_) (fun h7 => ?_)
    · try exact Bool.noConfusion h7
      try simp only [ZZ] at h7
      refine HC_seq fun K8 hK8 => HC_region ?_
      refine HL_r rfl rfl rfl rfl (R_fieldAddr rfl rfl (by first | (simp only [Nat.zero_add, Nat.reduceAdd, Nat.reduceMul, Nat.zero_mul, Nat.mul_one, Nat.add_zero]; exact rfl) | exact rfl)) ?_; refine HL_r rfl rfl rfl rfl (R_load rfl (known_L (k := 0) rfl) rfl rfl) ?_; refine HL_as (show _ = Value.int .i64 ((n.toNat : Nat) : Int) from congrArg (Value.int .i64) (by have := hnk ‹_›; omega)) ?_; refine HLm rfl ?_; refine HL_nil (hK8 _ _ _ _ ?_); refine HC_ret (HQ_blockR (HQ_thenR ?_)); refine HQ_post rfl rfl (.cons (res_tmp rfl) .nil) (fun w1 hs1 => ?_); exact .inl ⟨by rw [many_3 ‹k ≠ 7› ‹k = 3›], (), by rw [many_3 ‹k ≠ 7› ‹k = 3›]; rfl, hs1.weakL (List.nil_sublist _)⟩
    · try exact Bool.noConfusion h7
      try simp only [ZZ] at h7
      refine HC_seq fun K9 hK9 => HC_region ?_; refine HLm rfl (HL_r rfl rfl rfl rfl (R_strEq rfl rfl) (HLm rfl ?_)); refine HL_nil (hK9 _ _ _ _ ?_); refine HC_cond rfl (fun h10 => ?_) (fun h10 => ?_)
      · try exact Bool.noConfusion h10
        try simp only [ZZ] at h10
        refine HC_seq fun K11 hK11 => HC_region ?_; refine HLm rfl ?_; refine HL_nil (hK11 _ _ _ _ ?_); refine HC_ret (HQ_blockR (HQ_thenR ?_)); refine HQ_post rfl rfl (.cons (res_tmp rfl) .nil) (fun w1 hs1 => ?_); exact .inl ⟨by rw [many_0 ‹k ≠ 7› ‹k ≠ 3› ‹s = []›], (), by rw [many_0 ‹k ≠ 7› ‹k ≠ 3› ‹s = []›]; rfl, hs1.weakL (List.nil_sublist _)⟩
      · try exact Bool.noConfusion h10
        try simp only [ZZ] at h10
        refine HC_skip (HQ_blockN (hK2 _ _ _ _ ?_)); refine HC_seq fun K12 hK12 => ?_
        have h7 : k ≠ 7 := ‹_›
        have h3 : k ≠ 3 := ‹_›
        have hne : s ≠ [] := ‹_›
        have hx00 : ins[0]? = some (inTy k 0 ins 0) := by have := hx0; unfold inX at this; rw [if_neg h7] at this; split at this <;> exact this
        refine HC_region ?_
        refine HL_r rfl rfl rfl rfl (R_fieldAddr rfl rfl (by first | (simp only [Nat.zero_add, Nat.reduceAdd, Nat.reduceMul, Nat.zero_mul, Nat.mul_one, Nat.add_zero]; exact rfl) | exact rfl)) ?_; refine HL_r rfl rfl rfl rfl (R_load rfl (known_L (k := 0) rfl) rfl rfl) ?_
        refine HL_r rfl rfl rfl rfl (R_indexPl (j := 0) rfl hsg rfl rfl rfl (by first | rfl | omega) (by omega)) ?_; refine HL_r rfl rfl rfl rfl (R_loadTy (fun q hq => Or.inr hq) rfl hsg hx00 rfl rfl) ?_; refine HL_callR rfl rfl rfl (enters_of Tryz.func122 (by kernel_rfl) rfl) hsz (fun q hq => Or.inr hq) ?_; refine HLm rfl (HL_r rfl rfl rfl rfl (R_extract rfl rfl) (HL_r rfl rfl rfl rfl (R_extract rfl rfl) ?_)); refine HLm rfl (HLm rfl ?_); refine HL_nil (hK12 _ _ _ _ ?_); refine HC_seq fun K13 hK13 => HC_region ?_; refine HLm rfl (HL_r rfl rfl rfl rfl (R_lenBs rfl rfl) (HLm rfl ?_)); refine HL_nil (hK13 _ _ _ _ ?_); refine HC_seq fun K14 hK14 => ?_; refine HC_seq fun K15 hK15 => HC_region ?_; refine HLm rfl (HLp rfl ?_); refine HL_nil (hK15 _ _ _ _ ?_); refine HC_cond rfl (fun h16 => ?_) (fun h16 => ?_)
        · try exact Bool.noConfusion h16
          try simp only [ZZ] at h16
          refine HC_seq fun K17 hK17 => HC_region ?_; refine HLm rfl (HL_r rfl rfl rfl rfl (R_lenBs rfl rfl) ?_); refine HLp rfl (HLm rfl ?_)
          refine HL_case 39 rfl (fun hb18 => ?_) (fun hb18 => ?_) <;> (try simp only [ZZ] at hb18) <;> first | (refine HLm rfl ?_) | (refine HL_skip rfl rfl rfl ?_)
          all_goals first
            | (refine HL_callP rfl rfl rfl (enters_of Tryz.func132 (by kernel_rfl) rfl) (P_low (s := s) (by omega)) ?_)
            | (refine HL_skip rfl rfl rfl ?_)
          all_goals first
            | (refine HLp rfl ?_)
            | (refine HL_skip rfl rfl rfl ?_)
          all_goals first
            | (refine HL_r rfl rfl rfl rfl (R_pickT rfl rfl) ?_)
            | (refine HL_r rfl rfl rfl rfl (R_pickF rfl rfl) ?_)
          all_goals refine HL_callX rfl rfl rfl (enters_of Tryz.func42 (by kernel_rfl) rfl) (X_need (_) 2) (fun q hq => nomatch hq) (fun hok _ => ?_) (fun v hv => HQ_panX rfl rfl (bad_of (many_v ‹k ≠ 7› ‹k ≠ 3› hne ‹isFix (inTy k 0 ins 0) = false› (by first | exact .inl (by omega) | exact .inr (Int.natCast_eq_zero.1 (Z6.1 hv.1)))) (by decide) hv))
          all_goals try exact Bool.noConfusion hok
          have hl0 := fun e => Z5.1 hok (Int.natCast_eq_zero.2 e)
          refine HL_nil (hK17 _ _ _ _ ?_); refine HC_region (HLm rfl (HL_callP rfl rfl rfl (enters_of Tryz.func132 (by kernel_rfl) rfl) (P_low (s := s) (by omega)) ?_)); refine HLm rfl ?_; refine HL_nil (hK14 _ _ _ _ ?_); refine HC_seq fun K21 hK21 => ?_
          (have hif : isFix (inTy k 0 ins 0) = false := ‹_›
           rw [hif, if_neg (by decide)] at hbe
           have hlt := (unle4 (s := s) (by omega)).2
           have hmq := many_q (n := n) (ins := ins) (B := leV (s.take 4)) (y := y) h7 h3 hne (fun e => by rw [hif] at e; cases e) (fun _ => ⟨by omega, hl0, rfl, by omega⟩)
           obtain ⟨B, hB⟩ : ∃ B, B = leV (s.take 4) := ⟨_, rfl⟩
           have hBl : B ≤ 4294967295 := by omega
           rw [← hB] at hmq ⊢)
          refine HC_region (HLm rfl ?_); refine HLm rfl (HL_r rfl rfl rfl rfl (R_remV (a := B) (b := y) rfl rfl (by omega)) (HLp rfl ?_)); refine HL_callX rfl rfl rfl (enters_of Tryz.func42 (by kernel_rfl) rfl) (X_need (_) 2) (fun q hq => nomatch hq) (fun hok _ => ?_) (fun v hv => HQ_panX rfl rfl (bad_of (by rw [hmq, if_pos (fun e => absurd hv.1 (by rw [e]; decide))]) (by decide) hv))
          have hmod : ¬ B % y ≠ 0 := fun e => e (Int.natCast_eq_zero.1 (Z3.1 hok))
          refine HL_nil (hK21 _ _ _ _ ?_); refine HC_seq fun K22 hK22 => ?_
          refine HC_drawB [] [(0, .pure), (1, .pure), (2, .pure), (3, .pure), (5, .pure)] 6 [0, 1, 2, 3, 4, 5] (by kernel_rfl) (by kernel_rfl) (by first | exact (fun _ h => nomatch h) | simp [SubS] | (intro p hp; simp [hp])) ?_; refine HB_p (k := 0) rfl rfl rfl rfl rfl (fun _ hS => (R_move rfl)) ?_; refine HB_p (k := 1) rfl rfl rfl rfl rfl (fun _ hS => (R_move rfl)) ?_; refine HB_p (k := 2) rfl rfl rfl rfl rfl (fun _ _ => R_quoV (a := B) (b := y) rfl rfl (by omega) (by omega)) ?_
          refine HB_p (k := 3) rfl rfl rfl rfl rfl (fun _ hS => (R_fieldAddr rfl rfl (by first | (simp only [Nat.zero_add, Nat.reduceAdd, Nat.reduceMul, Nat.zero_mul, Nat.mul_one, Nat.add_zero]; exact rfl) | exact rfl))) ?_; refine HB_r (k := 4) rfl rfl rfl rfl rfl (R_load rfl (known_L (k := 0) rfl) rfl rfl) ?_; refine HB_p (k := 5) rfl rfl rfl rfl rfl (fun _ hS => (R_pure rfl rfl rfl)) ?_; refine HB_end ?_; refine HL_callX rfl rfl rfl (enters_of Tryz.func42 (by kernel_rfl) rfl) (X_need (_) 5) (fun q hq => nomatch hq) (fun hok _ => ?_) (fun v hv => HQ_panX rfl rfl (bad_of (by rw [hmq, if_neg hmod, if_pos (by have := Z2.1 hv.1; omega)]) (by decide) hv)); rw [if_neg hmod, if_neg (by have := Z1.mp hok; omega)] at hmq; refine HL_nil (hK22 _ _ _ _ ?_); refine HC_seq fun K23 hK23 => HC_region ?_; refine HLm rfl (HLm rfl (HL_r rfl rfl rfl rfl (R_quoV (a := B) (b := y) rfl rfl (by omega) (by omega)) ?_)); refine HLm rfl ?_; refine HL_nil (hK23 _ _ _ _ ?_); refine HC_ret ?_; refine HQ_post rfl rfl (.cons (res_tmp rfl) .nil) (fun w1 hs1 => ?_); exact .inl ⟨by rw [hmq], (), by rw [hmq]; rfl, hs1.weakL (List.nil_sublist _)⟩
        · try exact Bool.noConfusion h16
          try simp only [ZZ] at h16
          refine HC_skip (hK14 _ _ _ _ ?_); refine HC_seq fun K24 hK24 => ?_
          (have hif : isFix (inTy k 0 ins 0) = true := ‹_›
           rw [if_pos hif] at hbe
           have hmq := many_q (n := n) (ins := ins) (B := s.length) (y := y) h7 h3 hne (fun _ => ⟨rfl, by omega⟩) (fun e => by rw [hif] at e; cases e)
           obtain ⟨B, hB⟩ : ∃ B, B = s.length := ⟨_, rfl⟩
           have hBl : B ≤ 4294967295 := by omega
           rw [← hB] at hmq ⊢)
          refine HC_region (HLm rfl ?_); refine HLm rfl (HL_r rfl rfl rfl rfl (R_remV (a := B) (b := y) rfl rfl (by omega)) (HLp rfl ?_)); refine HL_callX rfl rfl rfl (enters_of Tryz.func42 (by kernel_rfl) rfl) (X_need (_) 2) (fun q hq => nomatch hq) (fun hok _ => ?_) (fun v hv => HQ_panX rfl rfl (bad_of (by rw [hmq, if_pos (fun e => absurd hv.1 (by rw [e]; decide))]) (by decide) hv))
          have hmod : ¬ B % y ≠ 0 := fun e => e (Int.natCast_eq_zero.1 (Z3.1 hok))
          refine HL_nil (hK24 _ _ _ _ ?_); refine HC_seq fun K25 hK25 => ?_
          refine HC_drawB [] [(0, .pure), (1, .pure), (2, .pure), (3, .pure), (5, .pure)] 6 [0, 1, 2, 3, 4, 5] (by kernel_rfl) (by kernel_rfl) (by first | exact (fun _ h => nomatch h) | simp [SubS] | (intro p hp; simp [hp])) ?_; refine HB_p (k := 0) rfl rfl rfl rfl rfl (fun _ hS => (R_move rfl)) ?_; refine HB_p (k := 1) rfl rfl rfl rfl rfl (fun _ hS => (R_move rfl)) ?_; refine HB_p (k := 2) rfl rfl rfl rfl rfl (fun _ _ => R_quoV (a := B) (b := y) rfl rfl (by omega) (by omega)) ?_
          refine HB_p (k := 3) rfl rfl rfl rfl rfl (fun _ hS => (R_fieldAddr rfl rfl (by first | (simp only [Nat.zero_add, Nat.reduceAdd, Nat.reduceMul, Nat.zero_mul, Nat.mul_one, Nat.add_zero]; exact rfl) | exact rfl))) ?_; refine HB_r (k := 4) rfl rfl rfl rfl rfl (R_load rfl (known_L (k := 0) rfl) rfl rfl) ?_; refine HB_p (k := 5) rfl rfl rfl rfl rfl (fun _ hS => (R_pure rfl rfl rfl)) ?_; refine HB_end ?_; refine HL_callX rfl rfl rfl (enters_of Tryz.func42 (by kernel_rfl) rfl) (X_need (_) 5) (fun q hq => nomatch hq) (fun hok _ => ?_) (fun v hv => HQ_panX rfl rfl (bad_of (by rw [hmq, if_neg hmod, if_pos (by have := Z2.1 hv.1; omega)]) (by decide) hv)); rw [if_neg hmod, if_neg (by have := Z1.mp hok; omega)] at hmq; refine HL_nil (hK25 _ _ _ _ ?_); refine HC_seq fun K26 hK26 => HC_region ?_; refine HLm rfl (HLm rfl (HL_r rfl rfl rfl rfl (R_quoV (a := B) (b := y) rfl rfl (by omega) (by omega)) ?_)); refine HLm rfl ?_; refine HL_nil (hK26 _ _ _ _ ?_); refine HC_ret ?_; refine HQ_post rfl rfl (.cons (res_tmp rfl) .nil) (fun w1 hs1 => ?_); exact .inl ⟨by rw [hmq], (), by rw [hmq]; rfl, hs1.weakL (List.nil_sublist _)⟩
end Go.Proofs.YtlcbfphioeppaaaGreatDoor
namespace Go.Proofs.YtlcbfphioeppaaaGreatDoor
set_option linter.all false
open Go.SL Go.RowKit Go.Shelf
/-! ### Where a row's items stand, in plain Lean; items whose yield may panic -/
def pairL : List Ty → Nat → List Nat → List (Ty × Nat × Nat)
  | [], _, _ => []
  | x :: xs, a, os => if isFix x then (x, a, a + (sizT x).toNat) :: pairL xs (a + (sizT x).toNat) os else (x, os.getD 0 0, os.getD 1 0) :: pairL xs (a + 4) os.tail
theorem pairL_len : ∀ (ts : List Ty) (a : Nat) (os : List Nat), (pairL ts a os).length = ts.length
  | [], _, _ => rfl
  | x :: xs, a, os => by rw [pairL]; split <;> rw [List.length_cons, pairL_len xs, List.length_cons]
theorem partL_pair (s : BS) : ∀ (ts : List Ty) (a : Nat) (os : List Nat), partL s ts a os = (pairL ts a os).map fun q => (s.take q.2.2).drop q.2.1
  | [], _, _ => rfl
  | x :: xs, a, os => by
    rw [partL, pairL]
    split
    · rw [List.map_cons, partL_pair s xs]
      congr 1
      simp only
      rw [List.drop_take]
      congr 1; omega
    · rw [List.map_cons, partL_pair s xs]
theorem pairL_tys : ∀ (ts : List Ty) (a : Nat) (os : List Nat), (pairL ts a os).map Prod.fst = ts
  | [], _, _ => rfl
  | x :: xs, a, os => by rw [pairL]; split <;> rw [List.map_cons, pairL_tys xs]
def cV : List Ty → Nat
  | [] => 0
  | x :: xs => if isFix x then cV xs else cV xs + 1
theorem cV_snoc : ∀ (ts : List Ty) (x : Ty), cV (ts ++ [x]) = if isFix x then cV ts else cV ts + 1
  | [], x => rfl
  | y :: ys, x => by
    rw [List.cons_append, cV, cV, cV_snoc ys x]
    by_cases h1 : isFix y = true <;> by_cases h2 : isFix x = true <;> simp [h1, h2]
/-- Where the last open one stands; -1: nowhere. -/
def lastV : List Ty → Int
  | [] => -1
  | x :: xs => if 0 ≤ lastV xs then lastV xs + 1 else if isFix x then -1 else 0
theorem lastV_ge : ∀ ts : List Ty, -1 ≤ lastV ts ∧ lastV ts < ts.length
  | [] => by rw [lastV]; simp
  | x :: xs => by
    have := lastV_ge xs
    rw [lastV, List.length_cons]
    split
    · omega
    · split <;> omega
theorem lastV_snoc : ∀ (ts : List Ty) (x : Ty), lastV (ts ++ [x]) = if isFix x then lastV ts else (ts.length : Int)
  | [], x => rfl
  | y :: ys, x => by
    rw [List.cons_append, lastV, lastV, lastV_snoc ys x]
    by_cases h2 : isFix x = true
    · rw [if_pos h2, if_pos h2]
    · rw [if_neg h2, if_neg h2, if_pos (by omega), List.length_cons]; omega
theorem pairL_fix {x : Ty} (hx : isFix x = true) : ∀ (ts : List Ty) (a : Nat) (os : List Nat), (∀ y ∈ ts, isFix y = true → 0 ≤ sizT y) → ∀ b : Nat, (b : Int) = a + begL ts → pairL (ts ++ [x]) a os = pairL ts a os ++ [(x, b, b + (sizT x).toNat)]
  | [], a, os, _, b, hb => by
    rw [begL] at hb
    have : b = a := by omega
    subst this
    show pairL [x] _ os = [(x, _, _)]
    rw [pairL, if_pos hx, pairL]
  | y :: ys, a, os, hy, b, hb => by
    have hy2 : ∀ z ∈ ys, isFix z = true → 0 ≤ sizT z := fun z hz => hy z (List.mem_cons_of_mem _ hz)
    rw [begL, begT] at hb; rw [List.cons_append, pairL, pairL]
    by_cases hf : isFix y = true
    · have h0 := hy y List.mem_cons_self hf
      rw [if_pos hf] at hb; rw [if_pos hf, if_pos hf, pairL_fix hx ys _ os hy2 b (by omega)]; rfl
    · rw [if_neg hf] at hb
      rw [if_neg hf, if_neg hf, pairL_fix hx ys _ os.tail hy2 b (by omega)]; rfl
theorem pairL_var {x : Ty} (hx : ¬ isFix x = true) (v e : Nat) : ∀ (ts : List Ty) (a : Nat) (pre : List Nat), pre.length = cV ts → pairL (ts ++ [x]) a (pre ++ [v, e]) = pairL ts a (pre ++ [v]) ++ [(x, v, e)]
  | [], a, pre, hp => by
    rw [cV] at hp
    obtain rfl := List.length_eq_zero_iff.1 hp
    show pairL [x] _ [v, e] = [(x, v, e)]
    rw [pairL, if_neg hx, pairL]; rfl
  | y :: ys, a, pre, hp => by
    rw [cV] at hp; rw [List.cons_append, pairL, pairL]
    by_cases hf : isFix y = true
    · rw [if_pos hf] at hp
      rw [if_pos hf, if_pos hf, pairL_var hx v e ys _ pre hp]; rfl
    · rw [if_neg hf] at hp
      rw [if_neg hf, if_neg hf]
      cases pre with
      | nil => simp at hp
      | cons u pre =>
        have hp2 : pre.length = cV ys := by simpa using hp
        have e1 : (u :: pre ++ [v, e]).tail = pre ++ [v, e] := rfl
        have e2 : (u :: pre ++ [v]).tail = pre ++ [v] := rfl
        rw [e1, e2, pairL_var hx v e ys _ pre hp2]
        have e3 : (u :: pre ++ [v, e]).getD 1 0 = (u :: pre ++ [v]).getD 1 0 := by cases pre <;> rfl
        rw [e3]; rfl
theorem pairL_none : ∀ (ts : List Ty) (a : Nat) (os os' : List Nat), lastV ts = -1 → pairL ts a os = pairL ts a os'
  | [], _, _, _, _ => rfl
  | x :: xs, a, os, os', h => by
    rw [lastV] at h
    have := lastV_ge xs
    by_cases h1 : 0 ≤ lastV xs
    · rw [if_pos h1] at h; omega
    · rw [if_neg h1] at h
      by_cases hf : isFix x = true
      · rw [pairL, pairL, if_pos hf, if_pos hf, pairL_none xs _ os os' (by omega)]
      · rw [if_neg hf] at h; omega
theorem cV_pos : ∀ {ts : List Ty}, 0 ≤ lastV ts → 0 < cV ts
  | [], h => by rw [lastV] at h; omega
  | x :: xs, h => by
    rw [lastV] at h; rw [cV]
    by_cases h1 : 0 ≤ lastV xs
    · have := cV_pos h1
      split <;> omega
    · rw [if_neg h1] at h
      split
      · rename_i hf; rw [if_pos hf] at h; omega
      · omega
theorem cV_zero : ∀ {ts : List Ty}, lastV ts = -1 → cV ts = 0
  | [], _ => rfl
  | x :: xs, h => by
    rw [lastV] at h; rw [cV]
    have := lastV_ge xs
    by_cases h1 : 0 ≤ lastV xs
    · rw [if_pos h1] at h; omega
    · rw [if_neg h1] at h
      by_cases hf : isFix x = true
      · rw [if_pos hf]; exact cV_zero (by omega)
      · rw [if_neg hf] at h; omega
/-- The end of the last open one is turned. -/
theorem pairL_to (v e : Nat) : ∀ (ts : List Ty) (a : Nat) (pre : List Nat) (j : Nat), pre.length = cV ts → lastV ts = (j : Int) → ∃ x f, (pairL ts a (pre ++ [e]))[j]? = some (x, f, e) ∧ pairL ts a (pre ++ [v]) = (pairL ts a (pre ++ [e])).set j (x, f, v)
  | [], _, _, j, _, h => by rw [lastV] at h; omega
  | y :: ys, a, pre, j, hp, h => by
    have hge := lastV_ge ys
    rw [cV] at hp; rw [lastV] at h; rw [pairL, pairL]
    by_cases h1 : 0 ≤ lastV ys
    · rw [if_pos h1] at h
      obtain ⟨j', rfl⟩ : ∃ j', j = j' + 1 := ⟨j - 1, by omega⟩
      by_cases hf : isFix y = true
      · rw [if_pos hf] at hp
        obtain ⟨x, f, g1, g2⟩ := pairL_to v e ys (a + (sizT y).toNat) pre j' hp (by omega)
        rw [if_pos hf, if_pos hf]; exact ⟨x, f, by rw [List.getElem?_cons_succ]; exact g1, by rw [List.set_cons_succ, ← g2]⟩
      · rw [if_neg hf] at hp
        cases pre with
        | nil => simp at hp
        | cons u pre =>
          obtain ⟨x, f, g1, g2⟩ := pairL_to v e ys (a + 4) pre j' (by simpa using hp) (by omega)
          rw [if_neg hf, if_neg hf]
          have hpos : 0 < cV ys := cV_pos h1
          have e3 : (u :: pre ++ [v]).getD 1 0 = (u :: pre ++ [e]).getD 1 0 := by
            cases pre with
            | nil => simp at hp; omega
            | cons _ _ => rfl
          rw [e3]; exact ⟨x, f, by rw [List.getElem?_cons_succ]; exact g1, by rw [List.set_cons_succ]; exact congrArg _ g2⟩
    · rw [if_neg h1] at h
      by_cases hf : isFix y = true
      · rw [if_pos hf] at h; omega
      · rw [if_neg hf] at h hp
        have hj : j = 0 := by omega
        subst hj
        have hc0 : cV ys = 0 := cV_zero (by omega)
        cases pre with
        | nil => simp at hp
        | cons u pre =>
          have hn : pre = [] := List.length_eq_zero_iff.1 (by simp at hp; omega)
          subst hn; rw [if_neg hf, if_neg hf]; refine ⟨y, u, rfl, ?_⟩; rw [pairL_none ys (a + 4) (([u] ++ [v]).tail) (([u] ++ [e]).tail) (by omega)]; rfl
def prC (q : Ty × Nat × Nat) : List Value := q.1.cells ++ [.int .i64 (q.2.1 : Int), .int .i64 (q.2.2 : Int)]
def prsC (l : List (Ty × Nat × Nat)) : List Value := l.flatMap prC
theorem prC_len (q : Ty × Nat × Nat) : (prC q).length = 5 := by unfold prC; rw [List.length_append, Ty.len]; rfl
theorem prsC_len (l : List (Ty × Nat × Nat)) : (prsC l).length = l.length * 5 := cat_len prC_len l
theorem prC_to (x : Ty) (f e v : Nat) : (prC (x, f, e)).set 4 (.int .i64 (v : Int)) = prC (x, f, v) := by
  obtain ⟨k, n, p, ins⟩ := x; rfl
theorem prsC_set : ∀ {l : List (Ty × Nat × Nat)} {j : Nat} {x : Ty} {f e : Nat} (v : Nat), l[j]? = some (x, f, e) → (prsC l).set (j * 5 + 4) (.int .i64 (v : Int)) = prsC (l.set j (x, f, v))
  | [], _, _, _, _, _, h => by simp at h
  | q :: l, 0, x, f, e, v, h => by
    cases h
    unfold prsC
    rw [List.set_cons_zero, List.flatMap_cons, List.flatMap_cons, List.set_append_left _ _ (by rw [prC_len]; decide), Nat.zero_mul, Nat.zero_add, prC_to]
  | q :: l, j + 1, x, f, e, v, h => by
    have ih := prsC_set (l := l) v (by simpa using h)
    unfold prsC at ih ⊢
    rw [List.set_cons_succ, List.flatMap_cons, List.flatMap_cons, List.set_append_right _ _ (by rw [prC_len]; omega), prC_len, show (j + 1) * 5 + 4 - 5 = j * 5 + 4 by omega, ih]
theorem prsC_snoc (l : List (Ty × Nat × Nat)) (q : Ty × Nat × Nat) : prsC (l ++ [q]) = prsC l ++ prC q := by unfold prsC; rw [List.flatMap_append]; simp
/-- What parts hands back: where the items stand, and what is wrong. -/
def partsT (k n : Int) (ins : List Ty) (s : BS) : List Nat × Int :=
  if (manyT k n ins s).2 ≠ 0 then ([], (manyT k n ins s).2)
  else if (s.length : Int) < begL (tysN k ins (manyT k n ins s).1) then ([], 2)
  else match offL s (begL (tysN k ins (manyT k n ins s).1)).toNat (tysN k ins (manyT k n ins s).1) 0 (begL (tysN k ins (manyT k n ins s).1)).toNat false with
    | none => ([], 2)
    | some os => (os, 0)
set_option maxRecDepth 10000 in
theorem I_itemsX {R : List (Nat × Obj)} {k n : Int} {p : Pl} {ins : List Ty} {m : Nat} (ht : Ty.In R (.mk k n p ins)) (hm : m ≤ 1000000) (hx : ∀ i, i < m → inX k 0 i < ins.length) (rt ri : Nat) :
    IterX Tryz.prog 189 [pt0 ri, pt0 rt] (iBlk ri m :: tBlk rt (.mk k n p ins) :: R) 0 (nxN (itV k ins) m) (finN m) := by
  refine iterX_of_HC Tryz.func189 rfl rfl fun q xids w2 XI XF pc hY => ?_; refine HC_seq fun K1 hK1 => HC_region ?_; refine HL_r rfl rfl rfl rfl (R_load (v := .int .i64 (m : Int)) rfl (known_R (k := 0) rfl) rfl rfl) ?_; refine HLm rfl ?_; refine HL_nil (hK1 _ _ _ _ ?_); refine HC_block (HC_loop (σ := Nat) (fun i => i ≤ m) (fun i => [(0, .func (.yield q) #[] #[]), (1, pt0 ri), (2, pt0 rt), (5, .int .i64 (m : Int)), (6, .int .i64 (i : Int))]) (fun _ => []) (fun i => XI i) (fun i => m - i) 0 (Nat.zero_le _) (.cons rfl (.cons rfl (.cons rfl (.cons rfl (.cons rfl .nil))))) (List.Sublist.refl _) (fun _ _ h => h) ?_); intro i hi; refine HC_seq fun K2 hK2 => HC_region ?_; refine HLp rfl ?_; refine HL_nil (hK2 _ _ _ _ ?_); refine HC_seq fun K3 hK3 => ?_; refine HC_cond rfl (fun h4 => ?_) (fun h4 => ?_)
  · try exact Bool.noConfusion h4
    try simp only [ZZ] at h4
    refine HC_skip (hK3 _ _ _ _ ?_); refine HC_seq fun K5 hK5 => HC_block ?_; refine HC_seq fun K6 hK6 => HC_region ?_; refine HLm rfl (HLm rfl ?_); refine HL_nil (hK6 _ _ _ _ ?_); refine HC_seq fun K7 hK7 => ?_
    have hil : i < m := by omega
    refine HC_region (HLm rfl ?_); refine HLm rfl (HL_r rfl rfl rfl rfl (R_loadArr (xs := Ty.cells (.mk k n p ins)) (n := 3) rfl (known_R (k := 1) rfl) rfl rfl (Ty.len _)) ?_); refine HLm rfl (HL_callR rfl rfl rfl (enters_of Tryz.func190 (by kernel_rfl) rfl) (S_sin ht (fun _ => Int.le_refl 0) (hx i hil)) (fun q hq => Or.inr (List.mem_cons_of_mem _ (List.mem_cons_of_mem _ hq))) ?_); refine HL_yieldX (XT := XI (i + 1)) (XF := XF) (pc := pc) rfl rfl rfl rfl (hY i (itV k ins i) (i + 1) ⟨hil, rfl, rfl⟩) ?_ ?_ (fun ch hch => HQ_panR fun w1 hs1 => .inr ⟨ch, rfl, hch, hs1.keep⟩)
    all_goals refine HLp rfl ?_
    all_goals refine HL_nil ?_
    all_goals (
     refine hK7 _ _ _ _ ?_; refine HC_cond rfl (fun h8 => ?_) (fun h8 => ?_)
     · try exact Bool.noConfusion h8
       all_goals try simp only [ZZ] at h8
       all_goals (
        refine HC_ret (HQ_blockR (HQ_thenR ?_)); refine HQ_thenR (HQ_blockR ?_); refine HQ_post rfl rfl .nil (fun w1 hs1 => ?_)
        obtain ⟨xs1, hx1⟩ := hs1.now
        exact .inl ⟨⟨_, rfl⟩, hs1.keep, .inr ⟨_, hx1⟩⟩
        skip)
     · try exact Bool.noConfusion h8
       all_goals try simp only [ZZ] at h8
       all_goals (
        refine HC_skip (HQ_blockN (hK5 _ _ _ _ ?_)); refine HC_region ?_
        refine HLp rfl ?_; refine HL_as (show _ = Value.int .i64 ((i + 1 : Nat) : Int) from by rw [wrap_i64 (by omega) (by omega)]; congr 1 <;> omega) ?_; refine HLm rfl (HL_nil (HQ_then ?_)); exact HQ_again (i + 1) (by omega) (by omega) (.cons rfl (.cons rfl (.cons rfl (.cons rfl (.cons rfl .nil))))) (List.Sublist.refl _) (fun _ _ h => h)
        skip)
     skip)
  · try exact Bool.noConfusion h4
    try simp only [ZZ] at h4
    refine HC_exit (HQ_thenE ?_); refine HQ_thenE (HQ_blockE ?_); refine HQ_postN rfl rfl .nil (fun w1 hs1 => ?_)
    obtain ⟨xs1, hx1⟩ := hs1.now
    exact .inl ⟨⟨_, rfl⟩, hs1.keep, .inl ⟨i, _, (by show i = m; omega), hx1⟩⟩
end Go.Proofs.YtlcbfphioeppaaaGreatDoor
namespace Go.Proofs.YtlcbfphioeppaaaGreatDoor
set_option linter.all false
open Go.SL Go.RowKit Go.Shelf
/-! ### parts -/
theorem HCE_sel {c : Cx} {d : List Deferred} {l : List (Nat × Value)} {L : List (Nat × Obj)} {X : XP} {Q : Exit → Act → World → Prop} {code : Code} (js : List Nat) {L' : List (Nat × Obj)} (hn : js.Nodup) (hL : selL L js = L') (h : HCE c d l L' X code Q) : HCE c d l L X code Q := fun a w hf hs => h a w hf (hL ▸ hs.sel js hn)
theorem HQ_roundN {σ τ : Type} {c3 : Cx} {d : List Deferred} {l : List (Nat × Value)} {L : List (Nat × Obj)} {Xb : XP} {I : σ → Prop} {LI : σ → List (Nat × Obj)} {E : Code → τ → Prop} {LE : τ → List (Nat × Obj)} {pc : List PanicEntry → Prop} (s : σ) (h : I s) (hL : L.Sublist (LI s) ∧ (LI s).Sublist L) : HQ c3 d l L Xb (roundQX c3 Xb I LI E LE pc .normal) := fun a w hf hs => ⟨s, h, hs.weakL hL.2⟩
theorem row_some {sz n : Nat} {xs : List Value} {row : Row} (h : rowOk sz n xs row) (h0 : 0 < n) : ∃ r cap sp, row = some (r, cap, sp) := by
  cases row with
  | none => have := h.1; omega
  | some q => obtain ⟨r, cap, sp⟩ := q; exact ⟨r, cap, sp, rfl⟩
def psI (s : BS) (TY : List Ty) (i : Nat) (pre : List Nat) : List (Ty × Nat × Nat) := pairL (TY.take i) 0 (pre ++ [s.length])
structure PInv (s : BS) (H : Nat) (TY : List Ty) (i A la : Nat) (op : Int) (pre : List Nat) : Prop where
  le : i ≤ TY.length
  cv : pre.length = cV (TY.take i)
  opv : op = lastV (TY.take i)
  at_ : (A : Int) = begL (TY.take i)
  off : offL s H TY 0 H false = (offL s H (TY.drop i) A la (decide (0 ≤ op))).map (pre ++ ·)
section
variable {s : BS} {H : Nat} {TY : List Ty} {i A la : Nat} {op : Int} {pre : List Nat} {x : Ty}
theorem PInv.start : PInv s H TY 0 0 H (-1) [] := ⟨Nat.zero_le _, rfl, rfl, rfl, by rw [List.drop_zero, show decide ((0 : Int) ≤ -1) = false from rfl]; cases offL s H TY 0 H false <;> rfl⟩
theorem take_snoc' {α : Type} {l : List α} {i : Nat} {x : α} (h : l[i]? = some x) : l.take (i + 1) = l.take i ++ [x] := by rw [List.take_add_one, h]; rfl
theorem drop_cons' {α : Type} {l : List α} {i : Nat} {x : α} (h : l[i]? = some x) : l.drop i = x :: l.drop (i + 1) := by
  obtain ⟨h1, rfl⟩ := List.getElem?_eq_some_iff.1 h
  exact List.drop_eq_getElem_cons h1
theorem begL_nn (l : List Ty) : 0 ≤ begL l := (begL_le l).1
theorem PInv.bound (h : PInv s H TY i A la op pre) (hx : TY[i]? = some x) (hH : begL TY = (H : Int)) : (A : Int) + begT x ≤ H := by
  have e : TY = TY.take i ++ (x :: TY.drop (i + 1)) := by rw [← drop_cons' hx, List.take_append_drop]
  rw [e, begL_app, begL] at hH
  have := begL_nn (TY.drop (i + 1))
  have := h.at_
  omega
theorem PInv.len (h : PInv s H TY i A la op pre) : (psI s TY i pre).length = i := by unfold psI; rw [pairL_len, List.length_take, Nat.min_eq_left h.le]
theorem PInv.fix (h : PInv s H TY i A la op pre) (hx : TY[i]? = some x) (hf : isFix x = true) (hz : ∀ y ∈ TY, isFix y = true → 0 ≤ sizT y) : PInv s H TY (i + 1) (A + (sizT x).toNat) la op pre ∧ psI s TY (i + 1) pre = psI s TY i pre ++ [(x, A, A + (sizT x).toNat)] := by
  have h0 := hz x (List.mem_of_getElem? hx) hf
  have hlt := (List.getElem?_eq_some_iff.1 hx).1
  have h1 := h.off
  rw [drop_cons' hx, offL, if_pos hf] at h1; refine ⟨⟨hlt, ?_, ?_, ?_, h1⟩, ?_⟩
  · rw [take_snoc' hx, cV_snoc, if_pos hf]; exact h.cv
  · rw [take_snoc' hx, lastV_snoc, if_pos hf]; exact h.opv
  · rw [take_snoc' hx, begL_app, begL, begL, begT, if_pos hf, ← h.at_]; omega
  · unfold psI
    rw [take_snoc' hx, pairL_fix hf _ 0 _ (fun y hy => hz y (List.mem_of_mem_take hy)) A (by rw [h.at_]; simp)]
theorem PInv.bad (h : PInv s H TY i A la op pre) (hx : TY[i]? = some x) (hf : isFix x = false) {v : Nat} (hv : v = leV ((s.drop A).take 4)) (hb : (¬ 0 ≤ op ∧ v ≠ H) ∨ v < la ∨ s.length < v) : offL s H TY 0 H false = none := by
  subst hv
  rw [h.off, drop_cons' hx, offL, if_neg (by rw [hf]; decide), if_pos (by
    rcases hb with ⟨h1, h2⟩ | h1
    · exact .inl ⟨by simp [h1], h2⟩
    · exact .inr h1)]
  rfl
theorem PInv.var (h : PInv s H TY i A la op pre) (hx : TY[i]? = some x) (hf : isFix x = false) {v : Nat} (hv : v = leV ((s.drop A).take 4)) (h1 : 0 ≤ op ∨ v = H) (h2 : la ≤ v) (h3 : v ≤ s.length) :
    PInv s H TY (i + 1) (A + 4) v i (pre ++ [v]) ∧ (op = -1 → psI s TY (i + 1) (pre ++ [v]) = psI s TY i pre ++ [(x, v, s.length)]) ∧
      (∀ j : Nat, op = (j : Int) → ∃ x0 f0, (psI s TY i pre)[j]? = some (x0, f0, s.length) ∧ psI s TY (i + 1) (pre ++ [v]) = (psI s TY i pre).set j (x0, f0, v) ++ [(x, v, s.length)]) := by
  have hlt := (List.getElem?_eq_some_iff.1 hx).1
  have hn : ¬ isFix x = true := by rw [hf]; decide
  have hlv : leV ((s.drop A).take 4) = v := hv.symm
  have ho := h.off
  rw [drop_cons' hx, offL, if_neg hn, hlv, if_neg (by
    rintro (⟨g1, g2⟩ | g | g)
    · simp only [decide_eq_false_iff_not] at g1; omega
    · omega
    · omega), Option.map_map] at ho
  have hps : psI s TY (i + 1) (pre ++ [v]) = pairL (TY.take i) 0 (pre ++ [v]) ++ [(x, v, s.length)] := by
    unfold psI
    rw [take_snoc' hx, List.append_assoc]; exact pairL_var hn v s.length _ 0 pre h.cv
  refine ⟨⟨hlt, ?_, ?_, ?_, ?_⟩, fun e => ?_, fun j e => ?_⟩
  · rw [take_snoc' hx, cV_snoc, if_neg hn, List.length_append, h.cv]; rfl
  · rw [take_snoc' hx, lastV_snoc, if_neg hn, List.length_take, Nat.min_eq_left h.le]
  · rw [take_snoc' hx, begL_app, begL, begL, begT, if_neg hn, ← h.at_]; omega
  · rw [ho, show decide (0 ≤ (i : Int)) = true by simp]
    congr 1
    funext r
    simp
  · rw [hps, pairL_none _ 0 (pre ++ [v]) (pre ++ [s.length]) (by rw [← h.opv]; exact e)]; rfl
  · obtain ⟨x0, f0, g1, g2⟩ := pairL_to v s.length (TY.take i) 0 pre j h.cv (by rw [← h.opv]; exact e)
    exact ⟨x0, f0, g1, by rw [hps, g2]; rfl⟩
theorem PInv.done (h : PInv s H TY TY.length A la op pre) : psI s TY TY.length pre = pairL TY 0 (pre ++ [s.length]) ∧ offL s H TY 0 H false = if ¬ 0 ≤ op ∧ H ≠ s.length then none else some (pre ++ [s.length]) := by
  refine ⟨by unfold psI; rw [List.take_length], ?_⟩; rw [h.off, List.drop_length, offL]
  by_cases hc : ¬ 0 ≤ op ∧ H ≠ s.length
  · rw [if_pos hc, if_pos ⟨by simp [hc.1], hc.2⟩]; rfl
  · rw [if_neg hc, if_neg (by rintro ⟨g1, g2⟩; exact hc ⟨by simpa using g1, g2⟩)]; rfl
end
abbrev psT (k n : Int) (ins : List Ty) (s : BS) : List (Ty × Nat × Nat) := pairL (tysN k ins (manyT k n ins s).1) 0 (partsT k n ins s).1
section
variable {k n : Int} {ins : List Ty} {s : BS} {M H : Nat}
theorem parts_m (h : (manyT k n ins s).2 ≠ 0) : (partsT k n ins s).2 = (manyT k n ins s).2 := by unfold partsT; rw [if_pos h]
theorem parts_h (h0 : (manyT k n ins s).2 = 0) (hM : M = (manyT k n ins s).1) (hH : begL (tysN k ins M) = (H : Int)) (h : s.length < H) : (partsT k n ins s).2 = 2 := by
  unfold partsT; rw [if_neg (by rw [h0]; decide), ← hM, hH, if_pos (by omega)]
theorem parts_o (h0 : (manyT k n ins s).2 = 0) (hM : M = (manyT k n ins s).1) (hH : begL (tysN k ins M) = (H : Int)) (h : H ≤ s.length) : partsT k n ins s = match offL s H (tysN k ins M) 0 H false with | none => ([], 2) | some os => (os, 0) := by
  unfold partsT; rw [if_neg (by rw [h0]; decide), ← hM, hH, if_neg (by omega), Int.toNat_natCast]
  all_goals (cases offL s H (tysN k ins M) 0 H false <;> rfl)
theorem parts_n (h0 : (manyT k n ins s).2 = 0) (hM : M = (manyT k n ins s).1) (hH : begL (tysN k ins M) = (H : Int)) (h : H ≤ s.length) (ho : offL s H (tysN k ins M) 0 H false = none) : (partsT k n ins s).2 = 2 := by
  rw [parts_o h0 hM hH h, ho]
end
set_option maxRecDepth 20000 in
set_option maxHeartbeats 2000000 in
theorem X_parts {R : List (Nat × Obj)} {k n : Int} {p : Pl} {ins : List Ty} {s : BS} (ht : Ty.In R (.mk k n p ins)) (hc : chk (.mk k n p ins) 0 = 0) (hk3 : k = 3 ∨ k = 4 ∨ k = 7) (hl : s.length ≤ 100000) :
    PureX (α := { row : Row // rowOk 5 (psT k n ins s).length (prsC (psT k n ins s)) row }) Tryz.prog 84 [Ty.val (.mk k n p ins), strV s].toArray ((partsT k n ins s).2 = 0) (fun v => (partsT k n ins s).2 ≠ 0 ∧ v = wrV (partsT k n ins s).2) (fun x => rowV (psT k n ins s).length x.1) (fun x => rowL 95 (prsC (psT k n ins s)) x.1) R := by
  obtain ⟨hk8, ho, _, _⟩ := chk_mk hc
  have hmny := X_many ht hc hk3 hl
  have hmok := many_ok (s := s) hk8 ho hk3
  have hmX := inX_many (s := s) hk8 ho hk3
  obtain ⟨M, hM⟩ : ∃ M, M = (manyT k n ins s).1 := ⟨_, rfl⟩
  rw [← hM] at hmny hmok hmX
  obtain ⟨TY, hTY⟩ : ∃ TY, TY = tysN k ins M := ⟨_, rfl⟩
  have hTl : TY.length = M := by rw [hTY, tysN_len]
  have hzz : ∀ z ∈ TY, isFix z = true → 0 ≤ sizT z := fun z _ hz => by have := fix_siz hz; omega
  have hbl := begL_nn TY
  obtain ⟨H, hH⟩ : ∃ H, H = (begL TY).toNat := ⟨_, rfl⟩
  have hHi : begL TY = (H : Int) := by omega
  have hHi' : begL (tysN k ins M) = (H : Int) := by rw [← hTY]; exact hHi
  refine pureX_of_HCE Tryz.func84 rfl rfl fun w => ?_; refine HCE_seqC fun K1 hK1 => ?_; refine HC_region (HL_box (cs := #[_, _, _]) rfl rfl rfl rfl fun r1 => (HL_box (cs := #[_]) rfl rfl rfl rfl fun r2 => ?_)); refine HLm rfl ?_; refine HL_nil (hK1 _ _ _ _ ?_); refine HCE_seqC fun K2 hK2 => ?_; refine HC_region (HL_r rfl rfl rfl rfl (R_loadA (vs := [_, _, _]) rfl (known_L (k := 1) rfl) rfl rfl rfl rfl) (HL_r rfl rfl rfl rfl (R_load rfl (known_L (k := 0) rfl) rfl rfl) ?_)); refine HL_callX rfl rfl rfl (enters_of Tryz.func131 (by kernel_rfl) rfl) hmny (fun q hq => Or.inr hq) (fun hm0 _ => ?_) (fun v hv => HQ_panX rfl rfl (by rw [parts_m hv.1]; exact hv))
  have hM5 := (hmok hm0).1
  have hX := hmX hm0
  have hti := fun i (h : i < M) => ht.sub _ (inTy_get (hX i h)).2
  have hbg := S_sbegin ht (m := M) (by omega) hX
  rw [hHi'] at hbg; refine HLm rfl ?_; refine HL_nil (hK2 _ _ _ _ ?_); refine HCE_seqC fun K3 hK3 => ?_; refine HC_region (HL_r rfl rfl rfl rfl (R_loadA (vs := [_, _, _]) rfl (known_L (k := 1) rfl) rfl rfl rfl rfl) ?_); refine HLm rfl (HL_callR rfl rfl rfl (enters_of Tryz.func120 (by kernel_rfl) rfl) hbg (fun q hq => Or.inr hq) (HL_alloc (cs := #[_]) rfl rfl rfl rfl fun r3 => ?_))
  refine HL_store (k := 0) rfl rfl rfl rfl rfl rfl rfl rfl (by first | (simp only [List.setIfInBounds_toArray, List.set_cons_zero, List.set_cons_succ]; exact rfl) | exact rfl) (by first | (simp only [List.set_cons_zero, List.set_cons_succ]; exact rfl) | exact rfl) ?_; refine HL_nil (hK3 _ _ _ _ ?_); refine HCE_seqC fun K4 hK4 => ?_; refine HC_region (HL_r rfl rfl rfl rfl (R_load rfl (known_L (k := 0) rfl) rfl rfl) (HL_r rfl rfl rfl rfl (R_load rfl (known_L (k := 1) rfl) rfl rfl) ?_)); refine HL_r rfl rfl rfl rfl (R_lenBs rfl rfl) ?_; refine HLp rfl ?_; refine HL_callX rfl rfl rfl (enters_of Tryz.func42 (by kernel_rfl) rfl) (X_need (_) 2) (fun q hq => nomatch hq) (fun hok _ => ?_) (fun v hv => HQ_panX rfl rfl (bad_of (parts_h hm0 hM hHi' (by have := Z2.1 hv.1; omega)) (by decide) hv))
  have hHl : H ≤ s.length := by have := Z1.mp hok; omega
  refine HL_nil (hK4 _ _ _ _ ?_); refine HCE_seqC fun K5 hK5 => ?_; refine HC_region (HL_alloc (cs := #[_]) rfl rfl rfl rfl fun r4 => ?_); refine HL_nil (hK5 _ _ _ _ ?_); refine HCE_seqC fun K6 hK6 => ?_
  refine HC_drawB [(r3, .cells #[.int .i64 (H : Int)] 3 (0, 0))] [(0, .pure), (1, .grow (geNew ptrV (.cells #[.int .i64 0] 3 (0, 0)))), (2, .grow (geNew ptrV (.cells #[.int .i64 0] 3 (0, 0)))), (3, .grow (geNew ptrV (.cells #[.int .i64 0] 3 (0, 0)))), (4, .turn), (5, .turn), (6, .turn)] 7 [0, 1, 2, 3, 4, 5, 6] (by kernel_rfl) (by kernel_rfl) (by first | exact (fun _ h => absurd h List.not_mem_nil) | simp [SubS] | (intro p hp; simp [hp])) ?_; refine HB_p (k := 0) rfl rfl rfl rfl rfl (fun _ hS => (R_load rfl (.inl (hS _ (mem_nth (n := 0) rfl))) rfl rfl)) ?_; refine HB_alloc (k := 1) (cs := #[_]) rfl rfl rfl rfl rfl rfl fun r5 => ?_; refine HB_alloc (k := 2) (cs := #[_]) rfl rfl rfl rfl rfl rfl fun r6 => ?_; refine HB_alloc (k := 3) (cs := #[_]) rfl rfl rfl rfl rfl rfl fun r7 => ?_
  refine HB_store (k := 4) (q := 2) rfl rfl rfl rfl rfl rfl rfl rfl rfl (by first | (simp only [List.setIfInBounds_toArray, List.set_cons_zero, List.set_cons_succ]; exact rfl) | exact rfl) (by first | (simp only [List.set_cons_zero, List.set_cons_succ]; exact rfl) | exact rfl) (by first | exact (fun _ h => absurd h List.not_mem_nil) | simp [SubS] | (intro p hp; simp [hp])) ?_
  refine HB_store (k := 5) (q := 1) rfl rfl rfl rfl rfl rfl rfl rfl rfl (by first | (simp only [List.setIfInBounds_toArray, List.set_cons_zero, List.set_cons_succ]; exact rfl) | exact rfl) (by first | (simp only [List.set_cons_zero, List.set_cons_succ]; exact rfl) | exact rfl) (by first | exact (fun _ h => absurd h List.not_mem_nil) | simp [SubS] | (intro p hp; simp [hp])) ?_
  refine HB_store (k := 6) (q := 0) rfl rfl rfl rfl rfl rfl rfl rfl rfl (by first | (simp only [List.setIfInBounds_toArray, List.set_cons_zero, List.set_cons_succ]; exact rfl) | exact rfl) (by first | (simp only [List.set_cons_zero, List.set_cons_succ]; exact rfl) | exact rfl) (by first | exact (fun _ h => absurd h List.not_mem_nil) | simp [SubS] | (intro p hp; simp [hp])) ?_; refine HB_end ?_; refine HL_nil (hK6 _ _ _ _ ?_); refine HCE_seq fun K7 hK7 => ?_; refine HCE_seqC fun K8 hK8 => ?_; refine HC_region (HL_r rfl rfl rfl rfl (R_loadA (vs := [_, _, _]) rfl (known_L (k := 6) rfl) rfl rfl rfl rfl) ?_); refine HLm rfl (HL_callPE rfl rfl rfl (enters_of Tryz.func121 (by kernel_rfl) rfl) (E_items (.mk k n p ins) (M : Int)) fun pp => ?_)
  obtain ⟨ra, rb⟩ := pp
  change HL _ _ _ (iBlk rb M :: tBlk ra (.mk k n p ins) :: _) _ _ _ _; refine HL_nil (hK8 _ _ _ _ ?_); refine HCE_block ?_; refine HCE_sel [4, 3, 2, 5, 0, 1, 6, 7, 8] (L' := [_, _, _, _, _, _, _, _, _]) (by decide) rfl ?_
  refine HC_rangeX (τ := Unit) (fun ch => ∃ v, ((partsT k n ins s).2 ≠ 0 ∧ v = wrV (partsT k n ins s).2) ∧ ch = panE v) (fun i (q : Nat × Nat × Nat × Int × Row × List Nat) => q.1 = i ∧ PInv s H TY q.1 q.2.1 q.2.2.1 q.2.2.2.1 q.2.2.2.2.2 ∧ rowOk 5 q.1 (prsC (psI s TY q.1 q.2.2.2.2.2)) q.2.2.2.2.1) (fun q => (r5, .cells #[.int .i64 (q.2.1 : Int)] 3 (0, 0)) :: (r6, .cells #[.int .i64 (q.2.2.1 : Int)] 3 (0, 0)) :: (r7, .cells #[.int .i64 q.2.2.2.1] 3 (0, 0)) :: (r4, .cells #[rowV q.1 q.2.2.2.2.1] 92 (0, 0)) :: rowL 95 (prsC (psI s TY q.1 q.2.2.2.2.2)) q.2.2.2.2.1) (fun _ _ => False) (fun _ => []) [iBlk rb M, tBlk ra (.mk k n p ins), _, _, _] (0, 0, H, -1, none, []) rfl rfl (enters_of Tryz.func189 (by kernel_rfl) rfl) (I_itemsX ht (by omega) hX ra rb) (by rintro _ _ _ ⟨_, rfl, _⟩; rfl) rfl (fun q hq => by rcases List.mem_cons.1 hq with rfl | hq; exact .inl (by simp); rcases List.mem_cons.1 hq with rfl | hq; exact .inl (by simp); exact .inr hq) rfl ⟨rfl, PInv.start, rfl, rfl⟩ ?_ ?_ ?_ ?_
  · rintro q Xr Xb w3 i _ _ ⟨i2, A, la, op, row, pre⟩ ⟨hii, rfl, rfl⟩ ⟨he, hinv, hrow⟩ Kr hKr
    simp only at he hinv hrow; subst he
    have hti1 := hti i2 hii
    have hxx : TY[i2]? = some (inTy k 0 ins i2) := by rw [hTY]; unfold tysN; rw [List.getElem?_map, List.getElem?_range hii]; rfl
    have hsz := S_ssize hti1
    have hbd := hinv.bound hxx hHi
    have hbt := begT_le (inTy k 0 ins i2)
    have hbe := begT_eq (inTy k 0 ins i2)
    unfold itV
    obtain ⟨x, hx⟩ : ∃ x, x = inTy k 0 ins i2 := ⟨_, rfl⟩
    rw [← hx] at hti1 hxx hsz hbd hbt hbe ⊢
    obtain ⟨y, hy⟩ : ∃ y : Nat, begT x = (y : Int) := ⟨_, (Int.toNat_of_nonneg (by omega)).symm⟩
    rw [hy] at hsz hbd hbt hbe
    obtain ⟨xk, xn, xp, xi⟩ := x
    refine HC_seq fun K9 hK9 => HC_region ?_; refine HLm rfl ?_; refine HL_nil (hK9 _ _ _ _ ?_); refine HC_region (HL_alloc (cs := #[_, _, _]) rfl rfl rfl rfl fun r8 => ?_)
    refine HL_storeA (k := 0) (n := 3) (cs' := #[_, _, _]) (vs := #[_, _, _]) rfl rfl rfl rfl rfl rfl rfl (by exact Nat.le_of_ble_eq_true rfl) rfl (by first | (simp only [List.set_cons_zero, List.set_cons_succ]; exact rfl) | exact rfl) ?_; refine HL_nil ?_; refine hKr _ _ ?_; clear hKr; refine HC_block (HC_seq fun K10 hK10 => HC_region (HL_r rfl rfl rfl rfl (R_loadArr (xs := Ty.cells (.mk xk xn xp xi)) (n := 3) rfl (known_L (k := 0) rfl) rfl rfl (Ty.len _)) ?_)); refine HL_callR rfl rfl rfl (enters_of Tryz.func122 (by kernel_rfl) rfl) hsz (fun q hq => Or.inr (List.mem_append_right _ hq)) ?_; refine HLm rfl (HL_r rfl rfl rfl rfl (R_extract rfl rfl) (HL_r rfl rfl rfl rfl (R_extract rfl rfl) ?_)); refine HLm rfl (HLm rfl ?_); refine HL_nil (hK10 _ _ _ _ ?_); refine HC_seq fun K11 hK11 => HC_region ?_; refine HL_r rfl rfl rfl rfl (R_loadArr (xs := Ty.cells (.mk xk xn xp xi)) (n := 3) rfl (known_L (k := 0) rfl) rfl rfl (Ty.len _)) ?_; refine HL_r rfl rfl rfl rfl (R_load rfl (known_L (k := 1) rfl) rfl rfl) ?_; refine HL_r rfl rfl rfl rfl (R_load rfl (known_L (k := 1) rfl) rfl rfl) ?_; refine HLm rfl (HLp rfl ?_); refine HL_as (show _ = Value.int .i64 ((A + y : Nat)) from congrArg (Value.int .i64) (by rw [wrap_i64 (by omega) (by omega)]; omega)) ?_; refine HL_r rfl rfl rfl rfl (R_build (r := [_, _, _, _, _]) rfl rfl) ?_; refine HL_alloc (cs := #[_, _, _, _, _]) rfl rfl rfl rfl fun r9 => ?_
    refine HL_storeA (k := 0) (n := 5) (cs' := #[_, _, _, _, _]) (vs := #[_, _, _, _, _]) rfl rfl rfl rfl rfl rfl rfl (by exact Nat.le_of_ble_eq_true rfl) rfl (by first | (simp only [List.set_cons_zero, List.set_cons_succ]; exact rfl) | exact rfl) ?_; refine HL_nil (hK11 _ _ _ _ ?_); refine HC_seq fun K12 hK12 => ?_; refine HC_seq fun K13 hK13 => HC_region ?_; refine HLm rfl (HLp rfl ?_); refine HL_nil (hK13 _ _ _ _ ?_); refine HC_cond rfl (fun h14 => ?_) (fun h14 => ?_)
    · try exact Bool.noConfusion h14
      try simp only [ZZ] at h14
      refine HC_seq fun K15 hK15 => ?_
      have hff : isFix (Ty.mk xk xn xp xi) = false := ‹_›
      rw [hff, if_neg (by decide)] at hbe; refine HC_region (HL_r rfl rfl rfl rfl (R_load rfl (known_R (k := 3) rfl) rfl rfl) (HL_r rfl rfl rfl rfl (R_load rfl (known_L (k := 2) rfl) rfl rfl) ?_)); refine HL_r rfl rfl rfl rfl (R_sliceBs (kl := some (.i64, (A : Int))) (kh := none) (m := A) (n := s.length) rfl rfl rfl rfl rfl rfl (by omega) (by omega) (show _ = s.drop A from by rw [List.take_length])) ?_; refine HL_callP rfl rfl rfl (enters_of Tryz.func132 (by kernel_rfl) rfl) (P_low (s := s.drop A) (by rw [List.length_drop]; omega)) ?_
      obtain ⟨v, hv⟩ : ∃ v, v = leV ((s.drop A).take 4) := ⟨_, rfl⟩
      rw [← hv]
      refine HL_r rfl rfl rfl rfl (R_fieldAddr rfl rfl (by first | (simp only [Nat.zero_add, Nat.reduceAdd, Nat.reduceMul, Nat.zero_mul, Nat.mul_one, Nat.add_zero]; exact rfl) | exact rfl)) ?_
      refine HL_store (k := 0) rfl rfl rfl rfl rfl rfl rfl rfl (by first | (simp only [List.setIfInBounds_toArray, List.set_cons_zero, List.set_cons_succ]; exact rfl) | exact rfl) (by first | (simp only [List.set_cons_zero, List.set_cons_succ]; exact rfl) | exact rfl) ?_; refine HL_nil (hK15 _ _ _ _ ?_); refine HC_seq fun K16 hK16 => HC_region ?_
      refine HL_r rfl rfl rfl rfl (R_fieldAddr rfl rfl (by first | (simp only [Nat.zero_add, Nat.reduceAdd, Nat.reduceMul, Nat.zero_mul, Nat.mul_one, Nat.add_zero]; exact rfl) | exact rfl)) ?_; refine HL_r rfl rfl rfl rfl (R_load rfl (known_L (k := 0) rfl) rfl rfl) ?_; refine HL_r rfl rfl rfl rfl (R_load rfl (known_L (k := 3) rfl) rfl rfl) ?_; refine HLp rfl (HLm rfl ?_)
      refine HL_case 55 rfl (fun hb17 => ?_) (fun hb17 => ?_) <;> (try simp only [ZZ] at hb17) <;> first | (refine HL_r rfl rfl rfl rfl (R_fieldAddr rfl rfl (by first | (simp only [Nat.zero_add, Nat.reduceAdd, Nat.reduceMul, Nat.zero_mul, Nat.mul_one, Nat.add_zero]; exact rfl) | exact rfl)) ?_) | (refine HL_skip rfl rfl rfl ?_)
      all_goals first
        | (refine HL_r rfl rfl rfl rfl (R_load rfl (known_L (k := 0) rfl) rfl rfl) ?_)
        | (refine HL_skip rfl rfl rfl ?_)
      all_goals first
        | (refine HL_r rfl rfl rfl rfl (R_load rfl (known_R (k := 3) rfl) rfl rfl) ?_)
        | (refine HL_skip rfl rfl rfl ?_)
      all_goals first
        | (refine HL_r rfl rfl rfl rfl (R_lenBs rfl rfl) ?_)
        | (refine HL_skip rfl rfl rfl ?_)
      all_goals first
        | (refine HLp rfl ?_)
        | (refine HL_skip rfl rfl rfl ?_)
      all_goals first
        | (refine HL_r rfl rfl rfl rfl (R_pickT rfl rfl) ?_)
        | (refine HL_r rfl rfl rfl rfl (R_pickF rfl rfl) ?_)
      all_goals refine HLm rfl ?_
      all_goals first
        | (refine HL_skip rfl rfl rfl ?_)
        | (refine HL_case 62 rfl (fun hb22 => ?_) (fun hb22 => ?_) <;> (try simp only [ZZ] at hb22) <;> first | (refine HL_r rfl rfl rfl rfl (R_load rfl (known_L (k := 0) rfl) rfl rfl) ?_) | (refine HL_r rfl rfl rfl rfl (R_load rfl (known_L (k := 1) rfl) rfl rfl) ?_) | (refine HL_r rfl rfl rfl rfl (R_load rfl (known_L (k := 2) rfl) rfl rfl) ?_) | (refine HL_r rfl rfl rfl rfl (R_load rfl (known_L (k := 3) rfl) rfl rfl) ?_) | (refine HL_r rfl rfl rfl rfl (R_load rfl (known_L (k := 4) rfl) rfl rfl) ?_) | (refine HL_r rfl rfl rfl rfl (R_load rfl (known_L (k := 5) rfl) rfl rfl) ?_) | (refine HL_r rfl rfl rfl rfl (R_load rfl (known_L (k := 6) rfl) rfl rfl) ?_) | (refine HL_r rfl rfl rfl rfl (R_load rfl (known_R (k := 0) rfl) rfl rfl) ?_) | (refine HL_r rfl rfl rfl rfl (R_load rfl (known_R (k := 1) rfl) rfl rfl) ?_) | (refine HL_r rfl rfl rfl rfl (R_load rfl (known_R (k := 2) rfl) rfl rfl) ?_) | (refine HL_r rfl rfl rfl rfl (R_load rfl (known_R (k := 3) rfl) rfl rfl) ?_) | (refine HL_r rfl rfl rfl rfl (R_load rfl (known_R (k := 4) rfl) rfl rfl) ?_) | (refine HL_skip rfl rfl rfl ?_))
      all_goals first
        | (refine HLp rfl ?_)
        | (refine HL_skip rfl rfl rfl ?_)
      all_goals first
        | (refine HLm rfl ?_)
        | (refine HL_skip rfl rfl rfl ?_)
      all_goals first
        | (refine HL_skip rfl rfl rfl ?_)
        | (refine HL_case 65 rfl (fun hb25 => ?_) (fun hb25 => ?_) <;> (try simp only [ZZ] at hb25) <;> first | (refine HL_r rfl rfl rfl rfl (R_fieldAddr rfl rfl (by first | (simp only [Nat.zero_add, Nat.reduceAdd, Nat.reduceMul, Nat.zero_mul, Nat.mul_one, Nat.add_zero]; exact rfl) | exact rfl)) ?_) | (refine HL_skip rfl rfl rfl ?_))
      all_goals first
        | (refine HL_r rfl rfl rfl rfl (R_load rfl (known_L (k := 0) rfl) rfl rfl) ?_)
        | (refine HL_skip rfl rfl rfl ?_)
      all_goals first
        | (refine HL_r rfl rfl rfl rfl (R_load rfl (known_R (k := 2) rfl) rfl rfl) ?_)
        | (refine HL_skip rfl rfl rfl ?_)
      all_goals first
        | (refine HLp rfl ?_)
        | (refine HL_skip rfl rfl rfl ?_)
      all_goals first
        | (refine HL_r rfl rfl rfl rfl (R_pickT rfl rfl) ?_)
        | (refine HL_r rfl rfl rfl rfl (R_pickF rfl rfl) ?_)
        | (refine HL_skip rfl rfl rfl ?_)
      all_goals first
        | (refine HL_r rfl rfl rfl rfl (R_pickT rfl rfl) ?_)
        | (refine HL_r rfl rfl rfl rfl (R_pickF rfl rfl) ?_)
      all_goals refine HL_callX rfl rfl rfl (enters_of Tryz.func42 (by kernel_rfl) rfl) (X_need (_) 2) (fun q hq => nomatch hq) (fun hok _ => ?_) (fun v1 hv1 => by first | exact Bool.noConfusion hv1.1 | ((repeat (first | refine HQ_thenP ?_ | refine HQ_blockP ?_)); exact HQ_roundX ⟨v1, bad_of (parts_n hm0 hM hHi' hHl (by rw [← hTY]; exact hinv.bad hxx hff hv (by first | (refine .inr (.inl ?_); omega) | (refine .inr (.inr ?_); omega) | (refine .inl ⟨?_, fun e => ?_⟩; omega; have := Z4.1 hv1.1; omega)))) (by decide) hv1, rfl⟩))
      all_goals try exact Bool.noConfusion hok
      all_goals refine HL_nil ?_
      all_goals (
       refine hK16 _ _ _ _ ?_; refine HC_seq fun K30 hK30 => ?_; refine HC_seq fun K31 hK31 => ?_
       obtain ⟨hvi, hvn, hvj⟩ := hinv.var hxx hff hv (by first | (left; omega) | (right; have := Z3.1 hok; omega)) (by omega) (by omega)
       refine HC_region (HL_r rfl rfl rfl rfl (R_load rfl (known_L (k := 4) rfl) rfl rfl) (HLp rfl ?_)); refine HL_nil (hK31 _ _ _ _ ?_); refine HC_cond rfl (fun h32 => ?_) (fun h32 => ?_)
       · try exact Bool.noConfusion h32
         try simp only [ZZ] at h32
         obtain ⟨j, hj0⟩ : ∃ j : Nat, op = (j : Int) := ⟨op.toNat, by omega⟩
         have hj : j < i2 := by have := hinv.opv; have := lastV_ge (TY.take i2); rw [List.length_take, Nat.min_eq_left hinv.le] at this; omega
         obtain ⟨rr, cap, sp, rfl⟩ := row_some hrow (by omega)
         obtain ⟨x0, f0, g1, g2⟩ := hvj j hj0
         have hjp : j * 5 + 4 < (prsC (psI s TY i2 pre)).length := by rw [prsC_len, hinv.len]; omega
         have hjl : j * 5 + 4 < (prsC (psI s TY i2 pre) ++ sp).length := by rw [List.length_append]; omega
         have hrowJ : rowOk 5 i2 (prsC ((psI s TY i2 pre).set j (x0, f0, v))) (some (rr, cap, sp)) := ⟨by rw [prsC_len, List.length_set, hinv.len], hrow.2⟩
         refine HC_region (HL_r rfl rfl rfl rfl (R_load (v := rowV i2 (some (rr, cap, sp))) rfl (known_L (k := 5) rfl) rfl rfl) (HL_r rfl rfl rfl rfl (R_load rfl (known_L (k := 4) rfl) rfl rfl) ?_))
         refine HL_r rfl rfl rfl rfl (R_fieldAddr rfl rfl (by first | (simp only [Nat.zero_add, Nat.reduceAdd, Nat.reduceMul, Nat.zero_mul, Nat.mul_one, Nat.add_zero]; exact rfl) | exact rfl)) ?_; refine HL_r rfl rfl rfl rfl (R_load rfl (known_L (k := 0) rfl) rfl rfl) ?_; refine HL_r rfl rfl rfl rfl (R_indexRow (row := some (rr, cap, sp)) (j := j) (m := 5) (off' := j * 5) rfl hrow rfl rfl rfl hj0 hj rfl) ?_; refine HL_r rfl rfl rfl rfl (R_fieldAddr (off' := j * 5 + 4) rfl rfl rfl) ?_; refine HL_store (k := 6) (cs' := (prsC ((psI s TY i2 pre).set j (x0, f0, v)) ++ sp).toArray) rfl rfl rfl rfl rfl rfl (by rw [List.getElem?_toArray, List.getElem?_eq_getElem hjl]; rfl) (frB0 _) (by rw [List.setIfInBounds_toArray, List.set_append_left _ _ hjp, prsC_set v g1]) rfl ?_; refine HL_nil (hK30 _ _ _ _ ?_); refine HC_region (HL_r rfl rfl rfl rfl (R_load rfl (known_R (k := 3) rfl) rfl rfl) (HL_r rfl rfl rfl rfl (R_lenBs rfl rfl) ?_))
         refine HL_r rfl rfl rfl rfl (R_fieldAddr rfl rfl (by first | (simp only [Nat.zero_add, Nat.reduceAdd, Nat.reduceMul, Nat.zero_mul, Nat.mul_one, Nat.add_zero]; exact rfl) | exact rfl)) ?_; refine HL_r rfl rfl rfl rfl (R_load rfl (known_L (k := 0) rfl) rfl rfl) ?_; refine HLm rfl ?_
         refine HL_r rfl rfl rfl rfl (R_fieldAddr rfl rfl (by first | (simp only [Nat.zero_add, Nat.reduceAdd, Nat.reduceMul, Nat.zero_mul, Nat.mul_one, Nat.add_zero]; exact rfl) | exact rfl)) ?_
         refine HL_store (k := 0) rfl rfl rfl rfl rfl rfl rfl rfl (by first | (simp only [List.setIfInBounds_toArray, List.set_cons_zero, List.set_cons_succ]; exact rfl) | exact rfl) (by first | (simp only [List.set_cons_zero, List.set_cons_succ]; exact rfl) | exact rfl) ?_
         refine HL_store (k := 3) rfl rfl rfl rfl rfl rfl rfl rfl (by first | (simp only [List.setIfInBounds_toArray, List.set_cons_zero, List.set_cons_succ]; exact rfl) | exact rfl) (by first | (simp only [List.set_cons_zero, List.set_cons_succ]; exact rfl) | exact rfl) ?_
         refine HL_store (k := 4) rfl rfl rfl rfl rfl rfl rfl rfl (by first | (simp only [List.setIfInBounds_toArray, List.set_cons_zero, List.set_cons_succ]; exact rfl) | exact rfl) (by first | (simp only [List.set_cons_zero, List.set_cons_succ]; exact rfl) | exact rfl) ?_; refine HL_nil (hK12 _ _ _ _ ?_); refine HC_seq fun K33 hK33 => HC_region ?_; refine HL_r rfl rfl rfl rfl (R_load (v := rowV i2 (some (rr, cap, sp))) rfl (known_L (k := 5) rfl) rfl rfl) ?_; refine HL_r rfl rfl rfl rfl (R_loadA (vs := [_, _, _, _, _]) rfl (known_L (k := 0) rfl) rfl rfl rfl rfl) ?_; refine HL_buildSlice (vs := [_]) (zs := [_, _, _, _, _]) (r := [_, _, _, _, _]) rfl rfl rfl rfl rfl rfl rfl rfl rfl (by rw [made_list]; exact rfl) rfl fun r10 => ?_; refine HL_appendRow (L0 := [_, _, _, _, _, _, _]) (xs := prsC ((psI s TY i2 pre).set j (x0, f0, v))) (row := some (rr, cap, sp)) (n := i2) (sz := 5) (b := 56) (news := [_, _, _, _, _]) (List.perm_append_comm (l₁ := [_, _, _, _, _, _, _])) rfl rfl rfl rfl (known_L (k := 0) rfl) rfl rfl rfl rfl rfl (by decide) rfl rfl rfl (by decide) hrowJ (by omega) (by omega) fun ra2 cap2 sp2 hra => ?_; refine HL_store (k := 7) (cs' := #[rowV (i2 + 1) (some (ra2, cap2, sp2))]) rfl rfl rfl rfl rfl rfl rfl rfl rfl rfl ?_; refine HL_nil (hK33 _ _ _ _ ?_); refine HC_region (HL_r rfl rfl rfl rfl (R_load rfl (known_L (k := 4) rfl) rfl rfl) ?_); refine HLm rfl (HLp rfl ?_); refine HL_as (show _ = Value.int .i64 ((A + y : Nat)) from congrArg (Value.int .i64) (by rw [wrap_i64 (by omega) (by omega)]; omega)) ?_
         refine HL_store (k := 4) rfl rfl rfl rfl rfl rfl rfl rfl (by first | (simp only [List.setIfInBounds_toArray, List.set_cons_zero, List.set_cons_succ]; exact rfl) | exact rfl) (by first | (simp only [List.set_cons_zero, List.set_cons_succ]; exact rfl) | exact rfl) ?_; refine HL_nil ?_; refine HQ_blockN (HQ_sel [4, 5, 6, 7, 0] (L' := [_, _, _, _, _]) (by decide) rfl ?_)
         (obtain rfl : y = 4 := by omega
          exact HQ_roundN (i2 + 1, A + 4, v, (i2 : Int), some (ra2, cap2, sp2), pre ++ [v]) ⟨rfl, hvi, by simp only; rw [g2, prsC_snoc]; exact hra⟩ (by simp only; rw [g2, prsC_snoc]; exact ⟨List.Sublist.refl _, List.Sublist.refl _⟩))
       · try exact Bool.noConfusion h32
         try simp only [ZZ] at h32
         refine HC_skip (hK30 _ _ _ _ ?_); refine HC_region (HL_r rfl rfl rfl rfl (R_load rfl (known_R (k := 3) rfl) rfl rfl) (HL_r rfl rfl rfl rfl (R_lenBs rfl rfl) ?_))
         refine HL_r rfl rfl rfl rfl (R_fieldAddr rfl rfl (by first | (simp only [Nat.zero_add, Nat.reduceAdd, Nat.reduceMul, Nat.zero_mul, Nat.mul_one, Nat.add_zero]; exact rfl) | exact rfl)) ?_; refine HL_r rfl rfl rfl rfl (R_load rfl (known_L (k := 0) rfl) rfl rfl) ?_; refine HLm rfl ?_
         refine HL_r rfl rfl rfl rfl (R_fieldAddr rfl rfl (by first | (simp only [Nat.zero_add, Nat.reduceAdd, Nat.reduceMul, Nat.zero_mul, Nat.mul_one, Nat.add_zero]; exact rfl) | exact rfl)) ?_
         refine HL_store (k := 0) rfl rfl rfl rfl rfl rfl rfl rfl (by first | (simp only [List.setIfInBounds_toArray, List.set_cons_zero, List.set_cons_succ]; exact rfl) | exact rfl) (by first | (simp only [List.set_cons_zero, List.set_cons_succ]; exact rfl) | exact rfl) ?_
         refine HL_store (k := 3) rfl rfl rfl rfl rfl rfl rfl rfl (by first | (simp only [List.setIfInBounds_toArray, List.set_cons_zero, List.set_cons_succ]; exact rfl) | exact rfl) (by first | (simp only [List.set_cons_zero, List.set_cons_succ]; exact rfl) | exact rfl) ?_
         refine HL_store (k := 4) rfl rfl rfl rfl rfl rfl rfl rfl (by first | (simp only [List.setIfInBounds_toArray, List.set_cons_zero, List.set_cons_succ]; exact rfl) | exact rfl) (by first | (simp only [List.set_cons_zero, List.set_cons_succ]; exact rfl) | exact rfl) ?_; refine HL_nil (hK12 _ _ _ _ ?_); refine HC_seq fun K34 hK34 => HC_region ?_; refine HL_r rfl rfl rfl rfl (R_load (v := rowV i2 row) rfl (known_L (k := 5) rfl) rfl rfl) ?_; refine HL_r rfl rfl rfl rfl (R_loadA (vs := [_, _, _, _, _]) rfl (known_L (k := 0) rfl) rfl rfl rfl rfl) ?_; refine HL_buildSlice (vs := [_]) (zs := [_, _, _, _, _]) (r := [_, _, _, _, _]) rfl rfl rfl rfl rfl rfl rfl rfl rfl (by rw [made_list]; exact rfl) rfl fun r11 => ?_; refine HL_appendRow (L0 := [_, _, _, _, _, _, _]) (xs := prsC (psI s TY i2 pre)) (row := row) (n := i2) (sz := 5) (b := 56) (news := [_, _, _, _, _]) (List.perm_append_comm (l₁ := [_, _, _, _, _, _, _])) rfl rfl rfl rfl (known_L (k := 0) rfl) rfl rfl rfl rfl rfl (by decide) rfl rfl rfl (by decide) hrow (by omega) (by omega) fun ra2 cap2 sp2 hra => ?_; refine HL_store (k := 7) (cs' := #[rowV (i2 + 1) (some (ra2, cap2, sp2))]) rfl rfl rfl rfl rfl rfl rfl rfl rfl rfl ?_; refine HL_nil (hK34 _ _ _ _ ?_); refine HC_region (HL_r rfl rfl rfl rfl (R_load rfl (known_L (k := 4) rfl) rfl rfl) ?_); refine HLm rfl (HLp rfl ?_); refine HL_as (show _ = Value.int .i64 ((A + y : Nat)) from congrArg (Value.int .i64) (by rw [wrap_i64 (by omega) (by omega)]; omega)) ?_
         refine HL_store (k := 4) rfl rfl rfl rfl rfl rfl rfl rfl (by first | (simp only [List.setIfInBounds_toArray, List.set_cons_zero, List.set_cons_succ]; exact rfl) | exact rfl) (by first | (simp only [List.set_cons_zero, List.set_cons_succ]; exact rfl) | exact rfl) ?_; refine HL_nil ?_; refine HQ_blockN (HQ_sel [4, 5, 6, 7, 0] (L' := [_, _, _, _, _]) (by decide) rfl ?_)
         (obtain rfl : y = 4 := by omega
          have g3 := hvn (by have := hinv.opv; have := lastV_ge (TY.take i2); omega)
          exact HQ_roundN (i2 + 1, A + 4, v, (i2 : Int), some (ra2, cap2, sp2), pre ++ [v]) ⟨rfl, hvi, by simp only; rw [g3, prsC_snoc]; exact hra⟩ (by simp only; rw [g3, prsC_snoc]; exact ⟨List.Sublist.refl _, List.Sublist.refl _⟩))
       skip)
    · try exact Bool.noConfusion h14
      try simp only [ZZ] at h14
      refine HC_skip (hK12 _ _ _ _ ?_); refine HC_seq fun K35 hK35 => HC_region ?_; refine HL_r rfl rfl rfl rfl (R_load (v := rowV i2 row) rfl (known_L (k := 5) rfl) rfl rfl) ?_; refine HL_r rfl rfl rfl rfl (R_loadA (vs := [_, _, _, _, _]) rfl (known_L (k := 0) rfl) rfl rfl rfl rfl) ?_; refine HL_buildSlice (vs := [_]) (zs := [_, _, _, _, _]) (r := [_, _, _, _, _]) rfl rfl rfl rfl rfl rfl rfl rfl rfl (by rw [made_list]; exact rfl) rfl fun r12 => ?_; refine HL_appendRow (L0 := [_, _, _, _, _, _, _]) (xs := prsC (psI s TY i2 pre)) (row := row) (n := i2) (sz := 5) (b := 56) (news := [_, _, _, _, _]) (List.perm_append_comm (l₁ := [_, _, _, _, _, _, _])) rfl rfl rfl rfl (known_L (k := 0) rfl) rfl rfl rfl rfl rfl (by decide) rfl rfl rfl (by decide) hrow (by omega) (by omega) fun ra2 cap2 sp2 hra => ?_; refine HL_store (k := 7) (cs' := #[rowV (i2 + 1) (some (ra2, cap2, sp2))]) rfl rfl rfl rfl rfl rfl rfl rfl rfl rfl ?_; refine HL_nil (hK35 _ _ _ _ ?_); refine HC_region (HL_r rfl rfl rfl rfl (R_load rfl (known_L (k := 4) rfl) rfl rfl) ?_); refine HLm rfl (HLp rfl ?_); refine HL_as (show _ = Value.int .i64 ((A + y : Nat)) from congrArg (Value.int .i64) (by rw [wrap_i64 (by omega) (by omega)]; omega)) ?_
      refine HL_store (k := 4) rfl rfl rfl rfl rfl rfl rfl rfl (by first | (simp only [List.setIfInBounds_toArray, List.set_cons_zero, List.set_cons_succ]; exact rfl) | exact rfl) (by first | (simp only [List.set_cons_zero, List.set_cons_succ]; exact rfl) | exact rfl) ?_; refine HL_nil ?_; refine HQ_blockN (HQ_sel [4, 5, 6, 7, 0] (L' := [_, _, _, _, _]) (by decide) rfl ?_)
      (have hfx : isFix (Ty.mk xk xn xp xi) = true := ‹_›
       rw [hfx, if_pos rfl] at hbe
       obtain ⟨f1, f2⟩ := hinv.fix hxx hfx hzz
       rw [show (sizT (Ty.mk xk xn xp xi)).toNat = y by omega] at f1 f2
       exact HQ_roundN (i2 + 1, A + y, la, op, some (ra2, cap2, sp2), pre) ⟨rfl, f1, by simp only; rw [f2, prsC_snoc]; exact hra⟩ (by simp only; rw [f2, prsC_snoc]; exact ⟨List.Sublist.refl _, List.Sublist.refl _⟩))
  · rintro D i ⟨i2, A, la, op, row, pre⟩ hfi ⟨he, hinv, hrow⟩
    simp only at he hinv hrow
    have hin : i = M := hfi
    have he2 : i2 = TY.length := by omega
    subst he2
    have hfin := hinv.done
    refine HQ_blockN (hK7 _ _ _ _ ?_); refine HCE_seqC fun K36 hK36 => ?_; refine HC_region (HL_r rfl rfl rfl rfl (R_load (v := .int .i64 op) rfl (known_L (k := 3) rfl) rfl rfl) ?_); refine HLp rfl (HLm rfl ?_)
    refine HL_case 96 rfl (fun hb37 => ?_) (fun hb37 => ?_) <;> (try simp only [ZZ] at hb37) <;> first | (refine HL_r rfl rfl rfl rfl (R_load (v := .int .i64 (H : Int)) rfl (Or.inl (List.mem_cons_of_mem _ (List.mem_append_right _ (List.mem_cons_of_mem _ (List.mem_cons_of_mem _ List.mem_cons_self))))) rfl rfl) ?_) | (refine HL_skip rfl rfl rfl ?_)
    all_goals first
      | (refine HL_r rfl rfl rfl rfl (R_load (v := strV s) rfl (Or.inl (List.mem_cons_of_mem _ (List.mem_append_right _ (List.mem_cons_of_mem _ (List.mem_cons_of_mem _ (List.mem_cons_of_mem _ List.mem_cons_self)))))) rfl rfl) ?_)
      | (refine HL_skip rfl rfl rfl ?_)
    all_goals first
      | (refine HL_r rfl rfl rfl rfl (R_lenBs rfl rfl) ?_)
      | (refine HL_skip rfl rfl rfl ?_)
    all_goals first
      | (refine HLp rfl ?_)
      | (refine HL_skip rfl rfl rfl ?_)
    all_goals first
      | (refine HL_r rfl rfl rfl rfl (R_pickT rfl rfl) ?_)
      | (refine HL_r rfl rfl rfl rfl (R_pickF rfl rfl) ?_)
    all_goals refine HL_callX rfl rfl rfl (enters_of Tryz.func42 (by kernel_rfl) rfl) (X_need (_) 2) (fun q hq => nomatch hq) (fun hok _ => ?_) (fun v hv => by first | exact Bool.noConfusion hv.1 | exact HQ_panMk (k := 0) rfl rfl (HQ_panX rfl rfl (bad_of (parts_n hm0 hM hHi' hHl (by rw [← hTY]; exact (hfin.2).trans (if_pos ⟨by omega, fun e => by have := Z4.1 hv.1; omega⟩))) (by decide) hv)))
    all_goals refine HL_nil ?_
    all_goals (
     refine hK36 _ _ _ _ ?_; refine HCE_seqC fun K41 hK41 => ?_; refine HC_region (HL_r rfl rfl rfl rfl (R_load (v := rowV TY.length row) rfl (known_L (k := 4) rfl) rfl rfl) (HLm rfl ?_)); refine HL_nil (hK41 _ _ _ _ ?_); refine HCE_of ?_; refine HC_ret ?_
     have hpo := parts_o hm0 hM hHi' hHl
     rw [← hTY, hfin.2, if_neg (by first | (rintro ⟨g1, g2⟩; omega) | (rintro ⟨g1, g2⟩; have := Z3.1 hok; omega))] at hpo; simp only at hpo
     have hps : psT k n ins s = psI s TY TY.length pre := by unfold psT; rw [hpo, ← hM, ← hTY, hfin.1]
     rw [hps]; refine HQ_mark (k := 0) rfl rfl ?_; refine HQ_post rfl rfl (.cons (res_tmp rfl) .nil) (fun w1 hs1 => ?_); exact .inl ⟨by rw [hpo], ⟨row, by rw [hinv.len]; exact hrow⟩, congrArg (fun m => Ending.returned (rowV m row)) hinv.len.symm, hs1.weakL (.cons _ (.cons _ (.cons _ (.cons _ (.cons _ (List.sublist_append_left _ _))))))⟩
     skip)
  · exact fun _ _ _ h => h.elim
  · rintro D _ ⟨v, hv, rfl⟩
    exact HQ_panMk (k := 0) rfl rfl (HQ_panX rfl rfl hv)
end Go.Proofs.YtlcbfphioeppaaaGreatDoor
namespace Go.Proofs.YtlcbfphioeppaaaGreatDoor
set_option linter.all false
open Go.SL Go.RowKit Go.Shelf
open Go.Proofs (Enters enters_of)
/-! ### get, in plain Lean: rows part by part; values that are laid anew -/
theorem runG_snoc : ∀ {l : List (Gf × BS)} {vs : List Vl} {f : Gf} {s : BS} {v : Vl}, runG l = (vs, 0) → f s = (v, 0) → runG (l ++ [(f, s)]) = (vs ++ [v], 0)
  | [], vs, f, s, v, h, hv => by
    rw [runG] at h
    obtain rfl := (Prod.mk.inj h).1
    rw [List.nil_append, runG, runG, hv, if_neg (by simp), if_neg (by simp)]; rfl
  | (f', s') :: l, vs, f, s, v, h, hv => by
    rw [runG] at h
    by_cases h1 : (f' s').2 ≠ 0
    · rw [if_pos h1] at h; exact absurd (Prod.mk.inj h).2 h1
    rw [if_neg h1] at h
    by_cases h2 : (runG l).2 ≠ 0
    · rw [if_pos h2] at h; exact absurd (Prod.mk.inj h).2 h2
    rw [if_neg h2] at h
    obtain rfl := (Prod.mk.inj h).1
    have ih := runG_snoc (l := l) (vs := (runG l).1) (Prod.ext rfl (Decidable.not_not.1 h2)) hv
    rw [List.cons_append, runG, if_neg h1, ih, if_neg (by simp)]; rfl
theorem runG_bad : ∀ {l r : List (Gf × BS)} {vs : List Vl} {f : Gf} {s : BS}, runG l = (vs, 0) → (f s).2 ≠ 0 → (runG (l ++ (f, s) :: r)).2 = (f s).2
  | [], r, vs, f, s, _, hv => by rw [List.nil_append, runG, if_pos hv]
  | (f', s') :: l, r, vs, f, s, h, hv => by
    rw [runG] at h
    by_cases h1 : (f' s').2 ≠ 0
    · rw [if_pos h1] at h; exact absurd (Prod.mk.inj h).2 h1
    rw [if_neg h1] at h
    by_cases h2 : (runG l).2 ≠ 0
    · rw [if_pos h2] at h; exact absurd (Prod.mk.inj h).2 h2
    have ih := runG_bad (r := r) (l := l) (vs := (runG l).1) (Prod.ext rfl (Decidable.not_not.1 h2)) hv
    rw [List.cons_append, runG, if_neg h1, if_pos (by rw [ih]; exact hv)]; exact ih
theorem pairs_ok {s : BS} {H : Nat} (hH : H ≤ s.length) : ∀ {ts : List Ty} {a la : Nat} {op : Bool} {os : List Nat}, offL s H ts a la op = some os → la ≤ s.length → (op = false → la = H) → (∀ x ∈ ts, isFix x = true → 0 ≤ sizT x) → (a : Int) + begL ts = H → ∀ q ∈ pairL ts a os, q.2.1 ≤ q.2.2 ∧ q.2.2 ≤ s.length
  | [], _, _, _, _, _, _, _, _, _, q, hq => by rw [pairL] at hq; cases hq
  | x :: xs, a, la, op, os, h, hla, hop, hz, hb, q, hq => by
    have hz2 : ∀ y ∈ xs, isFix y = true → 0 ≤ sizT y := fun y hy => hz y (List.mem_cons_of_mem _ hy)
    have hn := begL_nn xs
    rw [begL, begT] at hb; rw [offL] at h; rw [pairL] at hq
    by_cases hf : isFix x = true
    · rw [if_pos hf] at h hb hq
      have h0 := hz x List.mem_cons_self hf
      rcases List.mem_cons.1 hq with rfl | hq
      · simp only; omega
      · exact pairs_ok hH h hla hop hz2 (by omega) q hq
    · rw [if_neg hf] at h hb hq
      split at h
      · cases h
      · rename_i h1
        obtain ⟨r, h2, rfl⟩ := Option.map_eq_some_iff.1 h
        obtain ⟨o, r2, rfl, g1, g2, _⟩ := offL_ge h2 (by omega) (fun h => by cases h)
        rcases List.mem_cons.1 hq with rfl | hq
        · exact ⟨g1, g2⟩
        · exact pairs_ok hH h2 (by omega) (fun h => by cases h) hz2 (by omega) q hq
def gq (s : BS) (q : Ty × Nat × Nat) : Gf × BS := (getT q.1, (s.take q.2.2).drop q.2.1)
theorem zip_map_same {α β γ : Type} (f : α → β) (g : α → γ) : ∀ l : List α, (l.map f).zip (l.map g) = l.map fun a => (f a, g a)
  | [] => rfl
  | x :: xs => by rw [List.map_cons, List.map_cons, List.zip_cons_cons, zip_map_same f g xs]; rfl
theorem rowT_eq {k n : Int} {ins : List Ty} {s : BS} (hX : (manyT k n ins s).2 = 0 → ∀ i, i < (manyT k n ins s).1 → inX k 0 i < ins.length) :
    rowT k n ins (getF ins) s = if (partsT k n ins s).2 ≠ 0 then (v0L, (partsT k n ins s).2) else if (runG ((psT k n ins s).map (gq s))).2 ≠ 0 then (v0L, (runG ((psT k n ins s).map (gq s))).2) else (mkItems (runG ((psT k n ins s).map (gq s))).1 0, 0) := by
  unfold rowT
  by_cases hm : (manyT k n ins s).2 ≠ 0
  · rw [if_pos hm, if_pos (by rw [parts_m hm]; exact hm), parts_m hm]
  rw [if_neg hm]
  have hm0 := Decidable.not_not.1 hm
  have hX := hX hm0
  unfold psT partsT
  rw [if_neg hm]
  by_cases hb : (s.length : Int) < begL (tysN k ins (manyT k n ins s).1)
  · rw [if_pos hb, if_pos hb, if_pos (by simp)]
  rw [if_neg hb, if_neg hb]
  generalize (manyT k n ins s).1 = M at *
  cases offL s (begL (tysN k ins M)).toNat (tysN k ins M) 0 (begL (tysN k ins M)).toNat false with
  | none => simp
  | some os =>
    simp only [ne_eq, not_true_eq_false, if_false]
    have e : ((List.range M).map fun i => (getF ins).getD (inX k 0 i) g0).zip (partL s (tysN k ins M) 0 os) = (pairL (tysN k ins M) 0 os).map (gq s) := by
      have e1 : ((List.range M).map fun i => (getF ins).getD (inX k 0 i) g0) = (pairL (tysN k ins M) 0 os).map fun q => getT q.1 := by
        have e2 : ((pairL (tysN k ins M) 0 os).map Prod.fst).map getT = (tysN k ins M).map getT := by rw [pairL_tys]
        rw [List.map_map] at e2; rw [show (fun q : Ty × Nat × Nat => getT q.1) = getT ∘ Prod.fst from rfl, e2]
        unfold tysN
        rw [List.map_map]; exact List.map_congr_left fun i hi => getF_at (inTy_get (hX i (List.mem_range.1 hi))).1
      rw [e1, partL_pair, zip_map_same]; rfl
    rw [e]
section
variable {k n : Int} {p : Pl} {ins : List Ty} {s : BS}
theorem g_w (h : isFix (.mk k n p ins) = true ∧ (s.length : Int) ≠ sizT (.mk k n p ins)) : getT (.mk k n p ins) s = (v0L, 2) := by rw [getT]; unfold decT; rw [if_pos h]
variable (hnf : ¬ (isFix (.mk k n p ins) = true ∧ (s.length : Int) ≠ sizT (.mk k n p ins)))
include hnf
theorem g_1 (h1 : k = 1) : getT (.mk k n p ins) s = (mkNum (numD s), 0) := by rw [getT]; unfold decT; rw [if_neg hnf, if_pos h1]
theorem g_2 (h1 : k ≠ 1) (h2 : k = 2) : getT (.mk k n p ins) s = if 1 < (s.getD 0 0).toNat then (v0L, 2) else (mkNum (numD s), 0) := by rw [getT]; unfold decT; rw [if_neg hnf, if_neg h1, if_pos h2]
theorem g_5 (h1 : k ≠ 1) (h2 : k ≠ 2) (h5 : k = 5) : getT (.mk k n p ins) s = if ((unpackB s (8 * s.length)).drop n.toNat).any id then (v0L, 8) else (mkBits (unpackB s n.toNat), 0) := by rw [getT]; unfold decT; rw [if_neg hnf, if_neg h1, if_neg h2, if_pos h5]
theorem g_6 (h1 : k ≠ 1) (h2 : k ≠ 2) (h5 : k ≠ 5) (h6 : k = 6) : getT (.mk k n p ins) s = blT n s := by rw [getT]; unfold decT; rw [if_neg hnf, if_neg h1, if_neg h2, if_neg h5, if_pos h6]; rfl
theorem g_8n (h1 : k ≠ 1) (h2 : k ≠ 2) (h5 : k ≠ 5) (h6 : k ≠ 6) (h8 : k = 8) (hs : s = []) : getT (.mk k n p ins) s = (v0L, 2) := by rw [getT]; unfold decT; rw [if_neg hnf, if_neg h1, if_neg h2, if_neg h5, if_neg h6, if_pos h8, hs]
theorem g_r (h1 : k ≠ 1) (h2 : k ≠ 2) (h5 : k ≠ 5) (h6 : k ≠ 6) (h8 : k ≠ 8) : getT (.mk k n p ins) s = rowT k n ins (getF ins) s := by rw [getT]; unfold decT; rw [if_neg hnf, if_neg h1, if_neg h2, if_neg h5, if_neg h6, if_neg h8]
theorem g_8k (h1 : k ≠ 1) (h2 : k ≠ 2) (h5 : k ≠ 5) (h6 : k ≠ 6) (h8 : k = 8) (hs : s ≠ []) (hb : ins.length ≤ (s.getD 0 0).toNat) : getT (.mk k n p ins) s = (v0L, 9) := by
  rw [getT]; unfold decT; rw [if_neg hnf, if_neg h1, if_neg h2, if_neg h5, if_neg h6, if_pos h8]
  cases s with
  | nil => exact absurd rfl hs
  | cons b r => simp only; rw [if_pos (by simpa using hb)]
theorem g_8 (h1 : k ≠ 1) (h2 : k ≠ 2) (h5 : k ≠ 5) (h6 : k ≠ 6) (h8 : k = 8) (hs : s ≠ []) {x : Ty} (hx : ins[(s.getD 0 0).toNat]? = some x) : getT (.mk k n p ins) s = if (getT x (s.drop 1)).2 ≠ 0 then (v0L, (getT x (s.drop 1)).2) else (mkItems [(getT x (s.drop 1)).1] (s.getD 0 0).toNat, 0) := by
  rw [getT]; unfold decT; rw [if_neg hnf, if_neg h1, if_neg h2, if_neg h5, if_neg h6, if_pos h8]
  cases s with
  | nil => exact absurd rfl hs
  | cons b r =>
    simp only [List.getD_cons_zero, List.drop_succ_cons, List.drop_zero] at hx ⊢
    have hlt := (List.getElem?_eq_some_iff.1 hx).1
    rw [if_neg (by omega), getF_at hx]
end
theorem num_in {s : BS} {a b c d : Nat} (h : numD s = [a, b, c, d]) : Vl.In [] (.mk a b c d [] none [] none 0) := by
  have h2 := (numD_ok s).2
  rw [h] at h2
  have hU : ∀ x ∈ [a, b, c, d], U64 x := fun x hx => h2 x hx
  exact .mk (hU a (by simp)) (hU b (by simp)) (hU c (by simp)) (hU d (by simp)) (by decide) rfl (by decide) rfl i0 (fun x hx => nomatch hx)
/-- Items that are laid anew. -/
theorem items_in {vs : List Vl} {E Lr : List (Nat × Obj)} {p : Pl} {pick : Int} (hl : vs.length ≤ 9223372036854775807) (hs : Seg Lr vs.length (vlsC vs) p) (hE : ∀ x ∈ vs, x.In E) (hp : I64 pick) : Vl.In (Lr ++ E) (.mk 0 0 0 0 [] none vs p pick) :=
  .mk u0 u0 u0 u0 (by decide) rfl hl (hs.mono fun q hq => List.mem_append_left _ hq) hp fun x hx => (hE x hx).mono fun q hq => List.mem_append_right _ hq
theorem boom_callX {α : Type} {c : Cx} {d : List Deferred} {l : List (Nat × Value)} {L : List (Nat × Obj)} {X : XP} {Q : Exit → Act → World → Prop} {ok : Prop} {bad : Value → Prop} {V : α → Value} {LL : α → List (Nat × Obj)} {Rl : List (Nat × Obj)} {dst : Option Nat} {f : Operand} {args : Array Operand} {at_ : Array TypeId} {ty : TypeId} {ps : String} {af : Array Edge} {gd : Option (Nat × Bool)} {g : FuncId} {vs : List Value}
    (hca : callArgs l f args = some (g, vs)) (eg : Enters c.P g) (hpt : PureX c.P g vs.toArray ok bad V LL Rl) (hno : ok → α → False) (hR : ∀ p ∈ Rl, known c L p.1 p.2) (hp : ∀ v, bad v → HQ c d l L X (Q (.panic (panE v)))) :
    ∀ (next : Act → World → Prop) a w, Fr c.n d l a → St c L X w → Oper.uponIn (FW c.ro) 0 c.P ⟨dst, .call ⟨.value f, args, at_⟩, ty, ps, af, gd⟩ a next Q ((execOp a.eval ⟨dst, .call ⟨.value f, args, at_⟩, ty, ps, af, gd⟩).run c.P w) := fun next a w hf hs => by
  rw [callArgs_run hf hca c.P w _ rfl eg, Oper.uponIn_enter]; refine ⟨fun hdep => (by cases hdep), ?_⟩
  have hc := callsIn_wide (n := 0) |>.2 (hpt.run w fun p hp => hs.known (hR p hp))
  refine CallsIn.mono (show CallsIn (FW c.ro) 0 c.P g vs.toArray w _ from hc) ?_
  rintro e w' (⟨ho, x, rfl, hk, h1, h2⟩ | ⟨v, hv, rfl, hk⟩)
  · exact (hno ho x).elim
  · exact hp v hv a w' hf (hs.more hk)
end Go.Proofs.YtlcbfphioeppaaaGreatDoor
namespace Go.Proofs.YtlcbfphioeppaaaGreatDoor
set_option linter.all false
open Go.SL Go.RowKit Go.Shelf
open Go.Proofs (Enters enters_of)
/-! ### get -/
section
variable {c : Cx} {X : XP} {S : List (Nat × Obj)} {ops : Array Oper} {l : List (Nat × Value)} {E : List (Nat × Obj)} {d : List Deferred} {tb : Kbs} {rest : List Nat} {T : List (Nat × Obj) → Act → Prop} {i k : Nat} {v : Value}
/-- A row that is laid anew, once all that is ready ahead of it is so by an edge. -/
theorem HB_buildSliceT {t ty : TypeId} {ps : String} {af : Array Edge} {gd : Option (Nat × Bool)} {n e sz : Nat} {pa : List (Nat × Operand)} {vs : List (Nat × Value)} {r zs : List Value} {z : Value} (hk : nth ops.toList k = some ⟨some i, .buildSlice t n pa.toArray, ty, ps, af, gd⟩) (hg : goes l ops ⟨some i, .buildSlice t n pa.toArray, ty, ps, af, gd⟩ = some true) (hi : Nat.ble (i + 1) c.n = true)
    (hA : tb k = .turn) (hS : SubS S E)
    (hp : partsOf l pa = some vs) (ht : sliceOf c.P t = some e) (hz : zeroOf c.P e = some z) (hs : szOf c.P e = some sz) (hzs : z.cells.size = sz) (hb : Nat.ble (n * sz) 16777216 = true) (h0 : Nat.ble 1 (n * sz) = true)
    (hmk : (madeCells z.cells (n * sz)).toList = zs) (hf : fillL (fun i => some (i * sz, sz)) zs (cellsOfParts vs) = some r)
    (h : ∀ q, HB c d ((i, .slice (some ⟨q, 0, none⟩) n n) :: l) ((q, .cells r.toArray e (0, 0)) :: E) X S ops tb rest T) : HB c d l E X S ops tb (k :: rest) T := fun a hfr => by
  refine ⟨_, nth_arr hk, ?_⟩; rw [hA]; refine .inl ⟨Nat, slV n, fun q => (q, .cells r.toArray e (0, 0)) :: E, ⟨goes_wanted hfr hg, fun w hst => ?_⟩, fun q => ⟨fun p hp => List.mem_cons_of_mem _ (hS p hp), h q _ (hfr.put (Nat.le_of_ble_eq_true hi))⟩⟩
  have h1 := partsOf_eval hfr hp
  have h2 : (pa.toArray.map fun (p : Nat × Operand) => (p.1, a.eval p.2)) = vs.toArray := by
    apply Array.toList_inj.1; rw [Array.toList_map]; simpa using h1
  rw [cellsOfParts_eq] at hf; subst hmk
  have h3 := run_fill_slice ht hz hs hzs (Nat.le_of_ble_eq_true hb) (Nat.le_of_ble_eq_true h0) hf w
  rw [← h2] at h3
  have h4 : (Instr.buildSlice t n (pa.toArray.map fun (i, x) => (i, a.eval x))).run c.P w = .ok (.slice (some ⟨w.heap.size, 0, none⟩) n n) (w.alloc (.cells r.toArray e)) := h3
  refine act_run (v := .slice (some ⟨w.heap.size, 0, none⟩) n n) (w' := w.alloc (.cells r.toArray e)) ?_ ⟨w.heap.size, rfl, hst.alloc _⟩; simp only [execOp, Sem.run_bind]; rw [h4]; rfl
end
open Classical in
theorem perm_g {α : Type} (a b c d e : α) (Y A P E : List α) : (a :: (Y ++ (b :: c :: d :: e :: (A ++ (P ++ E))))).Perm (A ++ (a :: b :: c :: d :: e :: (Y ++ (P ++ E)))) := by
  rw [List.perm_iff_count]; intro x; simp only [List.count_append, List.count_cons]; omega
open Classical in
theorem perm_h {α : Type} (a b c d e f : α) (Y P E : List α) : (a :: b :: c :: d :: e :: f :: (Y ++ (P ++ E))).Perm (b :: c :: d :: e :: f :: (a :: (P ++ (Y ++ E)))) := by
  rw [List.perm_iff_count]; intro x; simp only [List.count_append, List.count_cons]; omega
theorem HQ_perm' {c : Cx} {d : List Deferred} {l : List (Nat × Value)} {L L' : List (Nat × Obj)} {X : XP} {K : Act → World → Prop} (hp : L.Perm L') (h : HQ c d l L' X K) : HQ c d l L X K := fun a w hf hs => h a w hf (hs.perm hp)
theorem any_tail {s : BS} {N j : Nat} (h : N + j < 8 * s.length) (hb : bitAt s (N + j) = true) : ((unpackB s (8 * s.length)).drop N).any id = true :=
  List.any_eq_true.2 ⟨_, List.mem_iff_getElem?.2 ⟨j, by rw [List.getElem?_drop]; exact unpackB_get s h⟩, by simpa using hb⟩
theorem any_no {s : BS} {N : Nat} (h : ∀ j, j < 8 * s.length - N → bitAt s (N + j) = false) : ((unpackB s (8 * s.length)).drop N).any id = false := by
  rw [List.any_eq_false]; intro b hb
  obtain ⟨j, hj⟩ := List.getElem?_of_mem hb
  rw [List.getElem?_drop] at hj
  have hlt := (List.getElem?_eq_some_iff.1 hj).1
  rw [unpackB_len] at hlt; rw [unpackB_get s hlt] at hj
  cases hj
  rw [h j (by omega)]; simp
theorem X_partsP {R : List (Nat × Obj)} {k n : Int} {p : Pl} {ins : List Ty} {s : BS} (ht : Ty.In R (.mk k n p ins)) (hc : chk (.mk k n p ins) 0 = 0) (hk3 : k = 3 ∨ k = 4 ∨ k = 7) (hl : s.length ≤ 100000) :
    PureX (α := { row : Row // rowOk 5 (psT k n ins s).length (prsC (psT k n ins s)) row }) Tryz.prog 84 [Ty.val (.mk k n p ins), strV s].toArray ((partsT k n ins s).2 = 0) (fun v => (partsT k n ins s).2 ≠ 0 ∧ v = wrV (partsT k n ins s).2) (fun x => plV (psT k n ins s).length (rowP x.1)) (fun x => rowL 95 (prsC (psT k n ins s)) x.1) R :=
  (X_parts ht hc hk3 hl).map id (fun x => (rowP_V _ _ (fun h => by have := x.2; rw [h] at this; exact this.1)).symm) fun x => List.Sublist.refl _
theorem ps_get {k n : Int} {ins : List Ty} {s : BS} (hX : ∀ i, i < (manyT k n ins s).1 → inX k 0 i < ins.length) {i : Nat} {q : Ty × Nat × Nat} (h : (psT k n ins s)[i]? = some q) : q.1 ∈ ins := by
  have h1 : ((psT k n ins s).map Prod.fst)[i]? = some q.1 := by rw [List.getElem?_map, h]; rfl
  unfold psT at h1
  rw [pairL_tys] at h1
  unfold tysN at h1
  rw [List.getElem?_map] at h1
  obtain ⟨j, hj, e⟩ := Option.map_eq_some_iff.1 h1
  have hj2 := List.mem_range.1 (List.mem_of_getElem? hj)
  rw [← e]; exact (inTy_get (hX j hj2)).2
theorem ps_ok {k n : Int} {ins : List Ty} {s : BS} (h0 : (partsT k n ins s).2 = 0) {q : Ty × Nat × Nat} (hq : q ∈ psT k n ins s) : (manyT k n ins s).2 = 0 ∧ q.2.1 ≤ q.2.2 ∧ q.2.2 ≤ s.length := by
  by_cases hm : (manyT k n ins s).2 ≠ 0
  · rw [parts_m hm] at h0; exact absurd h0 hm
  have hm0 := Decidable.not_not.1 hm
  refine ⟨hm0, ?_⟩
  have hb0 := begL_nn (tysN k ins (manyT k n ins s).1)
  obtain ⟨H, hH⟩ : ∃ H : Nat, begL (tysN k ins (manyT k n ins s).1) = (H : Int) := ⟨_, (Int.toNat_of_nonneg hb0).symm⟩
  by_cases hl : s.length < H
  · rw [parts_h hm0 rfl hH hl] at h0; cases h0
  have ho := parts_o hm0 rfl hH (by omega)
  cases e : offL s H (tysN k ins (manyT k n ins s).1) 0 H false with
  | none => rw [e] at ho; rw [ho] at h0; cases h0
  | some os =>
    rw [e] at ho
    unfold psT at hq
    rw [ho] at hq; exact pairs_ok (by omega) e (by omega) (fun _ => rfl) (fun x _ hx => by have := fix_siz hx; omega) (by rw [hH]; simp) q hq
set_option maxRecDepth 20000 in
set_option maxHeartbeats 4000000 in
theorem X_get {R : List (Nat × Obj)} {t : Ty} (ht : t.In R) : chk t 0 = 0 → ∀ s : BS, s.length ≤ 100000 → PureX (α := VR (getT t s).1) Tryz.prog 43 [t.val, strV s].toArray ((getT t s).2 = 0) (fun v => (getT t s).2 ≠ 0 ∧ v = wrV (getT t s).2) (fun y => y.x.val) (fun y => y.L) R := by
  induction ht with
  | @mk k n p ins hk hn hil hs hi ih =>
  intro hc s hl
  have ht : Ty.In R (.mk k n p ins) := .mk hk hn hil hs hi
  obtain ⟨hk8, ho, _, _⟩ := chk_mk hc
  have hsub := chk_sub hc
  have hF := S_Fixed ht
  have hZ := S_Size ht
  unfold sizeT at hZ
  have hbl := X_bitlist (k := k) (p := p) (ins := ins) hl hn
  have hT := T_bits (s := s) (n := 8 * s.length) (Nat.le_refl _) hl
  have hpl : ¬ (isFix (.mk k n p ins) = true ∧ (s.length : Int) ≠ sizT (.mk k n p ins)) → k = 1 ∨ k = 2 ∨ k = 5 → (s.length : Int) = if k = 1 then n else if k = 2 then 1 else (n + 7) / 8 := fun hnf h => by
    have hi0 : ins = [] := by
      unfold okForm at ho
      rcases h with rfl | rfl | rfl <;> simp at ho <;> first | exact ho.1 | exact ho.1.1
    have hx : isFix (.mk k n p ins) = true := by
      rw [fix_of hc, fixT, hi0, fixL]
      rcases h with rfl | rfl | rfl <;> rfl
    have e : (s.length : Int) = sizT (.mk k n p ins) := Decidable.byContradiction fun h2 => hnf ⟨hx, h2⟩
    rw [e, sizT]
    rcases h with rfl | rfl | rfl <;> simp
  have hn1 : k = 1 → 1 ≤ n ∧ n ≤ 32 := fun e => by subst e; unfold okForm at ho; simp at ho; omega
  have hn5 : k = 5 → 1 ≤ n ∧ n ≤ 512 := fun e => by subst e; unfold okForm at ho; simp at ho; omega
  have h16 : k = 8 → ins.length ≤ 8 := fun e => by subst e; unfold okForm at ho; simp at ho; omega
  refine pureX_of_HC Tryz.func43 rfl rfl fun w => ?_; refine HC_seq fun K1 hK1 => HC_region ?_; refine HL_box (cs := #[_, _, _]) rfl rfl rfl rfl fun r1 => ?_; refine HL_alloc (cs := #[_, _, _, _, _, _, _]) rfl rfl rfl rfl fun r2 => ?_; refine HL_nil (hK1 _ _ _ _ ?_); refine HC_seq fun K2 hK2 => HC_region ?_; refine HL_r rfl rfl rfl rfl (R_loadA (vs := [_, _, _]) rfl (known_L (k := 1) rfl) rfl rfl rfl rfl) ?_; refine HL_callR rfl rfl rfl (enters_of Tryz.func24 (by kernel_rfl) rfl) hF (fun q hq => Or.inr hq) ?_; refine HLp rfl (HLm rfl ?_)
  refine HL_case 15 rfl (fun hb3 => ?_) (fun hb3 => ?_) <;> (try simp only [ZZ] at hb3) <;> first | (refine HLm rfl ?_) | (refine HL_skip rfl rfl rfl ?_)
  all_goals first
    | (refine HL_r rfl rfl rfl rfl (R_lenBs rfl rfl) ?_)
    | (refine HL_skip rfl rfl rfl ?_)
  all_goals first
    | (refine HL_r rfl rfl rfl rfl (R_loadA (vs := [_, _, _]) rfl (known_L (k := 1) rfl) rfl rfl rfl rfl) ?_)
    | (refine HL_skip rfl rfl rfl ?_)
  all_goals first
    | (refine HL_callR rfl rfl rfl (enters_of Tryz.func25 (by kernel_rfl) rfl) hZ (fun q hq => Or.inr hq) ?_)
    | (refine HL_skip rfl rfl rfl ?_)
  all_goals first
    | (refine HLp rfl ?_)
    | (refine HL_skip rfl rfl rfl ?_)
  all_goals first
    | (refine HL_r rfl rfl rfl rfl (R_pickT rfl rfl) ?_)
    | (refine HL_r rfl rfl rfl rfl (R_pickF rfl rfl) ?_)
  all_goals refine HL_callX rfl rfl rfl (enters_of Tryz.func42 (by kernel_rfl) rfl) (X_need (_) 2) (fun q hq => nomatch hq) (fun hok _ => ?_) (fun v hv => by first | exact Bool.noConfusion hv.1 | exact HQ_panX rfl rfl (bad_of (by rw [g_w ⟨‹isFix _ = true›, fun e => absurd hv.1 (by rw [if_pos ‹isFix _ = true›, e, beq_self_eq_true]; decide)⟩]) (by decide) hv))
  all_goals refine HL_nil ?_
  all_goals (
   refine hK2 _ _ _ _ ?_; refine HC_seq fun K8 hK8 => ?_; refine HC_seq fun K9 hK9 => ?_
   have hnf : ¬ (isFix (.mk k n p ins) = true ∧ (s.length : Int) ≠ sizT (.mk k n p ins)) := by
     rintro ⟨hA, hB⟩
     first
     | (have e := Z3.1 hok; rw [if_pos hA] at e; exact hB e)
     | (have e : isFix (.mk k n p ins) = false := ‹_›; rw [e] at hA; cases hA)
   clear hok; refine HC_region ?_
   refine HL_r rfl rfl rfl rfl (R_fieldAddr rfl rfl (by first | (simp only [Nat.zero_add, Nat.reduceAdd, Nat.reduceMul, Nat.zero_mul, Nat.mul_one, Nat.add_zero]; exact rfl) | exact rfl)) ?_; refine HL_r rfl rfl rfl rfl (R_load rfl (known_L (k := 1) rfl) rfl rfl) ?_; refine HL_nil (hK9 _ _ _ _ ?_); refine HC_block (HC_seq fun K10 hK10 => HC_region ?_); refine HLp rfl (HLm rfl ?_); refine HL_nil (hK10 _ _ _ _ ?_); refine HC_cond rfl (fun h11 => ?_) (fun h11 => ?_)
   · try exact Bool.noConfusion h11
     try simp only [ZZ] at h11
     refine HC_seq fun K12 hK12 => ?_
     have hln := hpl hnf (.inl ‹k = 1›)
     rw [if_pos ‹k = 1›] at hln
     have hnn := hn1 ‹_›
     obtain ⟨a, b, c, d, hnm⟩ := numD_4 s
     have hnu := P_snumber (s := s) (by omega)
     rw [hnm] at hnu; refine HC_region (HLm rfl (HL_callP rfl rfl rfl (enters_of Tryz.func81 (by kernel_rfl) rfl) hnu ?_)); refine HL_r rfl rfl rfl rfl (R_build (r := [_, _, _, _, _, _, _]) rfl rfl) ?_
     refine HL_storeA (k := 0) (n := 7) (cs' := #[_, _, _, _, _, _, _]) (vs := #[_, _, _, _, _, _, _]) rfl rfl rfl rfl rfl rfl rfl (by exact Nat.le_of_ble_eq_true rfl) rfl (by first | (simp only [List.set_cons_zero, List.set_cons_succ]; exact rfl) | exact rfl) ?_; refine HL_nil (hK12 _ _ _ _ ?_); refine HC_ret (HQ_blockR (HQ_thenR ?_)); refine HQ_post rfl rfl (.cons (res_cellA (vs := [_, _, _, _, _, _, _]) rfl (known_L (k := 0) rfl) rfl rfl) .nil) (fun w1 hs1 => ?_)
     (have e1 := g_1 hnf (s := s) ‹k = 1›
      refine .inl ⟨by rw [e1], ⟨.mk a b c d [] none [] none 0, [], num_in hnm, by rw [e1, erV_mk, erL, hnm]; rfl⟩, rfl, hs1.weakL (List.nil_sublist _)⟩)
   · try exact Bool.noConfusion h11
     try simp only [ZZ] at h11
     refine HC_seq fun K13 hK13 => HC_region ?_; refine HLp rfl (HLm rfl ?_); refine HL_nil (hK13 _ _ _ _ ?_); refine HC_cond rfl (fun h14 => ?_) (fun h14 => ?_)
     · try exact Bool.noConfusion h14
       try simp only [ZZ] at h14
       refine HC_seq fun K15 hK15 => ?_
       have hln := hpl hnf (.inr (.inl ‹k = 2›))
       rw [if_neg ‹k ≠ 1›, if_pos ‹k = 2›] at hln
       obtain ⟨a, b, c, d, hnm⟩ := numD_4 s
       have hnu := P_snumber (s := s) (by omega)
       rw [hnm] at hnu; refine HC_region (HLm rfl (HL_r rfl rfl rfl rfl (R_indexBs (j := 0) rfl rfl rfl rfl (by omega) rfl) ?_)); refine HLp rfl ?_; refine HL_callX rfl rfl rfl (enters_of Tryz.func42 (by kernel_rfl) rfl) (X_need (_) 2) (fun q hq => nomatch hq) (fun hok _ => ?_) (fun v hv => HQ_panX rfl rfl (bad_of (by rw [g_2 hnf ‹k ≠ 1› ‹k = 2›, if_pos (by have := Z2.1 hv.1; omega)]) (by decide) hv)); refine HL_nil (hK15 _ _ _ _ ?_); refine HC_seq fun K16 hK16 => HC_region ?_; refine HLm rfl (HL_callP rfl rfl rfl (enters_of Tryz.func81 (by kernel_rfl) rfl) hnu (HL_r rfl rfl rfl rfl (R_build (r := [_, _, _, _, _, _, _]) rfl rfl) ?_))
       refine HL_storeA (k := 0) (n := 7) (cs' := #[_, _, _, _, _, _, _]) (vs := #[_, _, _, _, _, _, _]) rfl rfl rfl rfl rfl rfl rfl (by exact Nat.le_of_ble_eq_true rfl) rfl (by first | (simp only [List.set_cons_zero, List.set_cons_succ]; exact rfl) | exact rfl) ?_; refine HL_nil (hK16 _ _ _ _ ?_); refine HC_ret (HQ_blockR (HQ_thenR ?_)); refine HQ_post rfl rfl (.cons (res_cellA (vs := [_, _, _, _, _, _, _]) rfl (known_L (k := 0) rfl) rfl rfl) .nil) (fun w1 hs1 => ?_)
       (have e1 := g_2 hnf (s := s) ‹k ≠ 1› ‹k = 2›
        rw [if_neg (by have := Z1.mp hok; omega)] at e1
        refine .inl ⟨by rw [e1], ⟨.mk a b c d [] none [] none 0, [], num_in hnm, by rw [e1, erV_mk, erL, hnm]; rfl⟩, rfl, hs1.weakL (List.nil_sublist _)⟩)
     · try exact Bool.noConfusion h14
       try simp only [ZZ] at h14
       refine HC_seq fun K17 hK17 => HC_region ?_; refine HLp rfl (HLm rfl ?_); refine HL_nil (hK17 _ _ _ _ ?_); refine HC_cond rfl (fun h18 => ?_) (fun h18 => ?_)
       · try exact Bool.noConfusion h18
         try simp only [ZZ] at h18
         refine HC_seq fun K19 hK19 => ?_
         have hln := hpl hnf (.inr (.inr ‹k = 5›))
         rw [if_neg ‹k ≠ 1›, if_neg ‹k ≠ 2›] at hln
         have hnn := hn5 ‹_›
         obtain ⟨N, hN⟩ : ∃ N, N = n.toNat := ⟨_, rfl⟩
         refine HC_region (HLm rfl ?_); refine HLm rfl (HL_r rfl rfl rfl rfl (R_lenBs rfl rfl) (HLp rfl ?_)); refine HL_as (show _ = Value.int .i64 ((8 * s.length : Nat)) from congrArg (Value.int .i64) (by rw [wrap_i64 (by omega) (by omega)]; omega)) ?_; refine HL_callRE rfl rfl rfl (enters_of Tryz.func82 (by kernel_rfl) rfl) hT (fun q hq => nomatch hq) fun x => ?_
         obtain ⟨row, hrow⟩ := x
         match row, hrow with | none, hrow => ?_ | some (ra, cap, sp), hrow => ?_
         all_goals first | exact absurd hrow.1 (by omega) | skip
         refine HLm rfl ?_; refine HL_nil (hK19 _ _ _ _ ?_); refine HC_seq fun K20 hK20 => ?_; refine HC_seq fun K21 hK21 => ?_
         have hcap : 8 * s.length ≤ cap := by have := hrow.2; omega
         obtain ⟨off1, hoff⟩ : ∃ o, (if cap = N then 0 else 0 + N * 1) = o := ⟨_, rfl⟩
         refine HC_region (HLm rfl ?_)
         refine HL_r rfl rfl rfl rfl (R_fieldAddr rfl rfl (by first | (simp only [Nat.zero_add, Nat.reduceAdd, Nat.reduceMul, Nat.zero_mul, Nat.mul_one, Nat.add_zero]; exact rfl) | exact rfl)) ?_; refine HL_r rfl rfl rfl rfl (R_load rfl (known_L (k := 2) rfl) rfl rfl) ?_; refine HL_as (show _ = Value.int .i64 ((N : Nat) : Int) from congrArg (Value.int .i64) (by omega)) ?_; refine HL_r rfl rfl rfl rfl (R_sliceSl (kl := some N) (kh := none) (km := none) (sz := 1) (m := N) (q := 8 * s.length) (z := cap) (off' := off1) rfl rfl rfl ⟨_, rfl⟩ trivial trivial rfl rfl rfl (by omega) (by omega) (Nat.le_refl _) (fun _ => rfl) hoff) ?_; refine HL_r rfl rfl rfl rfl (R_lenSl rfl rfl) ?_; refine HLm rfl ?_; refine HL_nil (hK21 _ _ _ _ ?_); refine HC_block (HC_loop (σ := Nat) (fun j => j ≤ 8 * s.length - N ∧ ∀ i, i < j → bitAt s (N + i) = false) (fun j => [(1, strV s), (2, pt0 r1), (4, pt0 r2), (5, .slice (some ⟨ra, 0, none⟩) (8 * s.length) cap), (49, .slice (some ⟨ra, off1, none⟩) (8 * s.length - N) (cap - N)), (50, .int .i64 ((8 * s.length - N : Nat) : Int)), (51, .int .i64 (j : Int))]) (fun _ => [(ra, .cells (bitsC (unpackB s (8 * s.length)) ++ sp).toArray 4 (0, 0)), vBlk r2 v0L, tBlk r1 (.mk k n p ins)]) (fun _ _ _ => True) (fun j => 8 * s.length - N - j) 0 ⟨Nat.zero_le _, fun i h => by omega⟩ (.cons rfl (.cons rfl (.cons rfl (.cons rfl (.cons rfl (.cons rfl (.cons rfl .nil))))))) (List.Sublist.refl _) (fun _ _ h => h) ?_); rintro j ⟨hj1, hbits⟩; change HC _ _ _ ((ra, _) :: (r2, _) :: (r1, _) :: []) _ _ _; refine HC_seq fun K22 hK22 => HC_region ?_; refine HLp rfl ?_; refine HL_nil (hK22 _ _ _ _ ?_); refine HC_seq fun K23 hK23 => ?_; refine HC_cond rfl (fun h24 => ?_) (fun h24 => ?_)
         · try exact Bool.noConfusion h24
           try simp only [ZZ] at h24
           refine HC_skip (hK23 _ _ _ _ ?_); refine HC_seq fun K25 hK25 => HC_block ?_; refine HC_seq fun K26 hK26 => HC_region ?_; refine HL_r rfl rfl rfl rfl (R_indexS (j := j) (m := 1) (off' := N + j) rfl rfl rfl rfl (by omega) (by omega) (by rw [← hoff, if_neg (by omega)]; omega)) ?_; refine HL_r rfl rfl rfl rfl (R_load rfl (known_L (k := 0) rfl) rfl (bits_at s (i := N + j) (by omega) sp)) ?_; refine HLm rfl ?_; refine HL_nil (hK26 _ _ _ _ ?_); refine HC_region (HLm rfl (HLp rfl ?_)); refine HL_callX rfl rfl rfl (enters_of Tryz.func42 (by kernel_rfl) rfl) (X_need (_) 8) (fun q hq => nomatch hq) (fun hok _ => ?_) (fun v hv => HQ_panX rfl rfl (bad_of (by rw [g_5 hnf ‹k ≠ 1› ‹k ≠ 2› ‹k = 5›, ← hN, if_pos (any_tail (by omega) (Z8.mp hv.1))]) (by decide) hv)); refine HL_nil ?_; refine HQ_blockN (hK25 _ _ _ _ ?_); refine HC_region (HLp rfl (HL_wrap_i64 (by omega) (by omega) ?_)); refine HLm rfl (HL_nil (HQ_then ?_)); exact HQ_again (j + 1) ⟨by omega, fun i hi => by by_cases e : i = j; (subst e; exact Z7.mp hok); exact hbits i (by omega)⟩ (by omega) (.cons rfl (.cons rfl (.cons rfl (.cons rfl (.cons rfl (.cons rfl (.cons rfl .nil))))))) (List.Sublist.refl _) (fun _ _ h => h)
         · try exact Bool.noConfusion h24
           try simp only [ZZ] at h24
           refine HC_exit (HQ_thenE ?_); refine HQ_thenE (HQ_blockE (hK20 _ _ _ _ ?_)); refine HC_seq fun K27 hK27 => ?_
           have hany := any_no (s := s) (N := N) (fun i hi => hbits i (by omega))
           refine HC_region (HLm rfl ?_)
           refine HL_r rfl rfl rfl rfl (R_fieldAddr rfl rfl (by first | (simp only [Nat.zero_add, Nat.reduceAdd, Nat.reduceMul, Nat.zero_mul, Nat.mul_one, Nat.add_zero]; exact rfl) | exact rfl)) ?_; refine HL_r rfl rfl rfl rfl (R_load rfl (known_L (k := 2) rfl) rfl rfl) ?_; refine HL_as (show _ = Value.int .i64 ((N : Nat) : Int) from congrArg (Value.int .i64) (by omega)) ?_
           refine HL_r rfl rfl rfl rfl (R_sliceSl (kl := none) (kh := some N) (km := none) (m := 0) (q := N) (z := cap) (off' := 0) (sz := 1) rfl rfl rfl trivial ⟨_, rfl⟩ trivial rfl rfl rfl (by omega) (by omega) (Nat.le_refl _) (fun e => nomatch e) (by split <;> omega)) ?_; refine HL_r rfl rfl rfl rfl (R_build (r := [_, _, _, _, _, _, _]) rfl rfl) ?_
           refine HL_storeA (k := 1) (n := 7) (cs' := #[_, _, _, _, _, _, _]) (vs := #[_, _, _, _, _, _, _]) rfl rfl rfl rfl rfl rfl rfl (by exact Nat.le_of_ble_eq_true rfl) rfl (by first | (simp only [List.set_cons_zero, List.set_cons_succ]; exact rfl) | exact rfl) ?_; refine HL_nil (hK27 _ _ _ _ ?_); refine HC_ret (HQ_blockR (HQ_thenR ?_)); refine HQ_post rfl rfl (.cons (res_cellA (vs := [_, _, _, _, _, _, _]) rfl (known_L (k := 1) rfl) rfl rfl) .nil) (fun w1 hs1 => ?_)
           (have e1 := g_5 hnf (s := s) ‹k ≠ 1› ‹k ≠ 2› ‹k = 5›
            rw [← hN, hany, if_neg (by decide)] at e1
            refine .inl ⟨by rw [e1], ⟨.mk 0 0 0 0 (unpackB s N) (some (⟨ra, 0, none⟩, cap)) [] none 0, [(ra, .cells (bitsC (unpackB s (8 * s.length)) ++ sp).toArray 4 (0, 0))], bits_in' (by omega) (by omega) (by omega), by rw [e1, erV_mk, erL]; rfl⟩, congrArg Ending.returned (bitsVal s N ra cap).symm, hs1.weakL ((List.cons_sublist_cons).2 (List.nil_sublist _))⟩)
       · try exact Bool.noConfusion h18
         try simp only [ZZ] at h18
         refine HC_seq fun K28 hK28 => HC_region ?_; refine HLp rfl (HLm rfl ?_); refine HL_nil (hK28 _ _ _ _ ?_); refine HC_cond rfl (fun h29 => ?_) (fun h29 => ?_)
         · try exact Bool.noConfusion h29
           try simp only [ZZ] at h29
           refine HC_seq fun K30 hK30 => HC_region ?_; refine HL_r rfl rfl rfl rfl (R_loadA (vs := [_, _, _]) rfl (known_L (k := 1) rfl) rfl rfl rfl rfl) ?_; refine HLm rfl ?_; refine HL_callX rfl rfl rfl (enters_of Tryz.func83 (by kernel_rfl) rfl) hbl (fun q hq => nomatch hq) (fun hok y => ?_) (fun v hv => HQ_panX rfl rfl (by rw [g_6 hnf ‹k ≠ 1› ‹k ≠ 2› ‹k ≠ 5› ‹k = 6›]; exact hv))
           obtain ⟨⟨ya, yb, yc, yd, ybits, ypb, yitems, ypi, ypick⟩, yL, yok, yer⟩ := y
           refine HL_perm List.perm_append_comm ?_
           refine HL_storeA (k := 0) (n := 7) (cs' := #[_, _, _, _, _, _, _]) (vs := #[_, _, _, _, _, _, _]) rfl rfl rfl rfl rfl rfl rfl (by exact Nat.le_of_ble_eq_true rfl) rfl (by first | (simp only [List.set_cons_zero, List.set_cons_succ]; exact rfl) | exact rfl) ?_; refine HL_nil (hK30 _ _ _ _ ?_); refine HC_ret (HQ_blockR (HQ_thenR ?_)); refine HQ_post rfl rfl (.cons (res_cellA (vs := [_, _, _, _, _, _, _]) rfl (known_L (k := 0) rfl) rfl rfl) .nil) (fun w1 hs1 => ?_)
           (have e1 := g_6 hnf (s := s) ‹k ≠ 1› ‹k ≠ 2› ‹k ≠ 5› ‹k = 6›
            refine .inl ⟨by rw [e1]; exact hok, ⟨.mk ya yb yc yd ybits ypb yitems ypi ypick, yL, yok, by rw [e1]; exact yer⟩, rfl, hs1.weakL (.cons _ (.cons _ (List.Sublist.refl _)))⟩)
         · try exact Bool.noConfusion h29
           try simp only [ZZ] at h29
           refine HC_seq fun K31 hK31 => HC_region ?_; refine HLp rfl (HLm rfl ?_); refine HL_nil (hK31 _ _ _ _ ?_); refine HC_cond rfl (fun h32 => ?_) (fun h32 => ?_)
           · try exact Bool.noConfusion h32
             try simp only [ZZ] at h32
             refine HC_seq fun K33 hK33 => HC_region ?_; refine HLm rfl (HL_r rfl rfl rfl rfl (R_strNe rfl rfl) ?_); refine HL_callX rfl rfl rfl (enters_of Tryz.func42 (by kernel_rfl) rfl) (X_need (_) 2) (fun q hq => nomatch hq) (fun hok _ => ?_) (fun v hv => HQ_panX rfl rfl (bad_of (by rw [g_8n hnf ‹k ≠ 1› ‹k ≠ 2› ‹k ≠ 5› ‹k ≠ 6› ‹k = 8› (of_decide_eq_true (Z8.mp hv.1))]) (by decide) hv)); refine HL_nil (hK33 _ _ _ _ ?_); refine HC_seq fun K34 hK34 => ?_
             have hsne : s ≠ [] := of_decide_eq_false (Z7.mp hok)
             have hpos : 0 < s.length := List.length_pos_iff.2 hsne
             refine HC_region (HLm rfl (HL_r rfl rfl rfl rfl (R_indexBs (j := 0) rfl rfl rfl rfl (by omega) rfl) ?_)); refine HLp rfl ?_; refine HL_as (show _ = Value.int .i64 (((s.getD 0 0).toNat : Nat)) from congrArg (Value.int .i64) (wrap_i64 (by omega) (by have := u8_lt (s.getD 0 0); omega))) ?_; refine HLm rfl ?_; refine HL_nil (hK34 _ _ _ _ ?_); refine HC_seq fun K35 hK35 => HC_region ?_; refine HLm rfl ?_
             refine HL_r rfl rfl rfl rfl (R_fieldAddr rfl rfl (by first | (simp only [Nat.zero_add, Nat.reduceAdd, Nat.reduceMul, Nat.zero_mul, Nat.mul_one, Nat.add_zero]; exact rfl) | exact rfl)) ?_; refine HL_r rfl rfl rfl rfl (R_load rfl (known_L (k := 1) rfl) rfl rfl) ?_; refine HL_r rfl rfl rfl rfl (R_lenPl rfl hs rfl) ?_; refine HLp rfl ?_; refine HL_callX rfl rfl rfl (enters_of Tryz.func42 (by kernel_rfl) rfl) (X_need (_) 9) (fun q hq => nomatch hq) (fun hok _ => ?_) (fun v hv => HQ_panX rfl rfl (bad_of (by rw [g_8k hnf ‹k ≠ 1› ‹k ≠ 2› ‹k ≠ 5› ‹k ≠ 6› ‹k = 8› hsne (by have := Z2.1 hv.1; omega)]) (by decide) hv)); refine HL_nil (hK35 _ _ _ _ ?_); refine HC_seq fun K36 hK36 => ?_
             obtain ⟨x, hx⟩ : ∃ x, ins[(s.getD 0 0).toNat]? = some x := ⟨_, List.getElem?_eq_getElem (by have := Z1.mp hok; omega)⟩
             have hxm := List.mem_of_getElem? hx
             have ihx := ih x hxm (hsub x hxm) (s.drop 1) (by rw [List.length_drop]; omega)
             by_cases hgo : (getT x (s.drop 1)).2 = 0 ∧ Nonempty (VR (getT x (s.drop 1)).1)
             rotate_left
             · have hlt : (s.getD 0 0).toNat < ins.length := (List.getElem?_eq_some_iff.1 hx).1
               have hbadx : ∀ {v : Value}, (getT x (s.drop 1)).2 ≠ 0 ∧ v = wrV (getT x (s.drop 1)).2 → (getT (.mk k n p ins) s).2 ≠ 0 ∧ v = wrV (getT (.mk k n p ins) s).2 := fun hv => by rw [g_8 hnf ‹k ≠ 1› ‹k ≠ 2› ‹k ≠ 5› ‹k ≠ 6› ‹k = 8› hsne hx, if_pos hv.1]; exact hv
               exact HC_boom [(0, .int .i64 ((s.getD 0 0).toNat : Int)), (1, .pointer (some ⟨r1, 2, none⟩)), (2, plV ins.length p), (3, .int .i64 ((s.getD 0 0).toNat : Int)), (4, .pointer (some ⟨plB p, plO p + (s.getD 0 0).toNat * 3, none⟩)), (5, x.val), (6, strV s), (7, strV (s.drop 1))] 8 (by kernel_rfl) rfl (by kernel_rfl) rfl (.cons rfl rfl (R_move rfl) <| .cons rfl rfl (R_fieldAddr rfl rfl rfl) <| .cons rfl rfl (R_load rfl (known_L (k := 1) rfl) rfl rfl) <| .cons rfl rfl (R_move rfl) <| .cons rfl rfl (R_indexPl (j := (s.getD 0 0).toNat) rfl hs rfl rfl rfl rfl hlt) <| .cons rfl rfl (R_loadTy (fun q hq => Or.inr hq) rfl hs hx rfl rfl) <| .cons rfl rfl (R_move rfl) <| .cons rfl rfl (R_sliceBs (kl := some (.i64, 1)) (kh := none) (m := 1) (n := s.length) rfl rfl rfl rfl rfl rfl (by omega) (by omega) (show _ = s.drop 1 from by rw [List.take_length])) .nil) rfl rfl (boom_callX rfl (enters_of Tryz.func43 (by kernel_rfl) rfl) ihx (fun h y => hgo ⟨h, ⟨y⟩⟩) (fun q hq => Or.inr hq) (fun v hv => HQ_panX rfl rfl (hbadx hv)))
             obtain ⟨hg0, ⟨x0⟩⟩ := hgo
             have hlt : (s.getD 0 0).toNat < ins.length := (List.getElem?_eq_some_iff.1 hx).1
             refine HC_drawB [tBlk r1 (.mk k n p ins)] [(0, .pure), (1, .pure), (2, .pure), (3, .pure), (4, .pure), (5, .pure), (6, .pure), (7, .pure), (8, .grow (geCall x0 (fun y => y.x.val) (fun y => y.L))), (9, .turn)] 10 [0, 1, 2, 3, 4, 5, 6, 7, 8, 9] (by kernel_rfl) (by kernel_rfl) (fun q hq => List.mem_cons_of_mem _ hq) ?_; refine HB_p (k := 0) rfl rfl rfl rfl rfl (fun _ hS => (R_move rfl)) ?_
             refine HB_p (k := 1) rfl rfl rfl rfl rfl (fun _ hS => (R_fieldAddr rfl rfl (by first | (simp only [Nat.zero_add, Nat.reduceAdd, Nat.reduceMul, Nat.zero_mul, Nat.mul_one, Nat.add_zero]; exact rfl) | exact rfl))) ?_; refine HB_p (k := 2) rfl rfl rfl rfl rfl (fun _ hS => (R_load rfl (.inl (hS _ (mem_nth (n := 0) rfl))) rfl rfl)) ?_; refine HB_p (k := 3) rfl rfl rfl rfl rfl (fun _ hS => (R_move rfl)) ?_; refine HB_p (k := 4) rfl rfl rfl rfl rfl (fun _ _ => R_indexPl (j := (s.getD 0 0).toNat) rfl hs rfl rfl rfl rfl hlt) ?_; refine HB_p (k := 5) rfl rfl rfl rfl rfl (fun _ _ => R_loadTy (fun q hq => Or.inr hq) rfl hs hx rfl rfl) ?_; refine HB_p (k := 6) rfl rfl rfl rfl rfl (fun _ hS => (R_move rfl)) ?_; refine HB_p (k := 7) rfl rfl rfl rfl rfl (fun _ _ => R_sliceBs (kl := some (.i64, 1)) (kh := none) (m := 1) (n := s.length) rfl rfl rfl rfl rfl rfl (by omega) (by omega) (show _ = s.drop 1 from by rw [List.take_length])) ?_; refine HB_callRE (k := 8) rfl rfl rfl rfl rfl (enters_of Tryz.func43 (by kernel_rfl) rfl) (ihx.toT (fun v hv => hv.1 hg0)) (fun q hq => Or.inr hq) fun y => ?_; obtain ⟨⟨ya, yb, yc, yd, ybits, ypb, yitems, ypi, ypick⟩, yL, yok, yer⟩ := y; refine HB_buildSliceT (k := 9) (n := 1) (sz := 7) (vs := [_]) (zs := [_, _, _, _, _, _, _]) (r := [_, _, _, _, _, _, _]) rfl rfl rfl rfl (fun q hq => List.mem_append_right _ (List.mem_cons_of_mem _ hq)) rfl rfl rfl rfl rfl rfl rfl (by rw [made_list]; exact rfl) rfl fun rv => ?_; refine HB_end ?_; refine HL_perm (List.Perm.cons _ List.perm_append_comm) ?_; refine HL_r rfl rfl rfl rfl (R_build (r := [_, _, _, _, _, _, _]) rfl rfl) ?_
             refine HL_storeA (k := 1) (n := 7) (cs' := #[_, _, _, _, _, _, _]) (vs := #[_, _, _, _, _, _, _]) rfl rfl rfl rfl rfl rfl rfl (by exact Nat.le_of_ble_eq_true rfl) rfl (by first | (simp only [List.set_cons_zero, List.set_cons_succ]; exact rfl) | exact rfl) ?_; refine HL_nil (hK36 _ _ _ _ ?_); refine HC_ret (HQ_blockR (HQ_thenR ?_)); refine HQ_post rfl rfl (.cons (res_cellA (vs := [_, _, _, _, _, _, _]) rfl (known_L (k := 1) rfl) rfl rfl) .nil) (fun w1 hs1 => ?_)
             (have e1 := g_8 hnf (s := s) ‹k ≠ 1› ‹k ≠ 2› ‹k ≠ 5› ‹k ≠ 6› ‹k = 8› hsne hx
              rw [if_neg (by rw [hg0]; decide)] at e1
              refine .inl ⟨by rw [e1], ⟨.mk 0 0 0 0 [] none [.mk ya yb yc yd ybits ypb yitems ypi ypick] (some (⟨rv, 0, none⟩, 1)) ((s.getD 0 0).toNat : Int), [(rv, _)] ++ yL, items_in (by simp) ⟨Nat.le_refl _, fun _ => ⟨rfl, _, _, _, List.mem_singleton_self _, rfl⟩⟩ (fun z hz => by rw [List.mem_singleton.1 hz]; exact yok) (by have := u8_lt (s.getD 0 0); unfold I64; omega), by rw [e1, erV_mk, erL, erL, yer]; rfl⟩, rfl, hs1.weakL ((List.cons_sublist_cons).2 (.cons _ (.cons _ (List.Sublist.refl _))))⟩)
           · try exact Bool.noConfusion h32
             try simp only [ZZ] at h32
             refine HC_skip (HQ_blockN (hK8 _ _ _ _ ?_)); refine HC_seq fun K37 hK37 => HC_region ?_; refine HL_alloc (cs := #[_, _, _, _, _, _, _]) rfl rfl rfl rfl fun r3 => ?_; refine HL_nil (hK37 _ _ _ _ ?_); refine HC_seq fun K38 hK38 => ?_; refine HC_seq fun K39 hK39 => ?_
             have hk3 : k = 3 ∨ k = 4 ∨ k = 7 := by have h1 : k ≠ 1 := ‹_›; have h2 : k ≠ 2 := ‹_›; have h5 : k ≠ 5 := ‹_›; have h6 : k ≠ 6 := ‹_›; have h8 : k ≠ 8 := ‹_›; omega
             have hmX := inX_many (s := s) hk8 ho hk3
             have hgr := (g_r (s := s) hnf ‹k ≠ 1› ‹k ≠ 2› ‹k ≠ 5› ‹k ≠ 6› ‹k ≠ 8›).trans (rowT_eq hmX)
             have hpp := X_partsP (s := s) ht hc hk3 hl
             refine HC_region (HL_r rfl rfl rfl rfl (R_loadA (vs := [_, _, _]) rfl (known_L (k := 2) rfl) rfl rfl rfl rfl) (HLm rfl ?_)); refine HL_callX rfl rfl rfl (enters_of Tryz.func84 (by kernel_rfl) rfl) hpp (fun q hq => Or.inr hq) (fun hp0 x => ?_) (fun v hv => HQ_panX rfl rfl (by rw [hgr, if_pos hv.1]; exact hv))
             obtain ⟨prow, hprow⟩ := x
             refine HL_perm List.perm_append_comm ?_
             have hsg := rowP_seg (e := 95) hprow (by decide)
             have hmm0 : (manyT k n ins s).2 = 0 := Decidable.byContradiction fun hm => hm (by rw [← parts_m hm]; exact hp0)
             have hPl : (psT k n ins s).length ≤ 512 := by unfold psT; rw [pairL_len, tysN_len]; exact (many_ok hk8 ho hk3 hmm0).1
             refine HL_r rfl rfl rfl rfl (R_lenPl rfl hsg rfl) ?_; refine HLm rfl ?_; refine HL_nil (hK39 _ _ _ _ ?_); refine HC_block ?_; rw [if_neg (by rw [hp0]; decide)] at hgr; refine HC_loop (σ := Nat × List Vl × Row × List (Nat × Obj)) (fun q => q.1 = q.2.1.length ∧ q.1 ≤ (psT k n ins s).length ∧ rowOk 7 q.1 (vlsC q.2.1) q.2.2.1 ∧ (∀ x ∈ q.2.1, Vl.In q.2.2.2 x) ∧ runG (((psT k n ins s).take q.1).map (gq s)) = (q.2.1.map erV, 0)) (fun q => [(1, strV s), (2, pt0 r1), (4, pt0 r2), (9, pt0 r3), (96, plV (psT k n ins s).length (rowP prow)), (97, .int .i64 ((psT k n ins s).length : Int)), (98, .int .i64 (q.1 : Int))]) (fun q => (r3, .cells #[.int .u64 0, .int .u64 0, .int .u64 0, .int .u64 0, .slice none 0 0, rowV q.1 q.2.2.1, .int .i64 0] 31 (0, 0)) :: vBlk r2 v0L :: tBlk r1 (.mk k n p ins) :: (rowL 31 (vlsC q.2.1) q.2.2.1 ++ (rowL 95 (prsC (psT k n ins s)) prow ++ q.2.2.2))) (fun _ _ _ => True) (fun q => (psT k n ins s).length - q.1) (0, [], none, []) ⟨rfl, Nat.zero_le _, ⟨rfl, rfl⟩, fun x hx => (nomatch hx), rfl⟩ (.cons rfl (.cons rfl (.cons rfl (.cons rfl (.cons rfl (.cons rfl (.cons rfl .nil))))))) (by simp only [rowL, List.nil_append, List.append_nil]; exact List.Sublist.refl _) (fun _ _ h => h) ?_; rintro ⟨i, vs, row, E⟩ ⟨hvl, him, hrow, hin, hrun⟩; simp only at hvl him hrow hin hrun; refine HC_seq fun K40 hK40 => HC_region ?_; refine HLp rfl ?_; refine HL_nil (hK40 _ _ _ _ ?_); refine HC_seq fun K41 hK41 => ?_; refine HC_cond rfl (fun h42 => ?_) (fun h42 => ?_)
             · try exact Bool.noConfusion h42
               try simp only [ZZ] at h42
               refine HC_skip (hK41 _ _ _ _ ?_); refine HC_seq fun K43 hK43 => HC_block ?_; refine HC_seq fun K44 hK44 => ?_
               obtain ⟨⟨x, f, f2⟩, hq⟩ : ∃ q, (psT k n ins s)[i]? = some q := ⟨_, List.getElem?_eq_getElem (by omega)⟩
               obtain ⟨hmm, hft, htl⟩ := ps_ok hp0 (List.mem_of_getElem? hq)
               have hxm := ps_get (hmX hmm) hq
               simp only at hft htl hxm
               have ihx := ih x hxm (hsub x hxm) ((s.take f2).drop f) (by rw [List.length_drop, List.length_take]; omega)
               obtain ⟨xk, xn, xp, xi⟩ := x
               refine HC_region ?_
               refine HL_r rfl rfl rfl rfl (R_indexPl (j := i) rfl hsg rfl rfl rfl (by first | rfl | omega) (by omega)) ?_; refine HL_r rfl rfl rfl rfl (R_loadPlA (vs := prC (.mk xk xn xp xi, f, f2)) (fun q hq => Or.inl (List.mem_cons_of_mem _ (List.mem_cons_of_mem _ (List.mem_cons_of_mem _ (List.mem_append_right _ (List.mem_append_left _ hq)))))) rfl hsg (by omega) rfl rfl (cat_get prC_len hq) (prC_len _)) ?_; refine HL_alloc (cs := #[_, _, _, _, _]) rfl rfl rfl rfl fun r4 => ?_
               refine HL_storeA (k := 0) (n := 5) (cs' := #[_, _, _, _, _]) (vs := #[_, _, _, _, _]) rfl rfl rfl rfl rfl rfl rfl (by exact Nat.le_of_ble_eq_true rfl) rfl (by first | (simp only [List.set_cons_zero, List.set_cons_succ]; exact rfl) | exact rfl) ?_; refine HL_nil (hK44 _ _ _ _ ?_)
               by_cases hgo : (getT (.mk xk xn xp xi) ((s.take f2).drop f)).2 = 0 ∧ Nonempty (VR (getT (.mk xk xn xp xi) ((s.take f2).drop f)).1)
               rotate_left
               · have hbadx : ∀ {v : Value}, (getT (.mk xk xn xp xi) ((s.take f2).drop f)).2 ≠ 0 ∧ v = wrV (getT (.mk xk xn xp xi) ((s.take f2).drop f)).2 → (getT (.mk k n p ins) s).2 ≠ 0 ∧ v = wrV (getT (.mk k n p ins) s).2 := fun hv => by
                   have e1 : (psT k n ins s).map (gq s) = ((psT k n ins s).take i).map (gq s) ++ gq s (.mk xk xn xp xi, f, f2) :: ((psT k n ins s).drop (i + 1)).map (gq s) := by
                     rw [← List.map_cons, ← drop_cons' hq, ← List.map_append, List.take_append_drop]
                   have e2 := runG_bad (r := ((psT k n ins s).drop (i + 1)).map (gq s)) (f := getT (.mk xk xn xp xi)) (s := (s.take f2).drop f) hrun hv.1
                   have e3 : (runG ((psT k n ins s).map (gq s))).2 = (getT (.mk xk xn xp xi) ((s.take f2).drop f)).2 := by rw [e1]; exact e2
                   rw [hgr, if_pos (by rw [e3]; exact hv.1)]; exact ⟨by rw [e3]; exact hv.1, by rw [e3]; exact hv.2⟩
                 exact HC_boom [(0, .pointer (some ⟨r3, 5, none⟩)), (1, rowV i row), (2, .pointer (some ⟨r4, 0, none⟩)), (3, Ty.val (.mk xk xn xp xi)), (4, strV s), (5, .pointer (some ⟨r4, 3, none⟩)), (6, .int .i64 (f : Int)), (7, .pointer (some ⟨r4, 4, none⟩)), (8, .int .i64 (f2 : Int)), (9, strV ((s.take f2).drop f))] 10 (by kernel_rfl) rfl (by kernel_rfl) rfl (.cons rfl rfl (R_fieldAddr rfl rfl rfl) <| .cons rfl rfl (R_load rfl (known_L (k := 1) rfl) rfl rfl) <| .cons rfl rfl (R_fieldAddr rfl rfl rfl) <| .cons rfl rfl (R_loadA (vs := [_, _, _]) rfl (known_L (k := 0) rfl) rfl rfl rfl rfl) <| .cons rfl rfl (R_move rfl) <| .cons rfl rfl (R_fieldAddr rfl rfl rfl) <| .cons rfl rfl (R_load rfl (known_L (k := 0) rfl) rfl rfl) <| .cons rfl rfl (R_fieldAddr rfl rfl rfl) <| .cons rfl rfl (R_load rfl (known_L (k := 0) rfl) rfl rfl) <| .cons rfl rfl (R_sliceBs (kl := some (.i64, (f : Int))) (kh := some (.i64, (f2 : Int))) (m := f) (n := f2) rfl rfl rfl rfl rfl rfl hft htl rfl) .nil) rfl rfl (boom_callX rfl (enters_of Tryz.func43 (by kernel_rfl) rfl) ihx (fun h y => hgo ⟨h, ⟨y⟩⟩) (fun q hq => Or.inr hq) (fun v hv => HQ_panX rfl rfl (hbadx hv)))
               obtain ⟨hg0, ⟨x0⟩⟩ := hgo
               refine HC_drawB [(r3, .cells #[.int .u64 0, .int .u64 0, .int .u64 0, .int .u64 0, .slice none 0 0, rowV i row, .int .i64 0] 31 (0, 0)), (r4, .cells (prC (.mk xk xn xp xi, f, f2)).toArray 95 (0, 0))] [(0, .pure), (1, .pure), (2, .pure), (3, .pure), (4, .pure), (5, .pure), (6, .pure), (7, .pure), (8, .pure), (9, .pure), (10, .grow (geCall x0 (fun y => y.x.val) (fun y => y.L))), (11, .turn)] 12 [0, 1, 2, 3, 4, 5, 6, 7, 8, 9, 10, 11] (by kernel_rfl) (by kernel_rfl) (fun q hq => by rcases List.mem_cons.1 hq with rfl | hq; exact List.mem_cons_of_mem _ List.mem_cons_self; rw [List.mem_singleton.1 hq]; exact List.mem_cons_self) ?_
               refine HB_p (k := 0) rfl rfl rfl rfl rfl (fun _ hS => (R_fieldAddr rfl rfl (by first | (simp only [Nat.zero_add, Nat.reduceAdd, Nat.reduceMul, Nat.zero_mul, Nat.mul_one, Nat.add_zero]; exact rfl) | exact rfl))) ?_; refine HB_p (k := 1) rfl rfl rfl rfl rfl (fun _ hS => (R_load rfl (.inl (hS _ (mem_nth (n := 0) rfl))) rfl rfl)) ?_
               refine HB_p (k := 2) rfl rfl rfl rfl rfl (fun _ hS => (R_fieldAddr rfl rfl (by first | (simp only [Nat.zero_add, Nat.reduceAdd, Nat.reduceMul, Nat.zero_mul, Nat.mul_one, Nat.add_zero]; exact rfl) | exact rfl))) ?_; refine HB_p (k := 3) rfl rfl rfl rfl rfl (fun _ hS => (R_loadA (vs := [_, _, _]) rfl (.inl (hS _ (mem_nth (n := 1) rfl))) rfl rfl rfl rfl)) ?_; refine HB_p (k := 4) rfl rfl rfl rfl rfl (fun _ hS => (R_move rfl)) ?_
               refine HB_p (k := 5) rfl rfl rfl rfl rfl (fun _ hS => (R_fieldAddr rfl rfl (by first | (simp only [Nat.zero_add, Nat.reduceAdd, Nat.reduceMul, Nat.zero_mul, Nat.mul_one, Nat.add_zero]; exact rfl) | exact rfl))) ?_; refine HB_p (k := 6) rfl rfl rfl rfl rfl (fun _ hS => (R_load rfl (.inl (hS _ (mem_nth (n := 1) rfl))) rfl rfl)) ?_
               refine HB_p (k := 7) rfl rfl rfl rfl rfl (fun _ hS => (R_fieldAddr rfl rfl (by first | (simp only [Nat.zero_add, Nat.reduceAdd, Nat.reduceMul, Nat.zero_mul, Nat.mul_one, Nat.add_zero]; exact rfl) | exact rfl))) ?_; refine HB_p (k := 8) rfl rfl rfl rfl rfl (fun _ hS => (R_load rfl (.inl (hS _ (mem_nth (n := 1) rfl))) rfl rfl)) ?_; refine HB_p (k := 9) rfl rfl rfl rfl rfl (fun _ _ => R_sliceBs (kl := some (.i64, (f : Int))) (kh := some (.i64, (f2 : Int))) (m := f) (n := f2) rfl rfl rfl rfl rfl rfl hft htl rfl) ?_; refine HB_callRE (k := 10) rfl rfl rfl rfl rfl (enters_of Tryz.func43 (by kernel_rfl) rfl) (ihx.toT (fun v hv => hv.1 hg0)) (fun q hq => Or.inr hq) fun y => ?_; obtain ⟨⟨ya, yb, yc, yd, ybits, ypb, yitems, ypi, ypick⟩, yL, yok, yer⟩ := y
               refine HB_buildSliceT (k := 11) (n := 1) (sz := 7) (vs := [_]) (zs := [_, _, _, _, _, _, _]) (r := [_, _, _, _, _, _, _]) rfl rfl rfl rfl (fun q hq => List.mem_append_right _ (by rcases List.mem_cons.1 hq with rfl | hq; exact List.mem_cons_of_mem _ List.mem_cons_self; rw [List.mem_singleton.1 hq]; exact List.mem_cons_self)) rfl rfl rfl rfl rfl rfl rfl (by rw [made_list]; exact rfl) rfl fun rv => ?_; refine HB_end ?_; refine HL_perm (perm_g ..) ?_; refine HL_appendRow (L0 := _ :: _ :: _ :: _ :: _ :: (yL ++ (rowL 95 (prsC (psT k n ins s)) prow ++ E))) (xs := vlsC vs) (row := row) (n := i) (sz := 7) (b := 88) (news := [_, _, _, _, _, _, _]) (List.Perm.refl _) rfl rfl rfl rfl (known_L (k := 0) rfl) rfl rfl rfl rfl rfl (by decide) rfl rfl rfl (by decide) hrow (by omega) (by omega) fun ra cap sp hra => ?_
               refine HL_r rfl rfl rfl rfl (R_fieldAddr rfl rfl (by first | (simp only [Nat.zero_add, Nat.reduceAdd, Nat.reduceMul, Nat.zero_mul, Nat.mul_one, Nat.add_zero]; exact rfl) | exact rfl)) ?_; refine HL_store (k := 3) (cs' := #[.int .u64 0, .int .u64 0, .int .u64 0, .int .u64 0, .slice none 0 0, rowV (i + 1) (some (ra, cap, sp)), .int .i64 0]) rfl rfl rfl rfl rfl rfl rfl rfl rfl rfl ?_; refine HL_nil ?_; refine HQ_blockN (hK43 _ _ _ _ ?_); refine HC_region ?_
               refine HLp rfl ?_; refine HL_as (show _ = Value.int .i64 ((i + 1 : Nat) : Int) from by rw [wrap_i64 (by omega) (by omega)]; congr 1 <;> omega) ?_; refine HLm rfl (HL_nil (HQ_then ?_))
               have hsn : ((psT k n ins s).take (i + 1)).map (gq s) = ((psT k n ins s).take i).map (gq s) ++ [gq s (.mk xk xn xp xi, f, f2)] := by rw [take_snoc' hq, List.map_append]; rfl
               have hgy : getT (.mk xk xn xp xi) ((s.take f2).drop f) = (erV (.mk ya yb yc yd ybits ypb yitems ypi ypick), 0) := Prod.ext yer.symm hg0
               have hvc : vlsC vs ++ Vl.cells (.mk ya yb yc yd ybits ypb yitems ypi ypick) = vlsC (vs ++ [.mk ya yb yc yd ybits ypb yitems ypi ypick]) := by unfold vlsC; rw [List.flatMap_append]; simp
               refine HQ_perm' (perm_h ..) ?_
               exact HQ_again (i + 1, vs ++ [.mk ya yb yc yd ybits ypb yitems ypi ypick], some (ra, cap, sp), yL ++ E) ⟨by simp only [List.length_append, List.length_singleton]; omega, by simp only; omega, by simp only; rw [← hvc]; exact hra, fun z hz => by rcases List.mem_append.1 hz with hz | hz; exact (hin z hz).mono (fun q hq => List.mem_append_right _ hq); rw [List.mem_singleton.1 hz]; exact yok.mono (fun q hq => List.mem_append_left _ hq), by simp only; rw [hsn, List.map_append]; exact runG_snoc hrun hgy⟩ (by simp only; omega) (.cons rfl (.cons rfl (.cons rfl (.cons rfl (.cons rfl (.cons rfl (.cons rfl .nil))))))) (by simp only; rw [← hvc]; exact .cons _ (.cons _ (List.Sublist.refl _))) (fun _ _ h => h)
             · try exact Bool.noConfusion h42
               try simp only [ZZ] at h42
               refine HC_exit (HQ_thenE ?_); refine HQ_thenE (HQ_blockE (hK38 _ _ _ _ ?_)); refine HC_seq fun K45 hK45 => ?_
               have honeV : ([.int .u64 0, .int .u64 0, .int .u64 0, .int .u64 0, .slice none 0 0, rowV i row, .int .i64 0] : List Value).all oneB = true := by cases row <;> rfl
               refine HC_region (HL_r rfl rfl rfl rfl (R_loadArr (xs := [.int .u64 0, .int .u64 0, .int .u64 0, .int .u64 0, .slice none 0 0, rowV i row, .int .i64 0]) (n := 7) rfl (known_L (k := 0) rfl) rfl rfl rfl) (HL_storeArr (k := 1) (n := 7) (ys := [.int .u64 0, .int .u64 0, .int .u64 0, .int .u64 0, .slice none 0 0, rowV i row, .int .i64 0]) rfl rfl rfl rfl rfl rfl rfl honeV rfl ?_)); refine HL_nil (hK45 _ _ _ _ ?_); refine HC_ret ?_; refine HQ_post rfl rfl (.cons (res_cellA (vs := [_, _, _, _, _, _, _]) rfl (known_L (k := 1) rfl) rfl rfl) .nil) (fun w1 hs1 => ?_)
               (have e1 := hgr
                have hiM : i = (psT k n ins s).length := by omega
                rw [hiM, List.take_length] at hrun; rw [hrun, if_neg (by simp)] at e1; rw [hiM] at hvl hrow; rw [hvl] at hrow
                have hvr : rowV i row = plV vs.length (rowP row) := by rw [hiM, hvl]; exact (rowP_V _ _ (fun h => by rw [h] at hrow; exact hrow.1)).symm
                refine .inl ⟨by rw [e1], ⟨.mk 0 0 0 0 [] none vs (rowP row) 0, rowL 31 (vlsC vs) row ++ E, items_in (by omega) (rowP_seg hrow (by decide)) hin i0, by rw [e1, erV_mk, erL_map]; rfl⟩, congrArg (fun z => Ending.returned (Value.agg #[.int .u64 0, .int .u64 0, .int .u64 0, .int .u64 0, .slice none 0 0, z, .int .i64 0])) hvr, hs1.weakL (.cons _ (.cons _ (.cons _ ((List.Sublist.refl _).append (List.sublist_append_right _ _)))))⟩)
   skip)
end Go.Proofs.YtlcbfphioeppaaaGreatDoor
namespace Go.Proofs.YtlcbfphioeppaaaGreatDoor
set_option linter.all false
open Go.SL Go.RowKit Go.Shelf
open Go.Proofs (Enters enters_of)
/-! ### Get: what is wrong is recovered -/
section
variable {c : Cx} {l : List (Nat × Value)} {L : List (Nat × Obj)} {X : XP} {Q : Exit → Act → List Frame → World → Prop} {d : List Deferred} {cs : List Frame}
variable {ops : Array Oper} {rest : List Nat} {k : Nat} {o : Oper}
theorem HS_cont (h : HS c d l L X ops rest cs Q) : HQ c d l L X ((fun e a w => e = Exit.normal ∧ wpOpsSIn (FW none) 0 c.P ops Q rest a cs w) .normal) := fun a w hf hs => ⟨rfl, h a w hf hs⟩
theorem HS_one (ho : nth ops.toList k = some o) (hp : ∀ (ρ : Operand → Value) w x w', (execOp ρ o).run c.P w = .ok x w' → (∃ v, x = .value v) ∨ x = .skip) (hn : noDefer o.op = true) (hro : c.ro = none) (h : HL c d l L X ops [o] (fun e a w => e = Exit.normal ∧ wpOpsSIn (FW none) 0 c.P ops Q rest a cs w)) : HS c d l L X ops (k :: rest) cs Q := fun a w hf hs => by
  have hk : ops[k]? = some o := by rw [← nth_arr ho]
  have h1 := h a w hf hs
  unfold wpListIn at h1
  simp only [wpOpsSIn, hk]; refine ⟨wide_about, ?_⟩
  by_cases hw : Region.wanted o (yielded ops a.tmps) = true
  · rw [if_pos hw] at h1 ⊢
    obtain ⟨_, h2⟩ := h1
    rw [Oper.semAt_eq _ _ _ (noDefer_d hn)] at h2
    cases e : (execOp a.eval o).run c.P w with
    | ok x w' =>
      rw [e] at h2
      rcases hp a.eval w x w' e with ⟨v, rfl⟩ | rfl
      · exact h2.2
      · exact h2.2
    | halt x w' =>
      rw [e] at h2
      cases x with
      | panic v => exact absurd h2.1 (by simp)
      | _ => exact h2.elim
  · rw [if_neg hw] at h1 ⊢
    exact h1.2.2
theorem plain_alloc {P : Program} {dst : Option Nat} {t ty : TypeId} {ps : String} {af : Array Edge} {gd : Option (Nat × Bool)} (ρ : Operand → Value) (w : World) (x : Next) (w' : World) (h : (execOp ρ ⟨dst, .alloc t, ty, ps, af, gd⟩).run P w = .ok x w') : (∃ v, x = .value v) ∨ x = .skip := by
  simp only [execOp, Sem.run_bind] at h
  cases e : (Instr.alloc t true (.tuple #[])).run P w with
  | ok v w2 => rw [e] at h; simp [Result.andThen] at h; exact .inl ⟨v, h.1.symm⟩
  | halt v w2 => rw [e] at h; simp [Result.andThen] at h
theorem plain_store {P : Program} {dst : Option Nat} {t ty : TypeId} {a b : Operand} {ps : String} {af : Array Edge} {gd : Option (Nat × Bool)} (ρ : Operand → Value) (w : World) (x : Next) (w' : World) (h : (execOp ρ ⟨dst, .store t a b, ty, ps, af, gd⟩).run P w = .ok x w') : (∃ v, x = .value v) ∨ x = .skip := by
  simp only [execOp, Sem.run_bind] at h
  cases e : (Instr.storeAt t (ρ a) (ρ b)).run P w with
  | ok v w2 => rw [e] at h; simp [Result.andThen] at h; exact .inr h.1.symm
  | halt v w2 => rw [e] at h; simp [Result.andThen] at h
end
def gT (rv re : Nat) (V : Array Value) (e : Int) : List (Nat × Obj) := [(rv, .cells V 31 (0, 0)), (re, .cells #[.int .i64 e] 34 (0, 0))]
abbrev VZ0 : Array Value := #[.int .u64 0, .int .u64 0, .int .u64 0, .int .u64 0, .slice none 0 0, .slice none 0 0, .int .i64 0]
set_option maxRecDepth 10000 in
theorem D_ret (rv re : Nat) (hne : rv ≠ re) (V : Array Value) (hV : V.size = 7) (e0 : Int) (w : World) (hT : Has (gT rv re V e0) w) : CallsDIn (FW none) 0 Tryz.prog 40 [pt0 rv, pt0 re].toArray .returning w (fun e u' w' => (∃ x, e = .returned x) ∧ settle u' = .returning ∧ Keep [rv, re] w w' ∧ Has (gT rv re V e0) w') := by
  refine callsD_of_HS (cxT Tryz.prog w (gT rv re V e0) [] Tryz.f40.ntmps) Tryz.func40 rfl rfl rfl rfl (L := gT rv re V e0) (X := fun _ _ => True) (St.startT hT (fun p hp => nomatch hp) (List.pairwise_pair.2 hne) (fun p hp => nomatch hp)) fun c₀ cs hu => ?_
  obtain ⟨hrv, hrc⟩ := recV_ret (cs := cs) hu
  refine HCS_seq fun K hK => ?_; refine HCS_region ?_; change HS _ _ _ _ _ _ [0, 1, 2, 3, 4, 5, 6, 7] _ _; refine HS_recover rfl rfl rfl rfl (fun a w hf => rfl) hrv hrc ?_; refine HS_r rfl rfl rfl rfl (R_pure rfl rfl rfl) ?_; refine HS_r rfl rfl rfl rfl (R_move rfl) ?_; refine HS_r rfl rfl rfl rfl (R_extract rfl rfl) ?_; refine HS_r rfl rfl rfl rfl (R_extract rfl rfl) ?_; refine HS_one rfl plain_alloc rfl rfl (HL_alloc (cs := #[_]) rfl rfl rfl rfl fun r2 => HL_nil (HS_cont ?_)); refine HS_one rfl plain_store rfl rfl (HL_storeA (k := 0) (n := 1) (cs' := #[_]) (vs := #[_]) rfl rfl rfl rfl rfl rfl rfl (by exact Nat.le_of_ble_eq_true rfl) rfl rfl (HL_nil (HS_cont ?_))); refine HS_r rfl rfl rfl rfl (R_assign rfl) ?_; refine HS_nil ?_; refine hK _ _ _ _ _ (HCS_of rfl ?_); clear hK K; refine HC_seq fun K1 hK1 => HC_region ?_; refine HLm rfl ?_; refine HL_nil (hK1 _ _ _ _ ?_); refine HC_cond rfl (fun h2 => ?_) (fun h2 => ?_)
  · try exact Bool.noConfusion h2
  · try exact Bool.noConfusion h2
    try simp only [ZZ] at h2
    refine HC_skip ?_; refine HQ_postSN (u' := .returning) rfl rfl rfl .nil (fun w1 hs1 => ?_); refine ⟨⟨_, rfl⟩, rfl, by have := hs1.keep; simpa [cxT, gT] using this, fun p hp => ?_⟩; exact (hs1.own p (List.mem_cons_of_mem _ hp)).2.2
set_option maxRecDepth 10000 in
theorem D_pan (rv re : Nat) (hne : rv ≠ re) (V : Array Value) (hV : V.size = 7) (e0 : Int) (e1 : Int) (w : World) (hT : Has (gT rv re V e0) w) : CallsDIn (FW none) 0 Tryz.prog 40 [pt0 rv, pt0 re].toArray (.panicking (panE (wrV e1))) w (fun e u' w' => (∃ x, e = .returned x) ∧ settle u' = .returning ∧ Keep [rv, re] w w' ∧ Has (gT rv re VZ0 e1) w') := by
  refine callsD_of_HS (cxT Tryz.prog w (gT rv re V e0) [] Tryz.f40.ntmps) Tryz.func40 rfl rfl rfl rfl (L := gT rv re V e0) (X := fun _ _ => True) (St.startT hT (fun p hp => nomatch hp) (List.pairwise_pair.2 hne) (fun p hp => nomatch hp)) fun c₀ cs hu => ?_
  obtain ⟨hrv, hrc⟩ := recV_pan (cs := cs) hu
  refine HCS_seq fun K hK => ?_; refine HCS_region ?_; change HS _ _ _ _ _ _ [0, 1, 2, 3, 4, 5, 6, 7] _ _; refine HS_recover rfl rfl rfl rfl (fun a w hf => rfl) hrv hrc ?_; refine HS_r rfl rfl rfl rfl (R_pure rfl rfl rfl) ?_; refine HS_r rfl rfl rfl rfl (R_move rfl) ?_; refine HS_r rfl rfl rfl rfl (R_extract rfl rfl) ?_; refine HS_r rfl rfl rfl rfl (R_extract rfl rfl) ?_; refine HS_one rfl plain_alloc rfl rfl (HL_alloc (cs := #[_]) rfl rfl rfl rfl fun r2 => HL_nil (HS_cont ?_)); refine HS_one rfl plain_store rfl rfl (HL_storeA (k := 0) (n := 1) (cs' := #[_]) (vs := #[_]) rfl rfl rfl rfl rfl rfl rfl (by exact Nat.le_of_ble_eq_true rfl) rfl rfl (HL_nil (HS_cont ?_))); refine HS_r rfl rfl rfl rfl (R_assign rfl) ?_; refine HS_nil ?_; refine hK _ _ _ _ _ (HCS_of rfl ?_); clear hK K; refine HC_seq fun K1 hK1 => HC_region ?_; refine HLm rfl ?_; refine HL_nil (hK1 _ _ _ _ ?_); refine HC_cond rfl (fun h2 => ?_) (fun h2 => ?_)
  · try exact Bool.noConfusion h2
    try simp only [ZZ] at h2
    refine HC_drawB [(r2, .cells #[.int .i64 e1] 55 (0, 0))] [(0, .pure), (1, .pure), (2, .pure), (3, .turn), (4, .turn)] 5 [0, 1, 2, 3, 4] (by kernel_rfl) (by kernel_rfl) (by first | exact (fun _ h => absurd h List.not_mem_nil) | simp [SubS] | (intro p hp; simp [hp])) ?_; refine HB_p (k := 0) rfl rfl rfl rfl rfl (fun _ hS => (R_build (r := [_, _, _, _, _, _, _]) rfl rfl)) ?_
    refine HB_p (k := 1) rfl rfl rfl rfl rfl (fun _ hS => (R_fieldAddr rfl rfl (by first | (simp only [Nat.zero_add, Nat.reduceAdd, Nat.reduceMul, Nat.zero_mul, Nat.mul_one, Nat.add_zero]; exact rfl) | exact rfl))) ?_; refine HB_p (k := 2) rfl rfl rfl rfl rfl (fun _ hS => (R_load rfl (.inl (hS _ (mem_nth (n := 0) rfl))) rfl rfl)) ?_; refine HB_storeArr (k := 3) (q := 1) (n := 7) (ys := [.int .u64 0, .int .u64 0, .int .u64 0, .int .u64 0, .slice none 0 0, .slice none 0 0, .int .i64 0]) rfl rfl rfl rfl rfl rfl rfl rfl hV rfl rfl (by simp [SubS]) ?_
    refine HB_store (k := 4) (q := 2) rfl rfl rfl rfl rfl rfl rfl rfl rfl (by first | (simp only [List.setIfInBounds_toArray, List.set_cons_zero, List.set_cons_succ]; exact rfl) | exact rfl) (by first | (simp only [List.set_cons_zero, List.set_cons_succ]; exact rfl) | exact rfl) (by first | exact (fun _ h => absurd h List.not_mem_nil) | simp [SubS] | (intro p hp; simp [hp])) ?_; refine HB_end ?_; refine HL_nil ?_; refine HQ_postSN (u' := .panicking [{ v := wrV e1, recovered := true }]) rfl rfl rfl .nil (fun w1 hs1 => ?_); refine ⟨⟨_, rfl⟩, rfl, by have := hs1.keep; simpa [cxT, gT] using this, fun p hp => ?_⟩; exact (hs1.own p (List.mem_cons_of_mem _ hp)).2.2
  · try exact Bool.noConfusion h2
end Go.Proofs.YtlcbfphioeppaaaGreatDoor
namespace Go.Proofs.YtlcbfphioeppaaaGreatDoor
set_option linter.all false
open Go.SL Go.RowKit Go.Shelf
open Go.Proofs (Enters enters_of)
/-! ### Get -/
theorem getT_bad (t : Ty) (s : BS) : (getT t s).2 ≠ 0 → (getT t s).1 = v0L := by
  obtain ⟨k, n, p, ins⟩ := t
  rw [getT]
  unfold decT rowT
  dsimp only
  repeat' split
  all_goals first | (intro _; rfl) | (intro h; exact absurd rfl h)
def getR (t : Ty) (s : BS) : Vl × Int := if chk t 0 ≠ 0 then (v0L, chk t 0) else if 65536 < s.length then (v0L, 5) else getT t s
theorem v0_in : Vl.In [] v0L := .mk u0 u0 u0 u0 (by decide) rfl (by decide) rfl i0 (fun x hx => nomatch hx)
section
variable {c : Cx} {l : List (Nat × Value)} {L L0 : List (Nat × Obj)} {X : XP} {d : List Deferred} {fn : Func} {R : Ending → World → Prop} {rv re : Nat} {V : Array Value} {e0 e1 : Int}
theorem gT_has {w : World} (hs : St c (gT rv re V e0 ++ L0) X w) : Has (gT rv re V e0) w ∧ rv ≠ re := ⟨fun p hp => (hs.own p (List.mem_append_left _ hp)).2.2, by
  have := (List.pairwise_append.1 hs.distinct).1
  exact (List.pairwise_cons.1 this).1 _ (List.mem_singleton_self _)⟩
theorem gT_turn {V' : Array Value} {w w' : World} (hs : St c (gT rv re V e0 ++ L0) X w) (hk : Keep [rv, re] w w') (hT : Has (gT rv re V' e1) w') : St c (gT rv re V' e1 ++ L0) X w' := by
  obtain ⟨_, hne⟩ := gT_has hs
  refine hs.turnT (by simpa [gT] using hk) (fun p hp => ⟨.inl ?_, hT p hp⟩) (List.pairwise_pair.2 hne)
  rcases List.mem_cons.1 hp with rfl | hp
  · simp [gT]
  · rw [List.mem_singleton.1 hp]; simp [gT]
theorem G_ret (hP : c.P = Tryz.prog) (hp : L.Perm (gT rv re V e0 ++ L0)) (hV : V.size = 7) (h : HQ c d l (gT rv re V e0 ++ L0) X (bodyPostM (FW none) 0 Tryz.prog fn R .ret)) : HQ c (dF 40 [pt0 rv, pt0 re] :: d) l L X (bodyPostM (FW none) 0 Tryz.prog fn R .ret) :=
  HQ_perm' hp (HQ_dfr (enters_of Tryz.func40 (by kernel_rfl) rfl) (fun w hs => CallsDIn.mono (D_ret rv re (gT_has hs).2 V hV e0 w (gT_has hs).1) fun _ _ _ ⟨h1, h2, h3, h4⟩ => ⟨h1, h2, gT_turn hs h3 h4⟩) h)
theorem G_pan (hP : c.P = Tryz.prog) (hd : d = []) (hp : L.Perm (gT rv re V e0 ++ L0)) (hV : V.size = 7) (h : HQ c d l (gT rv re VZ0 e1 ++ L0) X (bodyPostM (FW none) 0 Tryz.prog fn R .ret)) : HQ c (dF 40 [pt0 rv, pt0 re] :: d) l L X (bodyPostM (FW none) 0 Tryz.prog fn R (.panic (panE (wrV e1)))) :=
  HQ_perm' hp (HQ_dfrP (enters_of Tryz.func40 (by kernel_rfl) rfl) (fun w hs => CallsDIn.mono (D_pan rv re (gT_has hs).2 V hV e0 e1 w (gT_has hs).1) fun _ _ _ ⟨h1, h2, h3, h4⟩ => ⟨h1, h2, gT_turn hs h3 h4⟩) h)
end
set_option maxRecDepth 20000 in
set_option maxHeartbeats 1000000 in
theorem T_Get {R : List (Nat × Obj)} {t : Ty} (ht : t.In R) (s : BS) : PureT (α := VR (getR t s).1) Tryz.prog 19 [t.val, strV s].toArray (fun y => .tuple #[y.x.val, .int .i64 (getR t s).2]) [] (fun y => y.L) R := by
  have hC := S_Check ht
  have hG := X_get ht (s := s)
  have hbd := getT_bad t s
  have hg0 : chk t 0 ≠ 0 → getR t s = (v0L, chk t 0) := fun h => by unfold getR; rw [if_pos h]
  have hg1 : chk t 0 = 0 → 65536 < s.length → getR t s = (v0L, 5) := fun h h2 => by unfold getR; rw [if_neg (by rw [h]; decide), if_pos h2]
  have hg2 : chk t 0 = 0 → ¬ 65536 < s.length → getR t s = getT t s := fun h h2 => by unfold getR; rw [if_neg (by rw [h]; decide), if_neg h2]
  generalize hcz : chk t 0 = z at hC hG hg0 hg1 hg2
  obtain ⟨k, n, p, ins⟩ := t
  refine pureT_of_HC Tryz.func19 rfl rfl fun w => ?_; refine HC_seq fun K1 hK1 => HC_region ?_; refine HL_box (cs := #[_, _, _]) rfl rfl rfl rfl fun r1 => ?_; refine HL_alloc (cs := #[_, _, _, _, _, _, _]) rfl rfl rfl rfl fun r2 => ?_; refine HL_alloc (cs := #[_]) rfl rfl rfl rfl fun r3 => ?_; refine HL_nil (hK1 _ _ _ _ ?_); refine HC_seq fun K2 hK2 => HC_region ?_; refine HL_r rfl rfl rfl rfl (R_makeFunc rfl rfl) ?_; refine HL_defer (caps := [pt0 r2, pt0 r3]) rfl rfl rfl ?_ rfl; refine HL_nil (hK2 _ _ _ _ ?_); refine HC_seq fun K3 hK3 => ?_; refine HC_seq fun K4 hK4 => HC_region ?_; refine HL_r rfl rfl rfl rfl (R_loadA (vs := [_, _, _]) rfl (known_L (k := 2) rfl) rfl rfl rfl rfl) ?_; refine HL_callR rfl rfl rfl (enters_of Tryz.func41 (by kernel_rfl) rfl) hC (fun q hq => Or.inr hq) ?_; refine HLm rfl ?_; refine HL_nil (hK4 _ _ _ _ ?_); refine HC_seq fun K5 hK5 => HC_region ?_; refine HLm rfl (HLp rfl ?_); refine HL_nil (hK5 _ _ _ _ ?_); refine HC_cond rfl (fun h6 => ?_) (fun h6 => ?_)
  · try exact Bool.noConfusion h6
    try simp only [ZZ] at h6
    refine HC_seq fun K7 hK7 => HC_region ?_; refine HL_r rfl rfl rfl rfl (R_build (r := [_, _, _, _, _, _, _]) rfl rfl) ?_; refine HLm rfl ?_
    refine HL_storeA (k := 1) (n := 7) (cs' := #[_, _, _, _, _, _, _]) (vs := #[_, _, _, _, _, _, _]) rfl rfl rfl rfl rfl rfl rfl (by exact Nat.le_of_ble_eq_true rfl) rfl (by first | (simp only [List.set_cons_zero, List.set_cons_succ]; exact rfl) | exact rfl) ?_
    refine HL_store (k := 0) rfl rfl rfl rfl rfl rfl rfl rfl (by first | (simp only [List.setIfInBounds_toArray, List.set_cons_zero, List.set_cons_succ]; exact rfl) | exact rfl) (by first | (simp only [List.set_cons_zero, List.set_cons_succ]; exact rfl) | exact rfl) ?_; refine HL_nil (hK7 _ _ _ _ ?_); refine HC_ret (HQ_thenR ?_)
    (refine G_ret (L0 := [_]) rfl (List.Perm.swap _ _ _) rfl ?_
     refine HQ_post rfl rfl (.cons (res_cellA (vs := [_, _, _, _, _, _, _]) rfl (known_L (k := 0) rfl) rfl rfl) (.cons (res_cell rfl (known_L (k := 1) rfl) rfl rfl) .nil)) (fun w1 hs1 => ?_)
     exact ⟨⟨v0L, [], v0_in, by rw [hg0 (by assumption)]; rfl⟩, congrArg (fun z => Ending.returned (Value.tuple #[v0L.val, .int .i64 z])) (congrArg Prod.snd (hg0 (by assumption))).symm, hs1.weakL (List.nil_sublist _)⟩)
  · try exact Bool.noConfusion h6
    try simp only [ZZ] at h6
    refine HC_skip (hK3 _ _ _ _ ?_); refine HC_seq fun K8 hK8 => ?_
    have hz : z = 0 := by assumption
    refine HC_region (HLm rfl (HL_r rfl rfl rfl rfl (R_lenBs rfl rfl) ?_)); refine HLp rfl ?_; refine HL_callX rfl rfl rfl (enters_of Tryz.func42 (by kernel_rfl) rfl) (X_need (_) 5) (fun q hq => nomatch hq) (fun hok _ => ?_) (fun v hv => by obtain ⟨hvb, rfl⟩ := hv; refine G_pan (e1 := 5) (L0 := [_]) rfl rfl (List.Perm.swap _ _ _) rfl ?_; refine HQ_post rfl rfl (.cons (res_cellA (vs := [_, _, _, _, _, _, _]) rfl (known_L (k := 0) rfl) rfl rfl) (.cons (res_cell rfl (known_L (k := 1) rfl) rfl rfl) .nil)) (fun w1 hs1 => ?_); exact ⟨⟨v0L, [], v0_in, by rw [hg1 hz (by have := Z2.1 hvb; omega)]; rfl⟩, congrArg (fun z => Ending.returned (Value.tuple #[v0L.val, .int .i64 z])) (congrArg Prod.snd (hg1 hz (by have := Z2.1 hvb; omega))).symm, hs1.weakL (List.nil_sublist _)⟩)
    have hl : ¬ 65536 < s.length := by have := Z1.mp hok; omega
    refine HL_nil (hK8 _ _ _ _ ?_); refine HC_seq fun K9 hK9 => HC_region ?_; refine HL_r rfl rfl rfl rfl (R_loadA (vs := [_, _, _]) rfl (known_L (k := 2) rfl) rfl rfl rfl rfl) ?_; refine HLm rfl ?_; refine HL_callX rfl rfl rfl (enters_of Tryz.func43 (by kernel_rfl) rfl) (hG hz (by omega)) (fun q hq => Or.inr hq) (fun hok y => ?_) (fun v hv => by obtain ⟨hvb, rfl⟩ := hv; refine G_pan (e1 := (getT (.mk k n p ins) s).2) (L0 := [_]) rfl rfl (List.Perm.swap _ _ _) rfl ?_; refine HQ_post rfl rfl (.cons (res_cellA (vs := [_, _, _, _, _, _, _]) rfl (known_L (k := 0) rfl) rfl rfl) (.cons (res_cell rfl (known_L (k := 1) rfl) rfl rfl) .nil)) (fun w1 hs1 => ?_); exact ⟨⟨v0L, [], v0_in, by rw [hg2 hz hl, hbd hvb]; rfl⟩, congrArg (fun z => Ending.returned (Value.tuple #[v0L.val, .int .i64 z])) (congrArg Prod.snd (hg2 hz hl)).symm, hs1.weakL (List.nil_sublist _)⟩)
    obtain ⟨⟨ya, yb, yc, yd, ybits, ypb, yitems, ypi, ypick⟩, yL, yok, yer⟩ := y
    refine HL_perm List.perm_append_comm ?_
    refine HL_storeA (k := 1) (n := 7) (cs' := #[_, _, _, _, _, _, _]) (vs := #[_, _, _, _, _, _, _]) rfl rfl rfl rfl rfl rfl rfl (by exact Nat.le_of_ble_eq_true rfl) rfl (by first | (simp only [List.set_cons_zero, List.set_cons_succ]; exact rfl) | exact rfl) ?_
    refine HL_store (k := 0) rfl rfl rfl rfl rfl rfl rfl rfl (by first | (simp only [List.setIfInBounds_toArray, List.set_cons_zero, List.set_cons_succ]; exact rfl) | exact rfl) (by first | (simp only [List.set_cons_zero, List.set_cons_succ]; exact rfl) | exact rfl) ?_; refine HL_nil (hK9 _ _ _ _ ?_); refine HC_ret ?_
    (refine G_ret (L0 := _ :: yL) rfl (List.Perm.swap _ _ _) rfl ?_
     refine HQ_post rfl rfl (.cons (res_cellA (vs := [_, _, _, _, _, _, _]) rfl (known_L (k := 0) rfl) rfl rfl) (.cons (res_cell rfl (known_L (k := 1) rfl) rfl rfl) .nil)) (fun w1 hs1 => ?_)
     exact ⟨⟨.mk ya yb yc yd ybits ypb yitems ypi ypick, yL, yok, by rw [hg2 hz hl]; exact yer⟩, congrArg (fun z => Ending.returned (Value.tuple #[Vl.val (.mk ya yb yc yd ybits ypb yitems ypi ypick), .int .i64 z])) ((congrArg Prod.snd (hg2 hz hl)).trans hok).symm, hs1.weakL (.cons _ (.cons _ (.cons _ (List.Sublist.refl _))))⟩)
end Go.Proofs.YtlcbfphioeppaaaGreatDoor
namespace Go.Proofs.YtlcbfphioeppaaaGreatDoor
set_option linter.all false
open Go.SL Go.RowKit Go.Shelf
section
variable {c : Cx} {l : List (Nat × Value)} {L E : List (Nat × Obj)} {X : XP} {Q : Exit → Act → World → Prop} {d : List Deferred}
variable {ops : Array Oper} {rest : List Nat} {i k : Nat} {v : Value} {o : Oper} {tb : Kbs} {S : List (Nat × Obj)} {T : List (Nat × Obj) → Act → Prop}
end
end Go.Proofs.YtlcbfphioeppaaaGreatDoor
namespace Go.Proofs.YtlcbfphioeppaaaGreatDoor
set_option linter.all false
open Go.SL Go.RowKit Go.Shelf
/-! ### Rows of chunks; whether a type is a number's; the root of bits -/
abbrev RowOf (l : List BS) : Type := { row : Row // rowOk 1 l.length (chC l) row }
abbrev rV {l : List BS} (x : RowOf l) : Value := plV l.length (rowP x.1)
abbrev rL {l : List BS} (x : RowOf l) : List (Nat × Obj) := rowL 9 (chC l) x.1
end Go.Proofs.YtlcbfphioeppaaaGreatDoor
namespace Go.Proofs.YtlcbfphioeppaaaGreatDoor
set_option linter.all false
open Go.SL Go.RowKit Go.Shelf
/-! ### The root of a row of one type -/
section
variable {c : Cx} {l : List (Nat × Value)} {L E : List (Nat × Obj)} {X : XP} {Q : Exit → Act → World → Prop} {d : List Deferred}
variable {ops : Array Oper} {rest : List Nat} {i k : Nat} {v : Value} {o : Oper} {tb : Kbs} {S : List (Nat × Obj)} {T : List (Nat × Obj) → Act → Prop}
end
end Go.Proofs.YtlcbfphioeppaaaGreatDoor
namespace Go.Proofs.YtlcbfphioeppaaaGreatDoor
set_option linter.all false
open Go.SL Go.RowKit Go.Shelf
/-! ### The root of a value -/
section
variable {R : List (Nat × Obj)} {k n : Int} {p : Pl} {ins : List Ty} {a b c d : Nat} {bits : List Bool} {pb : Pl} {items : List Vl} {pi : Pl} {pick : Int} {s : BS}
end
end Go.Proofs.YtlcbfphioeppaaaGreatDoor
namespace Go.Proofs.YtlcbfphioeppaaaGreatDoor
set_option linter.all false
open Go.SL Go.RowKit Go.Shelf
end Go.Proofs.YtlcbfphioeppaaaGreatDoor
namespace Go.Proofs.YtlcbfphioeppaaaGreatDoor
set_option linter.all false
open Go.SL Go.RowKit Go.Shelf
end Go.Proofs.YtlcbfphioeppaaaGreatDoor
namespace Go.Proofs.YtlcbfphioeppaaaGreatDoor
set_option linter.all false
open Go.SL Go.RowKit Go.Shelf
mutual
def nT : Ty → Nat
  | .mk _ _ _ ins => 1 + nTL ins
def nTL : List Ty → Nat
  | [] => 0
  | x :: xs => nT x + nTL xs
end
theorem typL_ge : ∀ (l : List Ty) (most deep n : Int), n ≤ typL l most deep n
  | [], _, _, n => by rw [typL]; exact Int.le_refl _
  | x :: xs, most, deep, n => by
    rw [typL]
    split
    · have h1 := (typN_le x (most - n) (deep - 1) (by omega)).1
      have h2 := typL_ge xs most deep (n + typN x (most - n) (deep - 1))
      omega
    · exact Int.le_refl _
theorem typN_n (t : Ty) : ∀ most deep : Int, typN t most deep ≤ most → typN t most deep = (nT t : Nat) := by
  induction t using Ty.ind with
  | h k n p ins ih =>
    intro most deep h; rw [typN] at h ⊢
    split at h
    · omega
    · rename_i h1
      rw [if_neg h1]
      have key : ∀ l : List Ty, (∀ x ∈ l, x ∈ ins) → ∀ n : Int, typL l most deep n ≤ most → typL l most deep n = n + (nTL l : Nat) := by
        intro l
        induction l with
        | nil => intro _ n _; rw [typL, nTL]; simp
        | cons x xs ihl =>
          intro hs n hn
          have hnm : n ≤ most := Int.le_trans (typL_ge (x :: xs) most deep n) hn
          rw [typL] at hn ⊢; rw [if_pos hnm] at hn ⊢
          have h3 := ihl (fun y hy => hs y (List.mem_cons_of_mem _ hy)) _ hn
          have h4 := typL_ge xs most deep (n + typN x (most - n) (deep - 1))
          have h5 := ih x (hs x List.mem_cons_self) (most - n) (deep - 1) (by omega)
          rw [h3, h5, nTL]
          first | omega | (push_cast; omega)
      rw [key ins (fun _ h => h) _ h, nT]
      first | omega | (push_cast; omega)
theorem few_n {t : Ty} {v : Vl} (h : fewB t v = true) : nT t ≤ 60 := by
  unfold fewB at h
  rw [Bool.and_eq_true, decide_eq_true_eq, decide_eq_true_eq] at h
  have := typN_n t 60 9 h.1
  omega
section
variable {c : Cx} {l : List (Nat × Value)} {L : List (Nat × Obj)} {X : XP} {d : List Deferred} {i : Nat} {ps : String} {af : Array Edge} {gd : Option (Nat × Bool)} {ty : TypeId}
end
theorem getTy {ins : List Ty} {i : Nat} (h : i < ins.length) : ∃ y, ins[i]? = some y ∧ y ∈ ins := ⟨ins[i], List.getElem?_eq_getElem h, List.getElem_mem h⟩
theorem dropTy {ins : List Ty} {i : Nat} {y : Ty} (h : ins[i]? = some y) : ins.drop i = y :: ins.drop (i + 1) := by
  obtain ⟨h1, h2⟩ := List.getElem?_eq_some_iff.1 h
  rw [List.drop_eq_getElem_cons h1, h2]
end Go.Proofs.YtlcbfphioeppaaaGreatDoor
namespace Go.Proofs.YtlcbfphioeppaaaGreatDoor
set_option linter.all false
open Go.SL Go.RowKit Go.Shelf
section
variable {a b c d : Nat} {bits : List Bool} {pb : Pl} {items : List Vl} {pi : Pl} {pick n : Int} {p : Pl} {ins : List Ty}
end
end Go.Proofs.YtlcbfphioeppaaaGreatDoor
namespace Go.Proofs.YtlcbfphioeppaaaGreatDoor
set_option linter.all false
open Go.SL Go.RowKit Go.Shelf
open Go.Proofs (Enters enters_of)
/-! ### What the laws look at; their fixed facts -/
theorem same_er (v : Vl) : ∀ w, sameV v w = true ↔ erV v = erV w := by
  induction v using Vl.ind with
  | h a b c d bits pb items pi pick ih =>
  intro w
  obtain ⟨a', b', c', d', bits', pb', items', pi', pick'⟩ := w
  have key : ∀ l : List Vl, (∀ x ∈ l, x ∈ items) → ∀ m : List Vl, sameL l m = true ↔ erL l = erL m := by
    intro l
    induction l with
    | nil => intro _ m; cases m with
      | nil => rw [sameL]; simp
      | cons y ys => rw [same_ln (by simp), erL, erL]; simp
    | cons x xs ihl =>
      intro hs m
      cases m with
      | nil => rw [same_ln (by simp), erL, erL]; simp
      | cons y ys =>
        rw [sameL, erL, erL, Bool.and_eq_true, ih x (hs x List.mem_cons_self) y, ihl (fun z hz => hs z (List.mem_cons_of_mem _ hz)) ys]
        simp
  rw [sameV_mk, erV_mk, erV_mk]; simp only [Bool.and_eq_true, decide_eq_true_eq, key items (fun _ h => h) items', Vl.mk.injEq, List.cons.injEq, and_true, true_and]
  constructor
  · rintro ⟨⟨⟨⟨h1, h2, h3, h4⟩, h5⟩, h6⟩, h7⟩; exact ⟨h1, h2, h3, h4, h6, h7, h5⟩
  · rintro ⟨h1, h2, h3, h4, h6, h7, h5⟩; exact ⟨⟨⟨⟨h1, h2, h3, h4⟩, h5⟩, h6⟩, h7⟩
mutual
def weightT : Ty → Int
  | .mk k n _ ins => (if k = 3 ∧ 0 < n ∧ n ≤ 512 ∧ weightL ins 0 ≤ 3000 then weightL ins 0 * n else weightL ins 0) + 1
def weightL : List Ty → Int → Int
  | [], m => m
  | x :: xs, m => if m ≤ 3000 then weightL xs (m + weightT x) else m
end
theorem weight_le (t : Ty) : 1 ≤ weightT t ∧ weightT t ≤ 1540000 + 3001 * (nT t : Nat) := by
  induction t using Ty.ind with
  | h k n p ins ih =>
    have key : ∀ l : List Ty, (∀ x ∈ l, x ∈ ins) → ∀ m : Int, 0 ≤ m → (m ≤ 3000 ∨ True) → 0 ≤ weightL l m ∧ (weightL l m ≤ max m 3000 + 1540000 + 3001 * (nTL l : Nat)) := by
      intro l
      induction l with
      | nil => intro _ m hm _; rw [weightL, nTL]; omega
      | cons x xs ihl =>
        intro hs m hm _
        have h1 := ih x (hs x List.mem_cons_self)
        rw [weightL, nTL]
        split
        · have h2 := ihl (fun y hy => hs y (List.mem_cons_of_mem _ hy)) (m + weightT x) (by omega) (.inr trivial)
          cases xs with
          | nil => rw [weightL, nTL] at *; omega
          | cons y ys =>
            by_cases h3 : m + weightT x ≤ 3000
            · omega
            · rw [weightL, if_neg h3]; omega
        · omega
    have h2 := key ins (fun _ h => h) 0 (by omega) (.inr trivial)
    rw [weightT, nT]
    split
    · rename_i h3
      have h4 : weightL ins 0 * n ≤ 3000 * 512 := Int.mul_le_mul h3.2.2.2 h3.2.2.1 (by omega) (by omega)
      have h5 : 0 ≤ weightL ins 0 * n := Int.mul_nonneg h2.1 (by omega)
      omega
    · omega
set_option maxRecDepth 10000 in
theorem S_weight {R : List (Nat × Obj)} {t : Ty} (ht : t.In R) : nT t ≤ 100000 → PureR Tryz.prog 36 [t.val].toArray (.int .i64 (weightT t)) R := by
  induction ht with
  | @mk k n p ins hk hn hl hs hi ih =>
  intro hnt
  have hwb := weight_le (.mk k n p ins)
  have hnt0 := hnt
  rw [nT] at hnt; refine pureR_of_HC Tryz.func36 rfl rfl fun w => ?_; refine HC_seq fun K1 hK1 => HC_region ?_; refine HL_box (cs := #[_, _, _]) rfl rfl rfl rfl fun r1 => ?_; refine HLm rfl ?_; refine HL_nil (hK1 _ _ _ _ ?_); refine HC_seq fun K2 hK2 => HC_region ?_; refine HLm rfl ?_; refine HL_nil (hK2 _ _ _ _ ?_); refine HC_seq fun K3 hK3 => ?_; refine HC_seq fun K4 hK4 => HC_region ?_; refine HLm rfl ?_; refine HL_nil (hK4 _ _ _ _ ?_); refine HC_block (HC_loop (σ := Nat × Int) (fun s => s.1 ≤ ins.length ∧ 0 ≤ s.2 ∧ nTL (ins.drop s.1) ≤ nTL ins ∧ s.2 ≤ 2000000000 ∧ weightL (ins.drop s.1) s.2 = weightL ins 0) (fun s => [(1, pt0 r1), (3, .int .i64 s.2), (4, .int .i64 (s.1 : Int))]) (fun _ => [tBlk r1 (.mk k n p ins)]) (fun _ _ _ => True) (fun s => ins.length - s.1) (0, 0) ⟨Nat.zero_le _, Int.le_refl _, Nat.le_refl _, by decide, rfl⟩ (.cons rfl (.cons rfl (.cons rfl .nil))) (List.Sublist.refl _) (fun _ _ h => h) ?_); rintro ⟨i, m⟩ ⟨hi1, hm2, hbd, hm3, hinv⟩; simp only at hi1 hm2 hbd hm3 hinv; change HC _ _ [(1, _), (3, .int .i64 m), (4, .int .i64 (i : Int))] ((r1, _) :: []) _ _ _; refine HC_seq fun K5 hK5 => ?_; refine HC_seq fun K6 hK6 => HC_region ?_; refine HLm rfl ?_
  refine HL_r rfl rfl rfl rfl (R_fieldAddr rfl rfl (by first | (simp only [Nat.zero_add, Nat.reduceAdd, Nat.reduceMul, Nat.zero_mul, Nat.mul_one, Nat.add_zero]; exact rfl) | exact rfl)) ?_; refine HL_r rfl rfl rfl rfl (R_load rfl (known_L (k := 0) rfl) rfl rfl) ?_; refine HL_r rfl rfl rfl rfl (R_lenPl rfl hs rfl) ?_; refine HLp rfl (HLm rfl ?_)
  refine HL_case 10 rfl (fun hb7 => ?_) (fun hb7 => ?_) <;> (try simp only [ZZ] at hb7) <;> first | (refine HLm rfl ?_) | (refine HL_skip rfl rfl rfl ?_)
  all_goals first
    | (refine HLp rfl ?_)
    | (refine HL_skip rfl rfl rfl ?_)
  all_goals first
    | (refine HL_r rfl rfl rfl rfl (R_pickT rfl rfl) ?_)
    | (refine HL_r rfl rfl rfl rfl (R_pickF rfl rfl) ?_)
  all_goals refine HL_nil ?_
  all_goals (
   refine hK6 _ _ _ _ ?_; refine HC_cond rfl (fun h9 => ?_) (fun h9 => ?_)
   · try exact Bool.noConfusion h9
     all_goals try simp only [ZZ] at h9
     all_goals (
      refine HC_skip (hK5 _ _ _ _ ?_); refine HC_seq fun K10 hK10 => HC_block ?_
      obtain ⟨y, hy, hmem⟩ := getTy (show i < ins.length by omega)
      have hyb := weight_le y
      rw [dropTy hy, weightL, if_pos (by omega)] at hinv; rw [dropTy hy, nTL] at hbd; refine HC_region (HLm rfl ?_)
      refine HL_r rfl rfl rfl rfl (R_fieldAddr rfl rfl (by first | (simp only [Nat.zero_add, Nat.reduceAdd, Nat.reduceMul, Nat.zero_mul, Nat.mul_one, Nat.add_zero]; exact rfl) | exact rfl)) ?_; refine HL_r rfl rfl rfl rfl (R_load rfl (known_L (k := 0) rfl) rfl rfl) ?_; refine HLm rfl ?_
      refine HL_r rfl rfl rfl rfl (R_indexPl (j := i) rfl hs rfl rfl rfl (by first | rfl | omega) (by omega)) ?_; refine HL_r rfl rfl rfl rfl (R_loadTy (fun q hq => Or.inr hq) rfl hs hy rfl rfl) ?_; refine HL_callR rfl rfl rfl (enters_of Tryz.func36 (by kernel_rfl) rfl) (ih y hmem (by omega)) (fun q hq => Or.inr hq) ?_; refine HLp rfl (HL_as (show _ = Value.int .i64 (m + weightT y) from congrArg (Value.int .i64) (wrap_i64 (by omega) (by omega))) ?_); refine HLm rfl (HL_nil ?_); refine HQ_blockN (hK10 _ _ _ _ ?_); refine HC_region (HLm rfl ?_)
      refine HLp rfl ?_; refine HL_as (show _ = Value.int .i64 ((i + 1 : Nat) : Int) from by rw [wrap_i64 (by omega) (by omega)]; congr 1 <;> omega) ?_; refine HLm rfl (HL_nil (HQ_then ?_)); exact HQ_again (i + 1, m + weightT y) ⟨by simp only; omega, by simp only; omega, by simp only; omega, by simp only; omega, hinv⟩ (by simp only; omega) (.cons rfl (.cons rfl (.cons rfl .nil))) (List.Sublist.refl _) (fun _ _ h => h)
      skip)
   · try exact Bool.noConfusion h9
     try simp only [ZZ] at h9
     refine HC_exit (HQ_thenE ?_); refine HQ_thenE (HQ_blockE (hK3 _ _ _ _ ?_)); refine HC_seq fun K11 hK11 => ?_; refine HC_seq fun K12 hK12 => ?_
     have hend : weightL ins 0 = m := by
       rw [← hinv]
       first
       | (rw [List.drop_of_length_le (by omega), weightL])
       | (obtain ⟨y, hy, _⟩ := getTy (show i < ins.length by omega); rw [dropTy hy, weightL, if_neg (by omega)])
       | (by_cases hq : ins.length ≤ i; (rw [List.drop_of_length_le hq, weightL]); (obtain ⟨y, hy, _⟩ := getTy (show i < ins.length by omega); rw [dropTy hy, weightL, if_neg (by omega)]))
     refine HC_region ?_
     refine HL_r rfl rfl rfl rfl (R_fieldAddr rfl rfl (by first | (simp only [Nat.zero_add, Nat.reduceAdd, Nat.reduceMul, Nat.zero_mul, Nat.mul_one, Nat.add_zero]; exact rfl) | exact rfl)) ?_; refine HL_r rfl rfl rfl rfl (R_load rfl (known_L (k := 0) rfl) rfl rfl) ?_; refine HLp rfl (HLm rfl ?_)
     refine HL_case 27 rfl (fun hb13 => ?_) (fun hb13 => ?_) <;> (try simp only [ZZ] at hb13) <;> first | (refine HL_r rfl rfl rfl rfl (R_fieldAddr rfl rfl (by first | (simp only [Nat.zero_add, Nat.reduceAdd, Nat.reduceMul, Nat.zero_mul, Nat.mul_one, Nat.add_zero]; exact rfl) | exact rfl)) ?_) | (refine HL_skip rfl rfl rfl ?_)
     all_goals first
       | (refine HL_r rfl rfl rfl rfl (R_load rfl (known_L (k := 0) rfl) rfl rfl) ?_)
       | (refine HL_skip rfl rfl rfl ?_)
     all_goals first
       | (refine HLp rfl ?_)
       | (refine HL_skip rfl rfl rfl ?_)
     all_goals first
       | (refine HL_r rfl rfl rfl rfl (R_pickT rfl rfl) ?_)
       | (refine HL_r rfl rfl rfl rfl (R_pickF rfl rfl) ?_)
     all_goals refine HLm rfl ?_
     all_goals first
       | (refine HL_skip rfl rfl rfl ?_)
       | (refine HL_case 32 rfl (fun hb16 => ?_) (fun hb16 => ?_) <;> (try simp only [ZZ] at hb16) <;> first | (refine HL_r rfl rfl rfl rfl (R_fieldAddr rfl rfl (by first | (simp only [Nat.zero_add, Nat.reduceAdd, Nat.reduceMul, Nat.zero_mul, Nat.mul_one, Nat.add_zero]; exact rfl) | exact rfl)) ?_) | (refine HL_skip rfl rfl rfl ?_))
     all_goals first
       | (refine HL_r rfl rfl rfl rfl (R_load rfl (known_L (k := 0) rfl) rfl rfl) ?_)
       | (refine HL_skip rfl rfl rfl ?_)
     all_goals first
       | (refine HLp rfl ?_)
       | (refine HL_skip rfl rfl rfl ?_)
     all_goals first
       | (refine HL_r rfl rfl rfl rfl (R_pickT rfl rfl) ?_)
       | (refine HL_r rfl rfl rfl rfl (R_pickF rfl rfl) ?_)
     all_goals refine HLm rfl ?_
     all_goals first
       | (refine HL_skip rfl rfl rfl ?_)
       | (refine HL_case 37 rfl (fun hb19 => ?_) (fun hb19 => ?_) <;> (try simp only [ZZ] at hb19) <;> first | (refine HLm rfl ?_) | (refine HL_skip rfl rfl rfl ?_))
     all_goals first
       | (refine HLp rfl ?_)
       | (refine HL_skip rfl rfl rfl ?_)
     all_goals first
       | (refine HL_r rfl rfl rfl rfl (R_pickT rfl rfl) ?_)
       | (refine HL_r rfl rfl rfl rfl (R_pickF rfl rfl) ?_)
     all_goals refine HL_nil ?_
     all_goals (
      refine hK12 _ _ _ _ ?_; refine HC_cond rfl (fun h21 => ?_) (fun h21 => ?_)
      · try exact Bool.noConfusion h21
        all_goals try simp only [ZZ] at h21
        all_goals (
         have hmn1 : m * n ≤ 3000 * 512 := Int.mul_le_mul (by omega) (by omega) (by omega) (by omega)
         have hmn0 : 0 ≤ m * n := Int.mul_nonneg (by omega) (by omega)
         refine HC_region (HLm rfl ?_)
         refine HL_r rfl rfl rfl rfl (R_fieldAddr rfl rfl (by first | (simp only [Nat.zero_add, Nat.reduceAdd, Nat.reduceMul, Nat.zero_mul, Nat.mul_one, Nat.add_zero]; exact rfl) | exact rfl)) ?_; refine HL_r rfl rfl rfl rfl (R_load rfl (known_L (k := 0) rfl) rfl rfl) ?_; refine HLp rfl (HL_wrap_i64 (by omega) (by omega) (HLm rfl ?_)); refine HL_nil (hK11 _ _ _ _ ?_); refine HC_seq fun K22 hK22 => HC_region ?_; refine HLm rfl (HLp rfl (HL_wrap_i64 (by omega) (by omega) ?_)); refine HLm rfl ?_; refine HL_nil (hK22 _ _ _ _ ?_); refine HC_ret ?_; refine HQ_post rfl rfl (.cons (res_tmp rfl) .nil) (fun w1 hs1 => ?_); refine ⟨?_, hs1.keep⟩; rw [weightT, hend]; rw [if_pos ⟨by omega, by omega, by omega, by omega⟩]; rfl
         skip)
      · try exact Bool.noConfusion h21
        try simp only [ZZ] at h21
        refine HC_skip (hK11 _ _ _ _ ?_); refine HC_seq fun K23 hK23 => HC_region ?_; refine HLm rfl (HLp rfl (HL_wrap_i64 (by omega) (by omega) ?_)); refine HLm rfl ?_; refine HL_nil (hK23 _ _ _ _ ?_); refine HC_ret ?_; refine HQ_post rfl rfl (.cons (res_tmp rfl) .nil) (fun w1 hs1 => ?_); refine ⟨?_, hs1.keep⟩; rw [weightT, hend]; rw [if_neg (by omega)]; rfl
      skip)
   skip)
def few8 (t : Ty) (v : Vl) : Bool := fewB t v && decide (weightT t ≤ 3000)
theorem few8_w {t : Ty} {v : Vl} (h : few8 t v = true) : wV v ≤ 20000 := by
  unfold few8 at h
  rw [Bool.and_eq_true] at h
  have := few_w h.1
  omega
set_option maxRecDepth 10000 in
theorem S_few8 {R : List (Nat × Obj)} {t : Ty} {v : Vl} (ht : t.In R) (hv : v.In R) : PureR Tryz.prog 16 [t.val, v.val].toArray (.bool (few8 t v)) R := by
  have h1 := S_Few ht hv
  have h2 := fun h : fewB t v = true => S_weight ht (by have := few_n h; omega)
  unfold few8
  generalize fewB t v = f at h1 h2 ⊢
  generalize weightT t = z at h2 ⊢
  obtain ⟨k, n, p, ins⟩ := t
  obtain ⟨a, b, c, d, bits, pb, items, pi, pick⟩ := v
  refine pureR_of_HC Tryz.func16 rfl rfl fun w => ?_; refine HC_seq fun K1 hK1 => HC_region ?_; refine HL_box (cs := #[_, _, _]) rfl rfl rfl rfl fun r1 => ?_; refine HL_box (cs := #[_, _, _, _, _, _, _]) rfl rfl rfl rfl fun r2 => ?_; refine HLm rfl ?_; refine HL_nil (hK1 _ _ _ _ ?_); clear hK1 K1; refine HC_seq fun K2 hK2 => HC_region ?_; refine HL_r rfl rfl rfl rfl (R_loadA (vs := [_, _, _]) rfl (known_L (k := 1) rfl) rfl rfl rfl rfl) ?_; refine HL_r rfl rfl rfl rfl (R_loadA (vs := [_, _, _, _, _, _, _]) rfl (known_L (k := 0) rfl) rfl rfl rfl rfl) ?_; refine HL_callR rfl rfl rfl (enters_of Tryz.func35 (by kernel_rfl) rfl) h1 (fun q hq => Or.inr hq) ?_; refine HLm rfl ?_; refine HL_nil (hK2 _ _ _ _ ?_); clear hK2 K2; refine HC_seq fun K3 hK3 => ?_; refine HC_seq fun K4 hK4 => HC_region ?_; refine HLm rfl (HLp rfl ?_); refine HL_nil (hK4 _ _ _ _ ?_); clear hK4 K4; refine HC_cond rfl (fun h5 => ?_) (fun h5 => ?_)
  · try exact Bool.noConfusion h5
    try simp only [ZZ] at h5
    refine HC_seq fun K6 hK6 => HC_region ?_; refine HLm rfl ?_; refine HL_nil (hK6 _ _ _ _ ?_); clear hK6 K6; refine HC_ret (HQ_thenR ?_); clear hK3 K3; refine HQ_post rfl rfl (.cons (res_tmp rfl) .nil) (fun w1 hs1 => ?_); refine ⟨?_, hs1.keep⟩
    simp_all [resVal]
  · try exact Bool.noConfusion h5
    try simp only [ZZ] at h5
    refine HC_skip (hK3 _ _ _ _ ?_); clear hK3 K3; refine HC_seq fun K7 hK7 => HC_region ?_; refine HL_r rfl rfl rfl rfl (R_loadA (vs := [_, _, _]) rfl (known_L (k := 1) rfl) rfl rfl rfl rfl) ?_; refine HL_callR rfl rfl rfl (enters_of Tryz.func36 (by kernel_rfl) rfl) (h2 (by assumption)) (fun q hq => Or.inr hq) ?_; refine HLp rfl (HLm rfl ?_); refine HL_nil (hK7 _ _ _ _ ?_); clear hK7 K7; refine HC_ret ?_; refine HQ_post rfl rfl (.cons (res_tmp rfl) .nil) (fun w1 hs1 => ?_); refine ⟨?_, hs1.keep⟩
    simp_all [resVal]
/-! what 'works' looks at -/
def t8b : Ty := .mk 6 8 none []
def v8b (r2 : Nat) : Vl := .mk 0 0 0 0 [true, false, true] (some (⟨r2, 0, none⟩, 3)) [] none 0
def t8c (r3 : Nat) : Ty := .mk 7 0 (some (⟨r3, 0, none⟩, 3)) [.mk 1 2 none [], t8b, .mk 2 0 none []]
def v8c (r5 : Nat) : Vl := .mk 0 0 0 0 [] none [.mk 258 0 0 0 [] none [] none 0, v0L, .mk 1 0 0 0 [] none [] none 0] (some (⟨r5, 0, none⟩, 3)) 0
theorem k8_a (r2 : Nat) : putR t8b (v8b r2) = ([13], 0) := by kernel_rfl
theorem k8_b (r3 r5 : Nat) : putR (t8c r3) (v8c r5) = ([2, 1, 7, 0, 0, 0, 1, 1], 0) := by kernel_rfl
theorem k8_c (r3 r5 : Nat) : getR (t8c r3) [2, 1, 7, 0, 0, 0, 1, 1] = (erV (v8c r5), 0) := by kernel_rfl
theorem k8_d (r3 : Nat) : getR (t8c r3) ([2, 1, 7, 0, 0, 0, 1, 1] ++ [120]) = (v0L, 5) := by kernel_rfl
theorem k8_e : getR t8b [] = (v0L, 2) := by kernel_rfl
theorem k8_f : getR (.mk 0 0 none []) [] = (v0L, 9) := by kernel_rfl
end Go.Proofs.YtlcbfphioeppaaaGreatDoor
namespace Go.Proofs.YtlcbfphioeppaaaGreatDoor
set_option linter.all false
open Go.SL Go.RowKit Go.Shelf
open Go.Proofs (Enters enters_of)
/-! ### works -/
theorem in_8b {R : List (Nat × Obj)} : t8b.In R := in_ty0 (iz 6) (iz 8)
theorem in_v8b {r2 : Nat} {e : TypeId} : (v8b r2).In [(r2, .cells #[.bool true, .bool false, .bool true] e (0, 0))] := .mk u0 u0 u0 u0 (by decide) ⟨by decide, fun _ => ⟨rfl, _, _, _, List.mem_singleton_self _, rfl⟩⟩ (by decide) rfl i0 (fun x hx => nomatch hx)
abbrev b8c (r3 : Nat) : Nat × Obj := (r3, .cells #[.int .i64 1, .int .i64 2, .slice none 0 0, .int .i64 6, .int .i64 8, .slice none 0 0, .int .i64 2, .int .i64 0, .slice none 0 0] 24 (0, 0))
abbrev d8c (r5 : Nat) : Nat × Obj := (r5, .cells #[.int .u64 258, .int .u64 0, .int .u64 0, .int .u64 0, .slice none 0 0, .slice none 0 0, .int .i64 0, .int .u64 0, .int .u64 0, .int .u64 0, .int .u64 0, .slice none 0 0, .slice none 0 0, .int .i64 0, .int .u64 1, .int .u64 0, .int .u64 0, .int .u64 0, .slice none 0 0, .slice none 0 0, .int .i64 0] 31 (0, 0))
theorem in_8c {r3 : Nat} {R : List (Nat × Obj)} (h : b8c r3 ∈ R) : (t8c r3).In R := .mk (iz 7) (iz 0) (by simp) ⟨by simp, fun _ => ⟨rfl, _, _, _, h, rfl⟩⟩ (fun x hx => by
  rcases List.mem_cons.1 hx with rfl | hx
  · exact in_ty0 (iz 1) (iz 2)
  rcases List.mem_cons.1 hx with rfl | hx
  · exact in_8b
  · rw [List.mem_singleton.1 hx]; exact in_ty0 (iz 2) (iz 0))
theorem in_v8c {r5 : Nat} {R : List (Nat × Obj)} (h : d8c r5 ∈ R) : (v8c r5).In R := .mk u0 u0 u0 u0 (by simp) rfl (by simp) ⟨by simp, fun _ => ⟨rfl, _, _, _, h, rfl⟩⟩ i0 (fun x hx => by
  rcases List.mem_cons.1 hx with rfl | hx
  · exact in_num 258 (by decide)
  rcases List.mem_cons.1 hx with rfl | hx
  · exact v0_in.mono (fun q hq => absurd hq List.not_mem_nil)
  · rw [List.mem_singleton.1 hx]; exact in_num 1 (by decide))
set_option maxRecDepth 20000 in
set_option maxHeartbeats 1000000 in
theorem P_works08 : Pure Tryz.prog 15 [].toArray (.bool true) := by
  refine pure_of_HC Tryz.func15 rfl rfl fun w => ?_; refine HC_seq fun K1 hK1 => HC_region ?_; refine HLm rfl ?_; refine HL_nil (hK1 _ _ _ _ ?_); refine HC_seq fun K2 hK2 => HC_region ?_; refine HL_r rfl rfl rfl rfl (R_build (r := [_, _, _]) rfl rfl) ?_; refine HL_alloc (cs := #[_, _, _]) rfl rfl rfl rfl fun r1 => ?_
  refine HL_storeA (k := 0) (n := 3) (cs' := #[_, _, _]) (vs := #[_, _, _]) rfl rfl rfl rfl rfl rfl rfl (by exact Nat.le_of_ble_eq_true rfl) rfl (by first | (simp only [List.set_cons_zero, List.set_cons_succ]; exact rfl) | exact rfl) ?_; refine HL_nil (hK2 _ _ _ _ ?_); refine HC_seq fun K3 hK3 => HC_region ?_; refine HL_r rfl rfl rfl rfl (R_loadA (vs := [_, _, _]) rfl (known_L (k := 0) rfl) rfl rfl rfl rfl) ?_; refine HL_buildSlice (vs := [_, _, _]) (zs := [_, _, _]) (r := [_, _, _]) rfl rfl rfl rfl rfl rfl rfl rfl rfl (by show (madeCells #[_] _).toList = _; rw [made_one]; exact rfl) rfl fun r2 => ?_; refine HL_r rfl rfl rfl rfl (R_build (r := [_, _, _, _, _, _, _]) rfl rfl) ?_; refine HL_callR (Rl := [(r2, .cells #[.bool true, .bool false, .bool true] 4 (0, 0))]) rfl rfl rfl (enters_of Tryz.func17 (by kernel_rfl) rfl) (S_sPut in_8b (in_v8b (r2 := r2)) (Nat.le_of_ble_eq_true (by kernel_rfl))) (fun q hq => .inl (by rw [List.mem_singleton.1 hq]; exact mem_nth (n := 0) rfl)) ?_; refine HL_as (congrArg resS (k8_a r2)) ?_; refine HLm rfl (HL_r rfl rfl rfl rfl (R_extract rfl rfl) (HL_r rfl rfl rfl rfl (R_extract rfl rfl) ?_)); refine HLm rfl (HLm rfl ?_); refine HL_nil (hK3 _ _ _ _ ?_); refine HC_seq fun K4 hK4 => HC_region ?_; refine HL_r rfl rfl rfl rfl (R_build (r := [_, _, _]) rfl rfl) ?_; refine HL_r rfl rfl rfl rfl (R_loadA (vs := [_, _, _]) rfl (known_L (k := 1) rfl) rfl rfl rfl rfl) ?_; refine HL_r rfl rfl rfl rfl (R_build (r := [_, _, _]) rfl rfl) ?_; refine HL_buildSlice (vs := [_, _, _]) (zs := [_, _, _, _, _, _, _, _, _]) (r := [_, _, _, _, _, _, _, _, _]) rfl rfl rfl rfl rfl rfl rfl rfl rfl (by rw [made_list]; exact rfl) rfl fun r3 => ?_; refine HL_r rfl rfl rfl rfl (R_build (r := [_, _, _]) rfl rfl) ?_; refine HL_alloc (cs := #[_, _, _]) rfl rfl rfl rfl fun r4 => ?_
  refine HL_storeA (k := 0) (n := 3) (cs' := #[_, _, _]) (vs := #[_, _, _]) rfl rfl rfl rfl rfl rfl rfl (by exact Nat.le_of_ble_eq_true rfl) rfl (by first | (simp only [List.set_cons_zero, List.set_cons_succ]; exact rfl) | exact rfl) ?_; refine HL_nil (hK4 _ _ _ _ ?_); refine HC_seq fun K5 hK5 => HC_region ?_; refine HL_r rfl rfl rfl rfl (R_build (r := [_, _, _, _]) rfl rfl) ?_; refine HL_r rfl rfl rfl rfl (R_build (r := [_, _, _, _, _, _, _]) rfl rfl) ?_; refine HL_r rfl rfl rfl rfl (R_build (r := [_, _, _, _, _, _, _]) rfl rfl) ?_; refine HL_r rfl rfl rfl rfl (R_build (r := [_, _, _, _]) rfl rfl) ?_; refine HL_r rfl rfl rfl rfl (R_build (r := [_, _, _, _, _, _, _]) rfl rfl) ?_; refine HL_buildSlice (vs := [_, _, _]) (zs := [_, _, _, _, _, _, _, _, _, _, _, _, _, _, _, _, _, _, _, _, _]) (r := [_, _, _, _, _, _, _, _, _, _, _, _, _, _, _, _, _, _, _, _, _]) rfl rfl rfl rfl rfl rfl rfl rfl rfl (by rw [made_list]; exact rfl) rfl fun r5 => ?_; refine HL_r rfl rfl rfl rfl (R_build (r := [_, _, _, _, _, _, _]) rfl rfl) ?_; refine HL_alloc (cs := #[_, _, _, _, _, _, _]) rfl rfl rfl rfl fun r6 => ?_
  refine HL_storeA (k := 0) (n := 7) (cs' := #[_, _, _, _, _, _, _]) (vs := #[_, _, _, _, _, _, _]) rfl rfl rfl rfl rfl rfl rfl (by exact Nat.le_of_ble_eq_true rfl) rfl (by first | (simp only [List.set_cons_zero, List.set_cons_succ]; exact rfl) | exact rfl) ?_; refine HL_nil (hK5 _ _ _ _ ?_); refine HC_seq fun K6 hK6 => HC_region ?_; refine HL_r rfl rfl rfl rfl (R_loadA (vs := [_, _, _]) rfl (known_L (k := 2) rfl) rfl rfl rfl rfl) ?_; refine HL_r rfl rfl rfl rfl (R_loadA (vs := [_, _, _, _, _, _, _]) rfl (known_L (k := 0) rfl) rfl rfl rfl rfl) ?_
  refine HL_callR (Rl := [b8c r3, d8c r5]) rfl rfl rfl (enters_of Tryz.func17 (by kernel_rfl) rfl) (S_sPut (in_8c (r3 := r3) (R := [b8c r3, d8c r5]) List.mem_cons_self) (in_v8c (r5 := r5) (List.mem_cons_of_mem _ List.mem_cons_self)) (Nat.le_of_ble_eq_true (by kernel_rfl))) (fun q hq => .inl (by rcases List.mem_cons.1 hq with rfl | hq; exact mem_nth (n := 3) rfl; rw [List.mem_singleton.1 hq]; exact mem_nth (n := 1) rfl)) ?_; refine HL_as (congrArg resS (k8_b r3 r5)) ?_; refine HLm rfl (HL_r rfl rfl rfl rfl (R_extract rfl rfl) (HL_r rfl rfl rfl rfl (R_extract rfl rfl) ?_)); refine HLm rfl (HLm rfl ?_); refine HL_nil (hK6 _ _ _ _ ?_); refine HC_seq fun K7 hK7 => HC_region ?_; refine HL_r rfl rfl rfl rfl (R_loadA (vs := [_, _, _]) rfl (known_L (k := 2) rfl) rfl rfl rfl rfl) ?_; refine HLm rfl ?_; refine HL_callRE (Rl := [b8c r3]) rfl rfl rfl (enters_of Tryz.func19 (by kernel_rfl) rfl) (T_Get (in_8c (r3 := r3) (R := [b8c r3]) List.mem_cons_self) _) (fun q hq => .inl (by rw [List.mem_singleton.1 hq]; exact mem_nth (n := 3) rfl)) fun y1 => ?_; refine HL_as (congrArg (fun z => Value.tuple #[y1.x.val, .int .i64 z]) (congrArg Prod.snd (k8_c r3 r5))) ?_; refine HL_perm List.perm_append_comm ?_
  obtain ⟨⟨y1a, y1b, y1c, y1d, y1bits, y1pb, y1it, y1pi, y1pk⟩, y1L, y1ok, y1er⟩ := y1
  refine HLm rfl (HL_r rfl rfl rfl rfl (R_extract rfl rfl) (HL_r rfl rfl rfl rfl (R_extract rfl rfl) ?_)); refine HL_alloc (cs := #[_, _, _, _, _, _, _]) rfl rfl rfl rfl fun r7 => ?_
  refine HL_storeA (k := 0) (n := 7) (cs' := #[_, _, _, _, _, _, _]) (vs := #[_, _, _, _, _, _, _]) rfl rfl rfl rfl rfl rfl rfl (by exact Nat.le_of_ble_eq_true rfl) rfl (by first | (simp only [List.set_cons_zero, List.set_cons_succ]; exact rfl) | exact rfl) ?_; refine HLm rfl ?_; refine HL_nil (hK7 _ _ _ _ ?_); refine HC_seq fun K8 hK8 => HC_region ?_; refine HL_r rfl rfl rfl rfl (R_loadA (vs := [_, _, _]) rfl (known_L (k := 3) rfl) rfl rfl rfl rfl) ?_; refine HLm rfl (HL_r rfl rfl rfl rfl (R_concat (a := [2, 1, 7, 0, 0, 0, 1, 1]) (b := [120]) rfl rfl (by decide)) ?_); refine HL_callRE (Rl := [b8c r3]) rfl rfl rfl (enters_of Tryz.func19 (by kernel_rfl) rfl) (T_Get (in_8c (r3 := r3) (R := [b8c r3]) List.mem_cons_self) ([2, 1, 7, 0, 0, 0, 1, 1] ++ [120])) (fun q hq => .inl (by rw [List.mem_singleton.1 hq]; exact mem_nth (n := 4) rfl)) fun y2 => ?_; refine HL_as (congrArg (fun z => Value.tuple #[y2.x.val, .int .i64 z]) (congrArg Prod.snd (k8_d r3))) ?_; refine HL_perm List.perm_append_comm ?_
  obtain ⟨⟨y2a, y2b, y2c, y2d, y2bits, y2pb, y2it, y2pi, y2pk⟩, y2L, y2ok, y2er⟩ := y2
  refine HLm rfl (HL_r rfl rfl rfl rfl (R_extract rfl rfl) (HL_r rfl rfl rfl rfl (R_extract rfl rfl) ?_)); refine HL_alloc (cs := #[_, _, _, _, _, _, _]) rfl rfl rfl rfl fun r8 => ?_
  refine HL_storeA (k := 0) (n := 7) (cs' := #[_, _, _, _, _, _, _]) (vs := #[_, _, _, _, _, _, _]) rfl rfl rfl rfl rfl rfl rfl (by exact Nat.le_of_ble_eq_true rfl) rfl (by first | (simp only [List.set_cons_zero, List.set_cons_succ]; exact rfl) | exact rfl) ?_; refine HLm rfl ?_; refine HL_nil (hK8 _ _ _ _ ?_); refine HC_seq fun K9 hK9 => HC_region ?_; refine HL_r rfl rfl rfl rfl (R_loadA (vs := [_, _, _]) rfl (known_L (k := 7) rfl) rfl rfl rfl rfl) ?_; refine HL_callRE (Rl := []) rfl rfl rfl (enters_of Tryz.func19 (by kernel_rfl) rfl) (T_Get in_8b []) (fun q hq => nomatch hq) fun y3 => ?_; refine HL_as (congrArg (fun z => Value.tuple #[y3.x.val, .int .i64 z]) (congrArg Prod.snd (k8_e))) ?_; refine HL_perm List.perm_append_comm ?_
  obtain ⟨⟨y3a, y3b, y3c, y3d, y3bits, y3pb, y3it, y3pi, y3pk⟩, y3L, y3ok, y3er⟩ := y3
  refine HLm rfl (HL_r rfl rfl rfl rfl (R_extract rfl rfl) (HL_r rfl rfl rfl rfl (R_extract rfl rfl) ?_)); refine HL_alloc (cs := #[_, _, _, _, _, _, _]) rfl rfl rfl rfl fun r9 => ?_
  refine HL_storeA (k := 0) (n := 7) (cs' := #[_, _, _, _, _, _, _]) (vs := #[_, _, _, _, _, _, _]) rfl rfl rfl rfl rfl rfl rfl (by exact Nat.le_of_ble_eq_true rfl) rfl (by first | (simp only [List.set_cons_zero, List.set_cons_succ]; exact rfl) | exact rfl) ?_; refine HLm rfl ?_; refine HL_nil (hK9 _ _ _ _ ?_); refine HC_seq fun K10 hK10 => HC_region ?_; refine HL_r rfl rfl rfl rfl (R_build (r := [_, _, _]) rfl rfl) ?_; refine HL_callRE (Rl := []) rfl rfl rfl (enters_of Tryz.func19 (by kernel_rfl) rfl) (T_Get (in_ty0 (iz 0) (iz 0)) []) (fun q hq => nomatch hq) fun y4 => ?_; refine HL_as (congrArg (fun z => Value.tuple #[y4.x.val, .int .i64 z]) (congrArg Prod.snd (k8_f))) ?_; refine HL_perm List.perm_append_comm ?_
  obtain ⟨⟨y4a, y4b, y4c, y4d, y4bits, y4pb, y4it, y4pi, y4pk⟩, y4L, y4ok, y4er⟩ := y4
  refine HLm rfl (HL_r rfl rfl rfl rfl (R_extract rfl rfl) (HL_r rfl rfl rfl rfl (R_extract rfl rfl) ?_)); refine HL_alloc (cs := #[_, _, _, _, _, _, _]) rfl rfl rfl rfl fun r10 => ?_
  refine HL_storeA (k := 0) (n := 7) (cs' := #[_, _, _, _, _, _, _]) (vs := #[_, _, _, _, _, _, _]) rfl rfl rfl rfl rfl rfl rfl (by exact Nat.le_of_ble_eq_true rfl) rfl (by first | (simp only [List.set_cons_zero, List.set_cons_succ]; exact rfl) | exact rfl) ?_; refine HLm rfl ?_; refine HL_nil (hK10 _ _ _ _ ?_); refine HC_seq fun K11 hK11 => HC_region ?_; refine HLm rfl (HL_r rfl rfl rfl rfl (R_strEq rfl rfl) (HL_as (show _ = Value.bool true from bool_eq' (decide_eq_true rfl)) ?_)); refine HLm rfl (HLm rfl ?_); refine HLp rfl (HL_as (show _ = Value.bool true from bool_eq' (ieqT rfl)) (HL_r rfl rfl rfl rfl (R_pickT rfl rfl) ?_)); refine HLm rfl (HLm rfl (HL_r rfl rfl rfl rfl (R_strEq rfl rfl) ?_)); refine HL_as (show _ = Value.bool true from bool_eq' (decide_eq_true rfl)) ?_; refine HL_r rfl rfl rfl rfl (R_pickT rfl rfl) ?_; refine HLm rfl (HLm rfl ?_); refine HLp rfl (HL_as (show _ = Value.bool true from bool_eq' (ieqT rfl)) (HL_r rfl rfl rfl rfl (R_pickT rfl rfl) ?_)); refine HLm rfl (HL_r rfl rfl rfl rfl (R_loadA (vs := [_, _, _, _, _, _, _]) rfl (known_L (k := 4) rfl) rfl rfl rfl rfl) (HL_r rfl rfl rfl rfl (R_loadA (vs := [_, _, _, _, _, _, _]) rfl (known_L (k := 3) rfl) rfl rfl rfl rfl) ?_))
  refine HL_callR (Rl := d8c r5 :: y1L) rfl rfl rfl (enters_of Tryz.func23 (by kernel_rfl) rfl) (S_Same (in_v8c (R := d8c r5 :: y1L) List.mem_cons_self) _ (y1ok.mono (fun q hq => List.mem_cons_of_mem _ hq))) (fun q hq => .inl (by rcases List.mem_cons.1 hq with rfl | hq; exact mem_nth (n := 5) rfl; simp only [List.cons_append, List.mem_cons, List.mem_append, hq, true_or, or_true])) ?_; refine HL_as (congrArg Value.bool ((same_er _ _).2 (by rw [y1er, k8_c r3 r5]))) ?_; refine HL_r rfl rfl rfl rfl (R_pickT rfl rfl) ?_; refine HLm rfl (HLm rfl ?_); refine HLp rfl (HL_as (show _ = Value.bool true from bool_eq' (ieqT rfl)) (HL_r rfl rfl rfl rfl (R_pickT rfl rfl) ?_)); refine HLm rfl (HLm rfl ?_); refine HLp rfl (HL_as (show _ = Value.bool true from bool_eq' (ieqT rfl)) (HL_r rfl rfl rfl rfl (R_pickT rfl rfl) ?_)); refine HLm rfl (HLm rfl ?_); refine HLp rfl (HL_as (show _ = Value.bool true from bool_eq' (ieqT rfl)) (HL_r rfl rfl rfl rfl (R_pickT rfl rfl) ?_)); refine HLm rfl (HLm rfl ?_); refine HLp rfl (HL_as (show _ = Value.bool true from bool_eq' (ieqT rfl)) (HL_r rfl rfl rfl rfl (R_pickT rfl rfl) ?_)); refine HLm rfl ?_; refine HL_nil (hK11 _ _ _ _ ?_); refine HC_ret ?_; refine HQ_post rfl rfl (.cons (res_tmp rfl) .nil) (fun w1 hs1 => ?_); exact ⟨rfl, hs1.keep⟩
end Go.Proofs.YtlcbfphioeppaaaGreatDoor
