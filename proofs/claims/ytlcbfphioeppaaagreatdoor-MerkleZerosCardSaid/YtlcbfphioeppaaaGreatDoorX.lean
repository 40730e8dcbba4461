import Derived.Test.YtlcbfphioeppaaaGreatDoorXd
namespace Go.Proofs.YtlcbfphioeppaaaGreatDoor
set_option linter.all false
open Go.SL Go.RowKit Go.Shelf
/-! ### Parts of rows; the laws of trees of chunks -/
def plG (sz a : Nat) : Pl → Pl
  | none => none
  | some (q, cap) => some (if cap = a then q else q.add (a * sz), cap - a)
section
variable {c : Cx} {l : List (Nat × Value)} {L : List (Nat × Obj)} {X : XP} {d : List Deferred} {i : Nat} {t : TypeId} {ps : String} {af : Array Edge} {gd : Option (Nat × Bool)} {ty : TypeId}
theorem R_sliceGP {x : Operand} {lo hi : Option Operand} {kl kh : Option Nat} {p : Pl} {R : List (Nat × Obj)} {cs : List Value} {n e sz a b m : Nat} (hx : evl l x = some (plV n p)) (hs : Seg R n cs p) (ht : sliceOf c.P t = some e) (hsz : szOf c.P e = some sz)
    (hl : bndOf l lo kl) (hh : bndOf l hi kh) (e1 : kl.getD 0 = a) (e2 : kh.getD n = b) (hab : a ≤ b) (hb : b ≤ n) (hm : b - a = m) :
    RunsTo c d l L X ⟨some i, .slice t x lo hi none, ty, ps, af, gd⟩ (plV m (plG sz a p)) := fun a' w hf _ => by
  have ex := hf.eval hx
  subst e1 e2 hm
  have low : ∀ {o : Option Operand} {k : Option Nat}, bndOf l o k → (o.map a'.eval = none ∧ k = none) ∨ (∃ y n, o.map a'.eval = some (.int y ((n : Nat) : Int)) ∧ k = some n) := by
    intro o k h
    cases o with
    | none => cases k with
      | none => exact .inl ⟨rfl, rfl⟩
      | some k => exact h.elim
    | some o => cases k with
      | none => exact h.elim
      | some k => obtain ⟨y, hy⟩ := h; exact .inr ⟨y, k, by simp [hf.eval hy], rfl⟩
  simp only [execOp, ex]
  cases p with
  | none =>
    have hn : n = 0 := hs
    subst hn
    rcases low hl with ⟨f1, rfl⟩ | ⟨y1, n1, f1, rfl⟩ <;> rcases low hh with ⟨f2, rfl⟩ | ⟨y2, n2, f2, rfl⟩ <;> simp only [Option.getD_none, Option.getD_some, Nat.le_zero] at hab hb ⊢ <;> (try subst hb) <;> (try simp only [Nat.le_zero] at hab) <;> (try subst hab) <;> rw [f1, f2] <;>
      simp [plV, plG, plA, plC, Instr.sliceAt, Instr.slice, Sem.run_bind, run_und (und_slice ht), run_sz hsz, Result.andThen, Instr.sliceBounds, Instr.sliceBound, asIntOf]
  | some q =>
    obtain ⟨q, cap⟩ := q
    have hc : n ≤ cap := hs.1
    rcases low hl with ⟨f1, rfl⟩ | ⟨y1, n1, f1, rfl⟩ <;> rcases low hh with ⟨f2, rfl⟩ | ⟨y2, n2, f2, rfl⟩ <;> simp only [Option.getD_none, Option.getD_some] at hab hb ⊢ <;> rw [f1, f2] <;>
      simp [plV, plG, plA, plC, Instr.sliceAt, Instr.slice, Sem.run_bind, run_und (und_slice ht), run_sz hsz, Result.andThen, Instr.sliceBounds, Instr.sliceBound, asIntOf, hab, hb, hc, Nat.le_trans hb hc, Nat.le_trans hab hb, Nat.le_trans (Nat.le_trans hab hb) hc] <;> split <;> rfl
variable {Q : Exit → Act → World → Prop} {ops : Array Oper} {rest : List Oper}
theorem HL_clonePl {x y : Operand} {k r e sz b n : Nat} {z : Value} {p : Pl} {cs : List Value} {R L0 : List (Nat × Obj)}
    (hg : goes l ops ⟨some i, .call ⟨.builtin .append, #[x, y], #[t, t]⟩, ty, ps, af, gd⟩ = some true) (hi : Nat.ble (i + 1) c.n = true) (hx : evl l x = some (.slice (some ⟨r, 0, none⟩) 0 0)) (hk : L[k]? = some (r, .cells #[] e (0, 0))) (hL : L.eraseIdx k = L0)
    (hy : evl l y = some (plV n p)) (hs : Seg R n cs p) (hR : ∀ q ∈ R, known c L q.1 q.2) (ht : sliceOf c.P t = some e) (hz : zeroOf c.P e = some z) (hsz : szOf c.P e = some sz) (hb : byOf c.P e = some b) (hzs : z.cells.size = sz) (h0 : 0 < sz)
    (hcs : cs.length = n * sz) (hone : cs.all oneB = true) (h63 : n ≤ 9223372036854775807) (h47 : n * b ≤ 140737488355328)
    (h : ∀ row, rowOk sz n cs row → HL c d ((i, rowV n row) :: l) (rowL e cs row ++ L0) X ops rest Q) : HL c d l L X ops (⟨some i, .call ⟨.builtin .append, #[x, y], #[t, t]⟩, ty, ps, af, gd⟩ :: rest) Q := by
  cases p with
  | some q => exact HL_clone hg hi hx hk hL hy hs hR ht hz hsz hb hzs h0 hcs hone h63 h47 h
  | none =>
    have hn : n = 0 := hs
    subst hn
    have hc0 : cs = [] := List.length_eq_zero_iff.1 (by rw [hcs, Nat.zero_mul])
    subst hc0; refine HL_append0 hg hi hx hy ht hsz (Nat.le_refl _) ?_; refine HL_perm ?_ (h (some (r, 0, [])) ⟨by simp, by simp⟩)
    have h1 := (List.getElem?_eq_some_iff.1 hk)
    have := set_perm h1.1 (r, Obj.cells #[] e (0, 0))
    rw [hL, ← h1.2, List.set_getElem_self, h1.2] at this; exact this
end
theorem seg_sliceG {R : List (Nat × Obj)} {n sz a b : Nat} {cs : List Value} {p : Pl} (h : Seg R n cs p) (hl : cs.length = n * sz) (hab : a ≤ b) (hb : b ≤ n) : Seg R (b - a) ((cs.drop (a * sz)).take ((b - a) * sz)) (plG sz a p) := by
  cases p with
  | none => have h : n = 0 := h; show b - a = 0; omega
  | some q =>
    obtain ⟨⟨r, o, s⟩, cap⟩ := q
    obtain ⟨h1, h2⟩ := h
    refine ⟨by show b - a ≤ cap - a; omega, fun h0 => ?_⟩
    obtain ⟨h3, all, e, fr, h4, h5⟩ := h2 (by omega)
    have h3 : s = none := h3
    subst h3
    have hne : ¬ cap = a := by omega
    have hlen : ((cs.drop (a * sz)).take ((b - a) * sz)).length = (b - a) * sz := by
      rw [List.length_take, List.length_drop, hl, ← Nat.sub_mul]; exact Nat.min_eq_left (Nat.mul_le_mul_right _ (by omega))
    simp only [if_neg hne, add_none]; refine ⟨trivial, all, e, fr, h4, ?_⟩; rw [hlen]; exact take_sub h5 rfl hlen
theorem seg_part {R : List (Nat × Obj)} {l : List BS} {a b : Nat} {p : Pl} (h : Seg R l.length (chC l) p) (hab : a ≤ b) (hb : b ≤ l.length) : Seg R ((l.drop a).take (b - a)).length (chC ((l.drop a).take (b - a))) (plG 1 a p) := by
  have h2 := seg_sliceG h (sz := 1) (a := a) (b := b) (by rw [chC_len, Nat.mul_one]) hab hb
  rw [Nat.mul_one, Nat.mul_one] at h2
  have e1 : ((l.drop a).take (b - a)).length = b - a := by rw [List.length_take, List.length_drop]; omega
  have e2 : chC ((l.drop a).take (b - a)) = ((chC l).drop a).take (b - a) := by unfold chC; rw [List.map_take, List.map_drop]
  rw [e1, e2]; exact h2
theorem chC_flat (l : List BS) : chC l = l.flatMap (fun s : BS => [strV s]) := by
  unfold chC
  induction l with
  | nil => rfl
  | cons a l ih => rw [List.map_cons, List.flatMap_cons, ← ih]; rfl
theorem open_ss {H : Type} {enc : TypeId × Value → H} {P : Program} {w : World} {base : Nat} {sp : Nat → Bool} {held : Bool} {r : Reach} {b0 t e : Nat} {v : Value} {d : DataW H} {ps : List MemPlace} (ht : P.underlying t = some (.slice e)) (he : P.cellsOf e = 1) (hu : P.underlying e = some .string) (hval : Value.okWide P w r b0 t v) (hd : DataW.Trod enc P w base sp held t v d ps) :
    ∃ q : List BS × Pl, v = plV q.1.length q.2 ∧ Seg (allB w) q.1.length (chC q.1) q.2 ∧ q.1.length ≤ 9223372036854775807 := by
  obtain ⟨fuel, hf⟩ := hd
  obtain ⟨l, p, ep, hs, hlen, _⟩ := open_row_of (f := fun s : BS => [strV s]) (ok := fun _ => True) (by decide) (fun _ => rfl) ht he (fun m hm cs x hx => by
    obtain ⟨z, rfl, _⟩ := DataW.trod_string hu hx
    exact ⟨z.data.toList, by rw [show strV z.data.toList = Value.string (bs z.data.toList) from rfl, bs_data], trivial⟩) hf
  obtain ⟨a, len, cap, rfl⟩ := Go.WideShapes.okWide_slice ht hval
  refine ⟨(l, p), by simpa [Value.cells] using ep, ?_, hlen⟩; rw [show (l, p).1 = l from rfl, show (l, p).2 = p from rfl, chC_flat]; exact hs
set_option maxRecDepth 10000 in
theorem L_MerkleTrees {R : List (Nat × Obj)} {l : List BS} {p : Pl} (hs : Seg R l.length (chC l) p) (hl : l.length ≤ 9223372036854775807) (m : Int) (root : BS) {n : Nat} (hn : U64 n) :
    PureR Tryz.prog 9 [plV l.length p, .int .i64 m, strV root, uV n].toArray (.bool true) R := by
  have h1 := S_Tree hl hs m
  have h2 := S_rTree hl hs m
  have h3 := P_Mix root hn
  have h4 := P_rMix root hn
  generalize treeT l m = T at h1 h2
  generalize mixR root n = M at h3 h4
  refine pureR_of_HC Tryz.func9 rfl rfl fun w => ?_; refine HC_seq fun K1 hK1 => ?_; refine HC_region ?_; refine HL_r rfl rfl rfl rfl (R_assign rfl) ?_; refine HL_nil ?_; refine HQ_then ?_; refine hK1 _ _ _ _ ?_; clear hK1 K1; refine HC_seq fun K2 hK2 => ?_; refine HC_region ?_; refine HL_callP rfl rfl rfl (enters_of Tryz.func26 (by kernel_rfl) rfl) P_works09 ?_; refine HL_r rfl rfl rfl rfl (R_assign rfl) ?_; refine HL_nil ?_; refine HQ_then ?_; refine hK2 _ _ _ _ ?_; clear hK2 K2; refine HC_seq fun K3 hK3 => ?_; refine HC_seq fun K4 hK4 => ?_; refine HC_region ?_; refine HL_r rfl rfl rfl rfl (R_move rfl) ?_; refine HL_r rfl rfl rfl rfl (R_pure rfl rfl rfl) ?_; refine HL_nil ?_; refine HQ_then ?_; refine hK4 _ _ _ _ ?_; clear hK4 K4; refine HC_cond rfl (fun h5 => ?_) (fun h5 => ?_)
  · try exact Bool.noConfusion h5
  · try exact Bool.noConfusion h5
    try simp only [Z1, Z2, Z3, Z4, Z5, Z6, Z7, Z8, Z9, Z10, Z11, Z12, Z13] at h5
    refine HC_skip ?_; refine HQ_then ?_; refine hK3 _ _ _ _ ?_; clear hK3 K3; refine HC_seq fun K7 hK7 => ?_; refine HC_seq fun K8 hK8 => ?_; refine HC_region ?_; refine HL_r rfl rfl rfl rfl (R_move rfl) ?_; refine HL_r rfl rfl rfl rfl (R_lenPl rfl hs rfl) ?_; refine HL_r rfl rfl rfl rfl (R_pure rfl rfl rfl) ?_; refine HL_r rfl rfl rfl rfl (R_move rfl) ?_
    refine HL_case 24 rfl (fun hb9 => ?_) (fun hb9 => ?_) <;> (try simp only [Z1, Z2, Z3, Z4, Z5, Z6, Z7, Z8, Z9, Z10, Z11, Z12, Z13] at hb9) <;> first | (refine HL_r rfl rfl rfl rfl (R_move rfl) ?_) | (refine HL_skip rfl rfl rfl ?_)
    all_goals first
      | (refine HL_r rfl rfl rfl rfl (R_pure rfl rfl rfl) ?_)
      | (refine HL_skip rfl rfl rfl ?_)
    all_goals first
      | (refine HL_r rfl rfl rfl rfl (R_move rfl) ?_)
      | (refine HL_skip rfl rfl rfl ?_)
    all_goals first
      | (refine HL_skip rfl rfl rfl ?_)
      | (refine HL_case 27 rfl (fun hb12 => ?_) (fun hb12 => ?_) <;> (try simp only [Z1, Z2, Z3, Z4, Z5, Z6, Z7, Z8, Z9, Z10, Z11, Z12, Z13] at hb12) <;> first | (refine HL_r rfl rfl rfl rfl (R_move rfl) ?_) | (refine HL_skip rfl rfl rfl ?_))
    all_goals first
      | (refine HL_r rfl rfl rfl rfl (R_pure rfl rfl rfl) ?_)
      | (refine HL_skip rfl rfl rfl ?_)
    all_goals first
      | (refine HL_r rfl rfl rfl rfl (R_pickT rfl rfl) ?_)
      | (refine HL_r rfl rfl rfl rfl (R_pickF rfl rfl) ?_)
      | (refine HL_skip rfl rfl rfl ?_)
    all_goals first
      | (refine HL_r rfl rfl rfl rfl (R_pickT rfl rfl) ?_)
      | (refine HL_r rfl rfl rfl rfl (R_pickF rfl rfl) ?_)
    all_goals refine HL_r rfl rfl rfl rfl (R_move rfl) ?_
    all_goals first
      | (refine HL_r rfl rfl rfl rfl (R_move rfl) ?_)
      | (refine HL_skip rfl rfl rfl ?_)
      | (refine HL_case 32 rfl (fun hb15 => ?_) (fun hb15 => ?_) <;> (try simp only [Z1, Z2, Z3, Z4, Z5, Z6, Z7, Z8, Z9, Z10, Z11, Z12, Z13] at hb15) <;> first | (refine HL_r rfl rfl rfl rfl (R_move rfl) ?_) | (refine HL_skip rfl rfl rfl ?_))
    all_goals first
      | (refine HL_r rfl rfl rfl rfl (R_lenBs rfl rfl) ?_)
      | (refine HL_skip rfl rfl rfl ?_)
    all_goals first
      | (refine HL_r rfl rfl rfl rfl (R_pure rfl rfl rfl) ?_)
      | (refine HL_skip rfl rfl rfl ?_)
    all_goals first
      | (refine HL_r rfl rfl rfl rfl (R_pickT rfl rfl) ?_)
      | (refine HL_r rfl rfl rfl rfl (R_pickF rfl rfl) ?_)
    all_goals refine HL_nil ?_
    all_goals (
     refine HQ_then ?_; refine hK8 _ _ _ _ ?_; clear hK8 K8; refine HC_cond rfl (fun h18 => ?_) (fun h18 => ?_)
     · try exact Bool.noConfusion h18
       try simp only [Z1, Z2, Z3, Z4, Z5, Z6, Z7, Z8, Z9, Z10, Z11, Z12, Z13] at h18
       refine HC_seq fun K19 hK19 => ?_; refine HC_region ?_; refine HL_r rfl rfl rfl rfl (R_move rfl) ?_; refine HL_r rfl rfl rfl rfl (R_assign rfl) ?_; refine HL_nil ?_; refine HQ_then ?_; refine hK19 _ _ _ _ ?_; clear hK19 K19; refine HC_ret ?_; refine HQ_thenR ?_; clear hK7 K7; refine HQ_post rfl rfl (.cons (res_tmp rfl) .nil) (fun w1 hs1 => ?_); exact ⟨rfl, hs1.keep⟩
     · try exact Bool.noConfusion h18
       all_goals try simp only [Z1, Z2, Z3, Z4, Z5, Z6, Z7, Z8, Z9, Z10, Z11, Z12, Z13] at h18
       all_goals (
        refine HC_skip ?_; refine HQ_then ?_; refine hK7 _ _ _ _ ?_; clear hK7 K7; refine HC_seq fun K20 hK20 => ?_; refine HC_region ?_; refine HL_r rfl rfl rfl rfl (R_move rfl) ?_; refine HL_r rfl rfl rfl rfl (R_move rfl) ?_; refine HL_callR rfl rfl rfl (enters_of Tryz.func27 (by kernel_rfl) rfl) h1 (fun q hq => Or.inr hq) ?_; refine HL_r rfl rfl rfl rfl (R_move rfl) ?_; refine HL_r rfl rfl rfl rfl (R_extract rfl rfl) ?_; refine HL_r rfl rfl rfl rfl (R_extract rfl rfl) ?_; refine HL_r rfl rfl rfl rfl (R_assign rfl) ?_; refine HL_r rfl rfl rfl rfl (R_assign rfl) ?_; refine HL_nil ?_; refine HQ_then ?_; refine hK20 _ _ _ _ ?_; clear hK20 K20; refine HC_seq fun K21 hK21 => ?_; refine HC_region ?_; refine HL_r rfl rfl rfl rfl (R_move rfl) ?_; refine HL_r rfl rfl rfl rfl (R_move rfl) ?_; refine HL_callR rfl rfl rfl (enters_of Tryz.func28 (by kernel_rfl) rfl) h2 (fun q hq => Or.inr hq) ?_; refine HL_r rfl rfl rfl rfl (R_move rfl) ?_; refine HL_r rfl rfl rfl rfl (R_extract rfl rfl) ?_; refine HL_r rfl rfl rfl rfl (R_extract rfl rfl) ?_; refine HL_r rfl rfl rfl rfl (R_assign rfl) ?_; refine HL_r rfl rfl rfl rfl (R_assign rfl) ?_; refine HL_nil ?_; refine HQ_then ?_; refine hK21 _ _ _ _ ?_; clear hK21 K21; refine HC_seq fun K22 hK22 => ?_; refine HC_region ?_; refine HL_r rfl rfl rfl rfl (R_move rfl) ?_; refine HL_r rfl rfl rfl rfl (R_move rfl) ?_; refine HL_callP rfl rfl rfl (enters_of Tryz.func29 (by kernel_rfl) rfl) h3 ?_; refine HL_r rfl rfl rfl rfl (R_move rfl) ?_; refine HL_r rfl rfl rfl rfl (R_extract rfl rfl) ?_; refine HL_r rfl rfl rfl rfl (R_extract rfl rfl) ?_; refine HL_r rfl rfl rfl rfl (R_assign rfl) ?_; refine HL_r rfl rfl rfl rfl (R_assign rfl) ?_; refine HL_nil ?_; refine HQ_then ?_; refine hK22 _ _ _ _ ?_; clear hK22 K22; refine HC_seq fun K23 hK23 => ?_; refine HC_region ?_; refine HL_r rfl rfl rfl rfl (R_move rfl) ?_; refine HL_r rfl rfl rfl rfl (R_move rfl) ?_; refine HL_callP rfl rfl rfl (enters_of Tryz.func30 (by kernel_rfl) rfl) h4 ?_; refine HL_r rfl rfl rfl rfl (R_move rfl) ?_; refine HL_r rfl rfl rfl rfl (R_extract rfl rfl) ?_; refine HL_r rfl rfl rfl rfl (R_extract rfl rfl) ?_; refine HL_r rfl rfl rfl rfl (R_assign rfl) ?_; refine HL_r rfl rfl rfl rfl (R_assign rfl) ?_; refine HL_nil ?_; refine HQ_then ?_; refine hK23 _ _ _ _ ?_; clear hK23 K23; refine HC_seq fun K24 hK24 => ?_; refine HC_region ?_; refine HL_r rfl rfl rfl rfl (R_move rfl) ?_; refine HL_r rfl rfl rfl rfl (R_move rfl) ?_; refine HL_r rfl rfl rfl rfl (R_move rfl) ?_; refine HL_r rfl rfl rfl rfl (R_move rfl) ?_; refine HL_r rfl rfl rfl rfl (R_strEq rfl rfl) ?_; refine HL_as (show _ = Value.bool true from bool_eq' (decide_eq_true rfl)) ?_; refine HL_r rfl rfl rfl rfl (R_pickT rfl rfl) ?_; refine HL_r rfl rfl rfl rfl (R_move rfl) ?_; refine HL_r rfl rfl rfl rfl (R_move rfl) ?_; refine HL_r rfl rfl rfl rfl (R_move rfl) ?_; refine HL_r rfl rfl rfl rfl (R_pure rfl rfl rfl) ?_; refine HL_as (show _ = Value.bool true from bool_eq' (ieqT rfl)) ?_; refine HL_r rfl rfl rfl rfl (R_pickT rfl rfl) ?_; refine HL_r rfl rfl rfl rfl (R_move rfl) ?_; refine HL_r rfl rfl rfl rfl (R_move rfl) ?_; refine HL_r rfl rfl rfl rfl (R_move rfl) ?_; refine HL_r rfl rfl rfl rfl (R_strEq rfl rfl) ?_; refine HL_as (show _ = Value.bool true from bool_eq' (decide_eq_true rfl)) ?_; refine HL_r rfl rfl rfl rfl (R_pickT rfl rfl) ?_; refine HL_r rfl rfl rfl rfl (R_move rfl) ?_; refine HL_r rfl rfl rfl rfl (R_move rfl) ?_; refine HL_r rfl rfl rfl rfl (R_move rfl) ?_; refine HL_r rfl rfl rfl rfl (R_pure rfl rfl rfl) ?_; refine HL_as (show _ = Value.bool true from bool_eq' (ieqT rfl)) ?_; refine HL_r rfl rfl rfl rfl (R_pickT rfl rfl) ?_; refine HL_r rfl rfl rfl rfl (R_assign rfl) ?_; refine HL_nil ?_; refine HQ_then ?_; refine hK24 _ _ _ _ ?_; clear hK24 K24; refine HC_ret ?_; refine HQ_post rfl rfl (.cons (res_tmp rfl) .nil) (fun w1 hs1 => ?_); exact ⟨rfl, hs1.keep⟩
        skip)
     skip)
theorem nat_u8 {n : Int} (h : (Lit.int .u8 n).wf = true) : ∃ m : Nat, n = (m : Int) ∧ m ≤ 255 := by
  have h2 : 0 ≤ n ∧ n ≤ 255 := by simp [Lit.wf, IntKind.min, IntKind.max, IntKind.signed, IntKind.bits] at h; omega
  exact ⟨n.toNat, by omega, by omega⟩
theorem half_lt {dp : Nat} : dp % 5 < 5 := Nat.mod_lt _ (by decide)
theorem pow_le16 {d : Nat} (h : d < 5) : 2 ^ d ≤ 16 := by
  have := Nat.pow_le_pow_right (n := 2) (i := d) (j := 4) (by decide) (by omega); simpa using this
set_option maxHeartbeats 1000000 in
set_option maxRecDepth 10000 in
theorem L_MerkleHalves {R : List (Nat × Obj)} {l : List BS} {p : Pl} (hs : Seg R l.length (chC l) p) (hl : l.length ≤ 9223372036854775807) {dp : Nat} (hdp : dp ≤ 255) :
    PureR Tryz.prog 11 [plV l.length p, .int .u8 (dp : Int)].toArray (.bool true) R := by
  obtain ⟨d, hd⟩ : ∃ d, d = dp % 5 := ⟨_, rfl⟩
  have hd5 : d < 5 := by rw [hd]; exact half_lt
  have hp16 := pow_le16 hd5
  have hp0 := Nat.two_pow_pos d
  obtain ⟨H, hH⟩ : ∃ H, H = 2 ^ d := ⟨_, rfl⟩
  have hH2 : 2 ^ (d + 1) = H + H := by rw [Nat.pow_succ, hH]; omega
  rw [← hH] at hp16 hp0
  have h1 := S_Tree hl hs ((2 * H : Nat) : Int)
  obtain ⟨T, hT⟩ : ∃ T, T = treeT l ((2 * H : Nat) : Int) := ⟨_, rfl⟩
  rw [← hT] at h1; refine pureR_of_HC Tryz.func11 rfl rfl fun w => ?_; refine HC_seq fun K1 hK1 => ?_; refine HC_region ?_; refine HL_r rfl rfl rfl rfl (R_assign rfl) ?_; refine HL_nil ?_; refine HQ_then ?_; refine hK1 _ _ _ _ ?_; clear hK1 K1; refine HC_seq fun K2 hK2 => ?_; refine HC_region ?_; refine HL_callP rfl rfl rfl (enters_of Tryz.func26 (by kernel_rfl) rfl) P_works09 ?_; refine HL_r rfl rfl rfl rfl (R_assign rfl) ?_; refine HL_nil ?_; refine HQ_then ?_; refine hK2 _ _ _ _ ?_; clear hK2 K2; refine HC_seq fun K3 hK3 => ?_; refine HC_seq fun K4 hK4 => ?_; refine HC_region ?_; refine HL_r rfl rfl rfl rfl (R_move rfl) ?_; refine HL_r rfl rfl rfl rfl (R_pure rfl rfl rfl) ?_; refine HL_nil ?_; refine HQ_then ?_; refine hK4 _ _ _ _ ?_; clear hK4 K4; refine HC_cond rfl (fun h5 => ?_) (fun h5 => ?_)
  · try exact Bool.noConfusion h5
  · try exact Bool.noConfusion h5
    try simp only [Z1, Z2, Z3, Z4, Z5, Z6, Z7, Z8, Z9, Z10, Z11, Z12, Z13] at h5
    refine HC_skip ?_; refine HQ_then ?_; refine hK3 _ _ _ _ ?_; clear hK3 K3; refine HC_seq fun K7 hK7 => ?_; refine HC_region ?_; refine HL_r rfl rfl rfl rfl (R_move rfl) ?_; refine HL_r rfl rfl rfl rfl (R_pure rfl rfl rfl) ?_; refine HL_as (show _ = Value.int .u8 ((d : Nat) : Int) from by rw [hd]; rfl) ?_; refine HL_r rfl rfl rfl rfl (R_pure rfl rfl rfl) ?_; refine HL_as (show _ = uV d from congrArg (Value.int .u64) (wrap_u64 (by omega) (by omega))) ?_; refine HL_r rfl rfl rfl rfl (R_shl (n := d) (b := (H : Int)) rfl rfl rfl (show _ ≤ 64 from by omega) (by rw [← hH, Int.one_mul]; exact wrap_i64 (by omega) (by omega))) ?_; refine HL_r rfl rfl rfl rfl (R_assign rfl) ?_; refine HL_nil ?_; refine HQ_then ?_; refine hK7 _ _ _ _ ?_; clear hK7 K7; refine HC_seq fun K8 hK8 => ?_; refine HC_seq fun K9 hK9 => ?_; refine HC_region ?_; refine HL_r rfl rfl rfl rfl (R_move rfl) ?_; refine HL_r rfl rfl rfl rfl (R_lenPl rfl hs rfl) ?_; refine HL_r rfl rfl rfl rfl (R_move rfl) ?_
    refine HL_r rfl rfl rfl rfl (R_pure rfl rfl rfl) ?_; refine HL_as (show _ = Value.int .i64 ((2 * H : Nat) : Int) from by rw [wrap_i64 (by omega) (by omega)]; congr 1 <;> omega) ?_; refine HL_r rfl rfl rfl rfl (R_pure rfl rfl rfl) ?_; refine HL_nil ?_; refine HQ_then ?_; refine hK9 _ _ _ _ ?_; clear hK9 K9; refine HC_cond rfl (fun h10 => ?_) (fun h10 => ?_)
    · try exact Bool.noConfusion h10
      try simp only [Z1, Z2, Z3, Z4, Z5, Z6, Z7, Z8, Z9, Z10, Z11, Z12, Z13] at h10
      refine HC_seq fun K11 hK11 => ?_; refine HC_region ?_; refine HL_r rfl rfl rfl rfl (R_move rfl) ?_; refine HL_r rfl rfl rfl rfl (R_assign rfl) ?_; refine HL_nil ?_; refine HQ_then ?_; refine hK11 _ _ _ _ ?_; clear hK11 K11; refine HC_ret ?_; refine HQ_thenR ?_; clear hK8 K8; refine HQ_post rfl rfl (.cons (res_tmp rfl) .nil) (fun w1 hs1 => ?_); exact ⟨rfl, hs1.keep⟩
    · try exact Bool.noConfusion h10
      try simp only [Z1, Z2, Z3, Z4, Z5, Z6, Z7, Z8, Z9, Z10, Z11, Z12, Z13] at h10
      refine HC_skip ?_; refine HQ_then ?_; refine hK8 _ _ _ _ ?_; clear hK8 K8; refine HC_seq fun K12 hK12 => ?_; refine HC_region ?_; refine HL_r rfl rfl rfl rfl (R_move rfl) ?_; refine HL_r rfl rfl rfl rfl (R_move rfl) ?_
      refine HL_r rfl rfl rfl rfl (R_pure rfl rfl rfl) ?_; refine HL_as (show _ = Value.int .i64 ((2 * H : Nat) : Int) from by rw [wrap_i64 (by omega) (by omega)]; congr 1 <;> omega) ?_; refine HL_callR rfl rfl rfl (enters_of Tryz.func27 (by kernel_rfl) rfl) h1 (fun q hq => Or.inr hq) ?_; refine HL_r rfl rfl rfl rfl (R_move rfl) ?_; refine HL_r rfl rfl rfl rfl (R_extract rfl rfl) ?_; refine HL_r rfl rfl rfl rfl (R_extract rfl rfl) ?_; refine HL_r rfl rfl rfl rfl (R_assign rfl) ?_; refine HL_r rfl rfl rfl rfl (R_assign rfl) ?_; refine HL_nil ?_; refine HQ_then ?_; refine hK12 _ _ _ _ ?_; clear hK12 K12; refine HC_seq fun K13 hK13 => ?_; refine HC_seq fun K14 hK14 => ?_; refine HC_region ?_; refine HL_r rfl rfl rfl rfl (R_move rfl) ?_; refine HL_r rfl rfl rfl rfl (R_pure rfl rfl rfl) ?_; refine HL_nil ?_; refine HQ_then ?_; refine hK14 _ _ _ _ ?_; clear hK14 K14; refine HC_cond rfl (fun h15 => ?_) (fun h15 => ?_)
      · try exact Bool.noConfusion h15
        try simp only [Z1, Z2, Z3, Z4, Z5, Z6, Z7, Z8, Z9, Z10, Z11, Z12, Z13] at h15
        refine HC_seq fun K16 hK16 => ?_
        have hTe : T = ([], 1) := by rw [hT]; exact treeT_err (by rw [← hT]; assumption)
        subst hTe; refine HC_region ?_; refine HL_r rfl rfl rfl rfl (R_move rfl) ?_; refine HL_r rfl rfl rfl rfl (R_move rfl) ?_; refine HL_r rfl rfl rfl rfl (R_move rfl) ?_; refine HL_r rfl rfl rfl rfl (R_pure rfl rfl rfl) ?_; refine HL_as (show _ = Value.bool true from bool_eq' (rfl)) ?_; refine HL_r rfl rfl rfl rfl (R_pickT rfl rfl) ?_; refine HL_r rfl rfl rfl rfl (R_move rfl) ?_; refine HL_r rfl rfl rfl rfl (R_move rfl) ?_; refine HL_r rfl rfl rfl rfl (R_strEq rfl rfl) ?_; refine HL_as (show _ = Value.bool true from bool_eq' (decide_eq_true rfl)) ?_; refine HL_r rfl rfl rfl rfl (R_pickT rfl rfl) ?_; refine HL_r rfl rfl rfl rfl (R_assign rfl) ?_; refine HL_nil ?_; refine HQ_then ?_; refine hK16 _ _ _ _ ?_; clear hK16 K16; refine HC_ret ?_; refine HQ_thenR ?_; clear hK13 K13; refine HQ_post rfl rfl (.cons (res_tmp rfl) .nil) (fun w1 hs1 => ?_); exact ⟨rfl, hs1.keep⟩
      · try exact Bool.noConfusion h15
        try simp only [Z1, Z2, Z3, Z4, Z5, Z6, Z7, Z8, Z9, Z10, Z11, Z12, Z13] at h15
        refine HC_skip ?_; refine HQ_then ?_; refine hK13 _ _ _ _ ?_; clear hK13 K13; refine HC_seq fun K21 hK21 => ?_
        have hT0 : T.2 = 0 := by simp_all
        obtain ⟨q1, q2, q3, q4⟩ := treeT_at (l := l) (m := ((2 * H : Nat) : Int)) (by rw [← hT]; exact hT0)
        have hTr : T = (rootC l (2 * H), 0) := by rw [hT]; exact treeT_ok q4 (by omega) (by omega) (by omega)
        obtain ⟨k, hk⟩ : ∃ k, k = min l.length H := ⟨_, rfl⟩
        have hk1 : k ≤ l.length := by omega
        have hk2 : k ≤ H := by omega
        have hsa := seg_part hs (Nat.zero_le k) hk1
        have hsb := seg_part hs hk1 (Nat.le_refl _)
        rw [List.drop_zero, Nat.sub_zero] at hsa; rw [List.take_of_length_le (by rw [List.length_drop]; omega)] at hsb
        have la : (l.take k).length ≤ H := by rw [List.length_take]; omega
        have lb : (l.drop k).length ≤ H := by rw [List.length_drop]; omega
        have ma : ∀ s ∈ l.take k, s.length = 32 := fun s h => q4 s (List.mem_of_mem_take h)
        have mb : ∀ s ∈ l.drop k, s.length = 32 := fun s h => q4 s (List.mem_of_mem_drop h)
        have h2 := S_Tree (by omega) hsa ((H : Nat) : Int)
        have h3 := S_Tree (by omega) hsb ((H : Nat) : Int)
        rw [treeT_ok ma (by omega) (by omega) la] at h2; rw [treeT_ok mb (by omega) (by omega) lb] at h3
        have l1 := rootC_len la ma
        have l2 := rootC_len lb mb
        have l3 := rootC_len (m := 2 * H) (by omega) q4
        have hh : rootC l (2 * H) = kec (rootC (l.take k) H ++ rootC (l.drop k) H) := by
          have hx := rootC_halves (l := l) (d := d) (by omega)
          rw [hH2, show H + H = 2 * H by omega, ← hH] at hx; rw [hx]
          rcases Nat.lt_or_ge l.length H with hc | hc
          · obtain rfl : k = l.length := by omega
            rw [List.take_of_length_le (by omega), List.drop_eq_nil_of_le (by omega), List.take_of_length_le (Nat.le_refl _), List.drop_eq_nil_of_le (Nat.le_refl _)]
          · obtain rfl : k = H := by omega
            rfl
        obtain ⟨ra, hra⟩ : ∃ x, x = rootC (l.take k) H := ⟨_, rfl⟩
        obtain ⟨rb, hrb⟩ : ∃ x, x = rootC (l.drop k) H := ⟨_, rfl⟩
        rw [← hra, ← hrb] at hh; rw [← hra] at h2 l1; rw [← hrb] at h3 l2
        have hkc := P_kec (s := ra ++ rb) (by rw [List.length_append]; omega)
        rw [← hh] at hkc
        obtain ⟨S, hS⟩ : ∃ x, x = rootC l (2 * H) := ⟨_, rfl⟩
        rw [← hS] at hkc l3 hTr; subst hTr; refine HC_region ?_; refine HL_r rfl rfl rfl rfl (R_move rfl) ?_; refine HL_r rfl rfl rfl rfl (R_lenPl rfl hs rfl) ?_; refine HL_r rfl rfl rfl rfl (R_move rfl) ?_
        refine HL_r rfl rfl rfl rfl (R_min2 (r := ((k : Nat) : Int)) rfl rfl (by rw [hk]; split <;> omega)) ?_; refine HL_r rfl rfl rfl rfl (R_assign rfl) ?_; refine HL_nil ?_; refine HQ_then ?_; refine hK21 _ _ _ _ ?_; clear hK21 K21; refine HC_seq fun K22 hK22 => ?_; refine HC_region ?_; refine HL_r rfl rfl rfl rfl (R_move rfl) ?_; refine HL_r rfl rfl rfl rfl (R_move rfl) ?_; refine HL_r rfl rfl rfl rfl (R_sliceGP (kl := none) (kh := some k) (a := 0) (b := k) (m := (l.take k).length) rfl hs rfl rfl trivial ⟨_, rfl⟩ rfl rfl (by omega) (by omega) (by rw [List.length_take]; omega)) ?_; refine HL_r rfl rfl rfl rfl (R_move rfl) ?_; refine HL_callR rfl rfl rfl (enters_of Tryz.func27 (by kernel_rfl) rfl) h2 (fun q hq => Or.inr hq) ?_; refine HL_r rfl rfl rfl rfl (R_move rfl) ?_; refine HL_r rfl rfl rfl rfl (R_extract rfl rfl) ?_; refine HL_r rfl rfl rfl rfl (R_extract rfl rfl) ?_; refine HL_r rfl rfl rfl rfl (R_assign rfl) ?_; refine HL_r rfl rfl rfl rfl (R_assign rfl) ?_; refine HL_nil ?_; refine HQ_then ?_; refine hK22 _ _ _ _ ?_; clear hK22 K22; refine HC_seq fun K23 hK23 => ?_; refine HC_region ?_; refine HL_r rfl rfl rfl rfl (R_move rfl) ?_; refine HL_r rfl rfl rfl rfl (R_move rfl) ?_; refine HL_r rfl rfl rfl rfl (R_sliceGP (kl := some k) (kh := none) (a := k) (b := l.length) (m := (l.drop k).length) rfl hs rfl rfl ⟨_, rfl⟩ trivial rfl rfl (by omega) (by omega) (by rw [List.length_drop])) ?_; refine HL_r rfl rfl rfl rfl (R_move rfl) ?_; refine HL_callR rfl rfl rfl (enters_of Tryz.func27 (by kernel_rfl) rfl) h3 (fun q hq => Or.inr hq) ?_; refine HL_r rfl rfl rfl rfl (R_move rfl) ?_; refine HL_r rfl rfl rfl rfl (R_extract rfl rfl) ?_; refine HL_r rfl rfl rfl rfl (R_extract rfl rfl) ?_; refine HL_r rfl rfl rfl rfl (R_assign rfl) ?_; refine HL_r rfl rfl rfl rfl (R_assign rfl) ?_; refine HL_nil ?_; refine HQ_then ?_; refine hK23 _ _ _ _ ?_; clear hK23 K23; refine HC_seq fun K24 hK24 => ?_; refine HC_region ?_; refine HL_r rfl rfl rfl rfl (R_move rfl) ?_; refine HL_r rfl rfl rfl rfl (R_move rfl) ?_; refine HL_r rfl rfl rfl rfl (R_move rfl) ?_; refine HL_r rfl rfl rfl rfl (R_pure rfl rfl rfl) ?_; refine HL_as (show _ = Value.bool true from bool_eq' (rfl)) ?_; refine HL_r rfl rfl rfl rfl (R_pickT rfl rfl) ?_; refine HL_r rfl rfl rfl rfl (R_move rfl) ?_; refine HL_r rfl rfl rfl rfl (R_move rfl) ?_; refine HL_r rfl rfl rfl rfl (R_pure rfl rfl rfl) ?_; refine HL_as (show _ = Value.bool true from bool_eq' (rfl)) ?_; refine HL_r rfl rfl rfl rfl (R_pickT rfl rfl) ?_; refine HL_r rfl rfl rfl rfl (R_move rfl) ?_; refine HL_r rfl rfl rfl rfl (R_move rfl) ?_; refine HL_r rfl rfl rfl rfl (R_move rfl) ?_; refine HL_r rfl rfl rfl rfl (R_move rfl) ?_; refine HL_r rfl rfl rfl rfl (R_concat (a := ra) (b := rb) rfl rfl (by omega)) ?_; refine HL_callP rfl rfl rfl (enters_of Tryz.func34 (by kernel_rfl) rfl) hkc ?_; refine HL_r rfl rfl rfl rfl (R_strEq rfl rfl) ?_; refine HL_as (show _ = Value.bool true from bool_eq' (decide_eq_true rfl)) ?_; refine HL_r rfl rfl rfl rfl (R_pickT rfl rfl) ?_; refine HL_r rfl rfl rfl rfl (R_move rfl) ?_; refine HL_r rfl rfl rfl rfl (R_move rfl) ?_; refine HL_r rfl rfl rfl rfl (R_lenBs rfl rfl) ?_; refine HL_r rfl rfl rfl rfl (R_pure rfl rfl rfl) ?_; refine HL_as (show _ = Value.bool true from bool_eq' (ieqT (by rw [l3]; rfl))) ?_; refine HL_r rfl rfl rfl rfl (R_pickT rfl rfl) ?_; refine HL_r rfl rfl rfl rfl (R_assign rfl) ?_; refine HL_nil ?_; refine HQ_then ?_; refine hK24 _ _ _ _ ?_; clear hK24 K24; refine HC_ret ?_; refine HQ_post rfl rfl (.cons (res_tmp rfl) .nil) (fun w1 hs1 => ?_); exact ⟨rfl, hs1.keep⟩
theorem chC_zero (l : List BS) (k : Nat) : chC (l ++ List.replicate (k + 1) z32) = chC (l ++ List.replicate k z32) ++ [strV z32] := by
  rw [List.replicate_succ', ← List.append_assoc, chC_snoc]
set_option maxHeartbeats 1000000 in
set_option maxRecDepth 10000 in
theorem L_MerkleZeros {R : List (Nat × Obj)} {l : List BS} {p : Pl} (hs : Seg R l.length (chC l) p) (hl : l.length ≤ 9223372036854775807) {mo : Nat} (hmo : mo ≤ 255) :
    PureR Tryz.prog 12 [plV l.length p, .int .u8 (mo : Int)].toArray (.bool true) R := by
  obtain ⟨n, hn⟩ : ∃ n, n = mo % 40 + 1 := ⟨_, rfl⟩
  have hn40 : n ≤ 40 := by omega
  have hn1 : 1 ≤ n := by omega
  have hlg : lg n ≤ 6 := lg_le (by simp; omega)
  have hup := lg_up n
  have hW64 : 2 ^ lg n ≤ 64 := by have := Nat.pow_le_pow_right (n := 2) (i := lg n) (j := 6) (by decide) hlg; simpa using this
  have h1 := S_Tree hl hs ((n : Nat) : Int)
  obtain ⟨T, hT⟩ : ∃ T, T = treeT l ((n : Nat) : Int) := ⟨_, rfl⟩
  rw [← hT] at h1; refine pureR_of_HC Tryz.func12 rfl rfl fun w => ?_; refine HC_seq fun K1 hK1 => ?_; refine HC_region ?_; refine HL_r rfl rfl rfl rfl (R_assign rfl) ?_; refine HL_nil ?_; refine HQ_then ?_; refine hK1 _ _ _ _ ?_; clear hK1 K1; refine HC_seq fun K2 hK2 => ?_; refine HC_region ?_; refine HL_callP rfl rfl rfl (enters_of Tryz.func26 (by kernel_rfl) rfl) P_works09 ?_; refine HL_r rfl rfl rfl rfl (R_assign rfl) ?_; refine HL_nil ?_; refine HQ_then ?_; refine hK2 _ _ _ _ ?_; clear hK2 K2; refine HC_seq fun K3 hK3 => ?_; refine HC_seq fun K4 hK4 => ?_; refine HC_region ?_; refine HL_r rfl rfl rfl rfl (R_move rfl) ?_; refine HL_r rfl rfl rfl rfl (R_pure rfl rfl rfl) ?_; refine HL_nil ?_; refine HQ_then ?_; refine hK4 _ _ _ _ ?_; clear hK4 K4; refine HC_cond rfl (fun h5 => ?_) (fun h5 => ?_)
  · try exact Bool.noConfusion h5
  · try exact Bool.noConfusion h5
    try simp only [Z1, Z2, Z3, Z4, Z5, Z6, Z7, Z8, Z9, Z10, Z11, Z12, Z13] at h5
    refine HC_skip ?_; refine HQ_then ?_; refine hK3 _ _ _ _ ?_; clear hK3 K3; refine HC_seq fun K7 hK7 => ?_; refine HC_region ?_; refine HL_r rfl rfl rfl rfl (R_move rfl) ?_; refine HL_r rfl rfl rfl rfl (R_pure rfl rfl rfl) ?_; refine HL_as (show _ = Value.int .i64 ((mo : Nat) : Int) from congrArg (Value.int .i64) (wrap_i64 (by omega) (by omega))) ?_; refine HL_r rfl rfl rfl rfl (R_pure rfl rfl rfl) ?_; refine HL_as (show _ = Value.int .i64 ((mo % 40 : Nat) : Int) from rfl) ?_
    refine HL_r rfl rfl rfl rfl (R_pure rfl rfl rfl) ?_; refine HL_as (show _ = Value.int .i64 ((n : Nat) : Int) from by rw [wrap_i64 (by omega) (by omega)]; congr 1 <;> omega) ?_; refine HL_r rfl rfl rfl rfl (R_assign rfl) ?_; refine HL_nil ?_; refine HQ_then ?_; refine hK7 _ _ _ _ ?_; clear hK7 K7; refine HC_seq fun K8 hK8 => ?_; refine HC_region ?_; refine HL_r rfl rfl rfl rfl (R_move rfl) ?_; refine HL_r rfl rfl rfl rfl (R_move rfl) ?_; refine HL_callR rfl rfl rfl (enters_of Tryz.func27 (by kernel_rfl) rfl) h1 (fun q hq => Or.inr hq) ?_; refine HL_r rfl rfl rfl rfl (R_move rfl) ?_; refine HL_r rfl rfl rfl rfl (R_extract rfl rfl) ?_; refine HL_r rfl rfl rfl rfl (R_extract rfl rfl) ?_; refine HL_r rfl rfl rfl rfl (R_assign rfl) ?_; refine HL_r rfl rfl rfl rfl (R_assign rfl) ?_; refine HL_nil ?_; refine HQ_then ?_; refine hK8 _ _ _ _ ?_; clear hK8 K8; refine HC_seq fun K9 hK9 => ?_; refine HC_seq fun K10 hK10 => ?_; refine HC_region ?_; refine HL_r rfl rfl rfl rfl (R_move rfl) ?_; refine HL_r rfl rfl rfl rfl (R_pure rfl rfl rfl) ?_; refine HL_r rfl rfl rfl rfl (R_move rfl) ?_
    refine HL_case 30 rfl (fun hb11 => ?_) (fun hb11 => ?_) <;> (try simp only [Z1, Z2, Z3, Z4, Z5, Z6, Z7, Z8, Z9, Z10, Z11, Z12, Z13] at hb11) <;> first | (refine HL_r rfl rfl rfl rfl (R_move rfl) ?_) | (refine HL_skip rfl rfl rfl ?_)
    all_goals first
      | (refine HL_r rfl rfl rfl rfl (R_lenPl rfl hs rfl) ?_)
      | (refine HL_skip rfl rfl rfl ?_)
    all_goals first
      | (refine HL_r rfl rfl rfl rfl (R_pure rfl rfl rfl) ?_)
      | (refine HL_skip rfl rfl rfl ?_)
    all_goals first
      | (refine HL_r rfl rfl rfl rfl (R_pickT rfl rfl) ?_)
      | (refine HL_r rfl rfl rfl rfl (R_pickF rfl rfl) ?_)
    all_goals refine HL_nil ?_
    all_goals (
     refine HQ_then ?_; refine hK10 _ _ _ _ ?_; clear hK10 K10; refine HC_cond rfl (fun h14 => ?_) (fun h14 => ?_)
     · try exact Bool.noConfusion h14
       try simp only [Z1, Z2, Z3, Z4, Z5, Z6, Z7, Z8, Z9, Z10, Z11, Z12, Z13] at h14
       refine HC_seq fun K15 hK15 => ?_; refine HC_region ?_; refine HL_r rfl rfl rfl rfl (R_move rfl) ?_; refine HL_r rfl rfl rfl rfl (R_assign rfl) ?_; refine HL_nil ?_; refine HQ_then ?_; refine hK15 _ _ _ _ ?_; clear hK15 K15; refine HC_ret ?_; refine HQ_thenR ?_; clear hK9 K9; refine HQ_post rfl rfl (.cons (res_tmp rfl) .nil) (fun w1 hs1 => ?_); exact ⟨rfl, hs1.keep⟩
     · try exact Bool.noConfusion h14
       all_goals try simp only [Z1, Z2, Z3, Z4, Z5, Z6, Z7, Z8, Z9, Z10, Z11, Z12, Z13] at h14
       all_goals (
        refine HC_skip ?_; refine HQ_then ?_; refine hK9 _ _ _ _ ?_; clear hK9 K9; refine HC_seq fun K16 hK16 => ?_
        have hT0 : T.2 = 0 := by simp_all
        obtain ⟨q1, q2, q3, q4⟩ := treeT_at (l := l) (m := ((n : Nat) : Int)) (by rw [← hT]; exact hT0)
        have hTr : T = (rootC l n, 0) := by rw [hT]; exact treeT_ok q4 (by omega) (by omega) (by omega)
        have hz := fun k h => rootC_zeros (l := l) (n := n) (k := k) h
        have hw := rootC_wide l n
        obtain ⟨S, hS⟩ : ∃ x, x = rootC l n := ⟨_, rfl⟩
        rw [← hS] at hTr; simp only [← hS] at hz hw; subst hTr; refine HC_region ?_; refine HL_r rfl rfl rfl rfl (R_assign rfl) ?_; refine HL_nil ?_; refine HQ_then ?_; refine hK16 _ _ _ _ ?_; clear hK16 K16; refine HC_seq fun K17 hK17 => ?_; refine HC_block ?_; refine HC_loop (σ := Nat) (fun k => k ≤ lg n) (fun k => [(0, plV l.length p), (5, .bool true), (6, .int .i64 (n : Int)), (7, strV S), (9, .int .i64 ((2 ^ k : Nat) : Int))]) (fun _ => []) (fun _ _ _ => True) (fun k => lg n - k) 0 (Nat.zero_le _) (.cons rfl (.cons rfl (.cons rfl (.cons rfl (.cons rfl .nil))))) (List.Sublist.refl _) (fun _ _ h => h) ?_; intro k hk0; refine HC_seq fun K18 hK18 => ?_; refine HC_seq fun K19 hK19 => ?_; refine HC_region ?_; refine HL_r rfl rfl rfl rfl (R_move rfl) ?_; refine HL_r rfl rfl rfl rfl (R_move rfl) ?_; refine HL_r rfl rfl rfl rfl (R_pure rfl rfl rfl) ?_; refine HL_nil ?_; refine HQ_then ?_; refine hK19 _ _ _ _ ?_; clear hK19 K19; refine HC_cond rfl (fun h20 => ?_) (fun h20 => ?_)
        · try exact Bool.noConfusion h20
          try simp only [Z1, Z2, Z3, Z4, Z5, Z6, Z7, Z8, Z9, Z10, Z11, Z12, Z13] at h20
          refine HC_skip ?_; refine HQ_then ?_; refine hK18 _ _ _ _ ?_; clear hK18 K18; refine HC_block ?_
          have hk : k < lg n := pow_lg.1 (by omega)
          have hk16 : 2 ^ k ≤ 64 := by have := Nat.pow_le_pow_right (n := 2) (i := k) (j := 6) (by decide) (by omega); simpa using this
          refine HC_region ?_; refine HL_r rfl rfl rfl rfl (R_move rfl) ?_; refine HL_r rfl rfl rfl rfl (R_pure rfl rfl rfl) ?_; refine HL_as (show _ = Value.int .i64 ((2 ^ (k + 1) : Nat) : Int) from congrArg (Value.int .i64) ((wrap_two (by omega)).trans (by rw [Nat.pow_succ]))) ?_; refine HL_r rfl rfl rfl rfl (R_assign rfl) ?_; refine HL_nil ?_; refine HQ_blockN ?_; refine HQ_then ?_; exact HQ_again (k + 1) (by omega) (by omega) (.cons rfl (.cons rfl (.cons rfl (.cons rfl (.cons rfl .nil))))) (List.Sublist.refl _) (fun _ _ h => h)
        · try exact Bool.noConfusion h20
          try simp only [Z1, Z2, Z3, Z4, Z5, Z6, Z7, Z8, Z9, Z10, Z11, Z12, Z13] at h20
          refine HC_exit ?_; refine HQ_thenE ?_; clear hK18 K18; refine HQ_thenE ?_; refine HQ_blockE ?_; refine HQ_then ?_; refine hK17 _ _ _ _ ?_; clear hK17 K17; refine HC_seq fun K21 hK21 => ?_
          have hkl : ¬ k < lg n := fun h => by have := pow_lg.2 h; omega
          obtain rfl : k = lg n := by omega
          obtain ⟨W, hW⟩ : ∃ W, W = 2 ^ lg n := ⟨_, rfl⟩
          rw [← hW] at hup hz hw hW64 ⊢; refine HC_region ?_; refine HL_buildSlice0 rfl rfl rfl rfl fun r1 => ?_; refine HL_r rfl rfl rfl rfl (R_move rfl) ?_; refine HL_clonePl (k := 0) (b := 16) (sz := 1) rfl rfl rfl rfl rfl rfl hs (fun q hq => Or.inr hq) rfl rfl rfl rfl rfl (by decide) (by rw [chC_len, Nat.mul_one]) (chC_one l) (by omega) (by omega) fun row0 hrow0 => ?_; refine HL_r rfl rfl rfl rfl (R_assign rfl) ?_; refine HL_nil ?_; refine HQ_then ?_; refine hK21 _ _ _ _ ?_; clear hK21 K21; refine HC_seq fun K22 hK22 => ?_; refine HC_block ?_; refine HC_loop (σ := Nat × Row) (fun q => l.length + q.1 ≤ W ∧ rowOk 1 (l.length + q.1) (chC (l ++ List.replicate q.1 z32)) q.2) (fun q => [(0, plV l.length p), (5, .bool true), (7, strV S), (9, .int .i64 (W : Int)), (10, rowV (l.length + q.1) q.2)]) (fun q => rowL 9 (chC (l ++ List.replicate q.1 z32)) q.2) (fun _ _ _ => True) (fun q => W - (l.length + q.1)) (0, row0) ⟨by simp only; omega, by simpa using hrow0⟩ (.cons rfl (.cons rfl (.cons rfl (.cons rfl (.cons rfl .nil))))) (by simp) (fun _ _ h => h) ?_; rintro ⟨k, row⟩ ⟨hkW, hrow⟩; simp only at hkW hrow; change HC _ _ [(0, plV l.length p), (5, _), (7, strV S), (9, _), (10, rowV (l.length + k) row)] (rowL _ (chC (l ++ List.replicate k z32)) row) _ _ _; refine HC_seq fun K23 hK23 => ?_; refine HC_seq fun K24 hK24 => ?_; refine HC_region ?_; refine HL_r rfl rfl rfl rfl (R_move rfl) ?_; refine HL_r rfl rfl rfl rfl (R_lenRow rfl hrow.zero rfl) ?_; refine HL_r rfl rfl rfl rfl (R_move rfl) ?_; refine HL_r rfl rfl rfl rfl (R_pure rfl rfl rfl) ?_; refine HL_nil ?_; refine HQ_then ?_; refine hK24 _ _ _ _ ?_; clear hK24 K24; refine HC_cond rfl (fun h25 => ?_) (fun h25 => ?_)
          · try exact Bool.noConfusion h25
            try simp only [Z1, Z2, Z3, Z4, Z5, Z6, Z7, Z8, Z9, Z10, Z11, Z12, Z13] at h25
            refine HC_skip ?_; refine HQ_then ?_; refine hK23 _ _ _ _ ?_; clear hK23 K23; refine HC_block ?_; refine HC_region ?_; refine HL_r rfl rfl rfl rfl (R_move rfl) ?_; refine HL_make (n := 32) (b := 1) rfl rfl rfl rfl rfl rfl rfl rfl rfl (by decide) (by decide) fun rm => ?_; refine HL_r rfl rfl rfl rfl (R_bytesStr (b := z32) (row := some (rm, 32, [])) (e := 5) rfl ⟨rfl, rfl⟩ (fun p hp => .inl (by rw [List.mem_singleton.1 hp]; exact List.mem_cons_self)) rfl rfl rfl) ?_; refine HL_buildSlice (vs := [_]) (zs := [_]) (r := [_]) rfl rfl rfl rfl rfl rfl rfl rfl rfl (by show (madeCells #[_] _).toList = _; rw [made_one]; exact rfl) rfl fun r1 => ?_; refine HL_appendRow (L0 := [_, _]) (xs := chC (l ++ List.replicate k z32)) (row := row) (n := l.length + k) (sz := 1) (b := 16) (news := [_]) (List.perm_append_comm (l₁ := [_, _])) rfl rfl rfl rfl (known_L (k := 0) rfl) rfl rfl rfl rfl rfl (by decide) rfl rfl rfl (by decide) hrow (by omega) (by omega) fun ra cap sp hra => ?_; refine HL_r rfl rfl rfl rfl (R_assign rfl) ?_; refine HL_nil ?_; refine HQ_blockN ?_; refine HQ_then ?_; refine HQ_sel [0] (L' := [_]) (by decide) rfl ?_; exact HQ_again (k + 1, some (ra, cap, sp)) ⟨by simp only; omega, by simp only; rw [chC_zero, ← Nat.add_assoc]; exact hra⟩ (by simp only; omega) (.cons rfl (.cons rfl (.cons rfl (.cons rfl (.cons (by simp only; rw [← Nat.add_assoc]; rfl) .nil))))) (by simp only; rw [chC_zero]; exact List.Sublist.refl _) (fun _ _ h => h)
          · try exact Bool.noConfusion h25
            try simp only [Z1, Z2, Z3, Z4, Z5, Z6, Z7, Z8, Z9, Z10, Z11, Z12, Z13] at h25
            refine HC_exit ?_; refine HQ_thenE ?_; clear hK23 K23; refine HQ_thenE ?_; refine HQ_blockE ?_; refine HQ_then ?_; refine hK22 _ _ _ _ ?_; clear hK22 K22; refine HC_seq fun K26 hK26 => ?_
            have hzl : ∀ s ∈ l ++ List.replicate k z32, s.length = 32 := fun s h => by
              rcases List.mem_append.1 h with h | h
              · exact q4 s h
              · rw [List.eq_of_mem_replicate h]; rfl
            have hal : (l ++ List.replicate k z32).length = l.length + k := by rw [List.length_append, List.length_replicate]
            have hA := S_Tree (R := rowL 9 (chC (l ++ List.replicate k z32)) row) (l := l ++ List.replicate k z32) (p := rowP row) (by omega) (by rw [hal]; exact rowP_seg hrow (by decide)) ((W : Nat) : Int)
            rw [treeT_ok hzl (by omega) (by omega) (by omega), hz k (by omega), hal] at hA
            have hB := S_Tree hl hs ((W : Nat) : Int)
            rw [treeT_ok q4 (by omega) (by omega) (by omega), hw] at hB; refine HC_region ?_; refine HL_r rfl rfl rfl rfl (R_move rfl) ?_; refine HL_as (rowP_V _ _ hrow.zero).symm ?_; refine HL_r rfl rfl rfl rfl (R_move rfl) ?_; refine HL_callR (Rl := rowL 9 (chC (l ++ List.replicate k z32)) row) rfl rfl rfl (enters_of Tryz.func27 (by kernel_rfl) rfl) hA (fun q hq => .inl hq) ?_; refine HL_r rfl rfl rfl rfl (R_move rfl) ?_; refine HL_r rfl rfl rfl rfl (R_extract rfl rfl) ?_; refine HL_r rfl rfl rfl rfl (R_extract rfl rfl) ?_; refine HL_r rfl rfl rfl rfl (R_assign rfl) ?_; refine HL_r rfl rfl rfl rfl (R_assign rfl) ?_; refine HL_nil ?_; refine HQ_then ?_; refine hK26 _ _ _ _ ?_; clear hK26 K26; refine HC_seq fun K27 hK27 => ?_; refine HC_region ?_; refine HL_r rfl rfl rfl rfl (R_move rfl) ?_; refine HL_r rfl rfl rfl rfl (R_move rfl) ?_; refine HL_callR rfl rfl rfl (enters_of Tryz.func27 (by kernel_rfl) rfl) hB (fun q hq => Or.inr hq) ?_; refine HL_r rfl rfl rfl rfl (R_move rfl) ?_; refine HL_r rfl rfl rfl rfl (R_extract rfl rfl) ?_; refine HL_r rfl rfl rfl rfl (R_extract rfl rfl) ?_; refine HL_r rfl rfl rfl rfl (R_assign rfl) ?_; refine HL_r rfl rfl rfl rfl (R_assign rfl) ?_; refine HL_nil ?_; refine HQ_then ?_; refine hK27 _ _ _ _ ?_; clear hK27 K27; refine HC_seq fun K28 hK28 => ?_; refine HC_region ?_; refine HL_r rfl rfl rfl rfl (R_move rfl) ?_; refine HL_r rfl rfl rfl rfl (R_move rfl) ?_; refine HL_r rfl rfl rfl rfl (R_move rfl) ?_; refine HL_r rfl rfl rfl rfl (R_pure rfl rfl rfl) ?_; refine HL_as (show _ = Value.bool true from bool_eq' (rfl)) ?_; refine HL_r rfl rfl rfl rfl (R_pickT rfl rfl) ?_; refine HL_r rfl rfl rfl rfl (R_move rfl) ?_; refine HL_r rfl rfl rfl rfl (R_move rfl) ?_; refine HL_r rfl rfl rfl rfl (R_pure rfl rfl rfl) ?_; refine HL_as (show _ = Value.bool true from bool_eq' (rfl)) ?_; refine HL_r rfl rfl rfl rfl (R_pickT rfl rfl) ?_; refine HL_r rfl rfl rfl rfl (R_move rfl) ?_; refine HL_r rfl rfl rfl rfl (R_move rfl) ?_; refine HL_r rfl rfl rfl rfl (R_move rfl) ?_; refine HL_r rfl rfl rfl rfl (R_strEq rfl rfl) ?_; refine HL_as (show _ = Value.bool true from bool_eq' (decide_eq_true rfl)) ?_; refine HL_r rfl rfl rfl rfl (R_pickT rfl rfl) ?_; refine HL_r rfl rfl rfl rfl (R_move rfl) ?_; refine HL_r rfl rfl rfl rfl (R_move rfl) ?_; refine HL_r rfl rfl rfl rfl (R_move rfl) ?_; refine HL_r rfl rfl rfl rfl (R_strEq rfl rfl) ?_; refine HL_as (show _ = Value.bool true from bool_eq' (decide_eq_true rfl)) ?_; refine HL_r rfl rfl rfl rfl (R_pickT rfl rfl) ?_; refine HL_r rfl rfl rfl rfl (R_assign rfl) ?_; refine HL_nil ?_; refine HQ_then ?_; refine hK28 _ _ _ _ ?_; clear hK28 K28; refine HC_ret ?_; refine HQ_post rfl rfl (.cons (res_tmp rfl) .nil) (fun w1 hs1 => ?_); exact ⟨rfl, hs1.keep⟩
        skip)
     skip)
end Go.Proofs.YtlcbfphioeppaaaGreatDoor
