import Derived.Test.YtdadaddakcidjaaDoorSlc
import Derived.Test.YtdadaddakcidjaaDoorSle
import Derived.Carry
import Derived.ChangeArms
/-! ### Rows that lie in known blocks; types and values as trees -/
namespace Go.SL
set_option linter.all false
open Go Go.RowKit Go.Shelf Go.ChangeShapes Go.WideShapes
open Go.Proofs (Enters enters_of)
/-- Where a slice lies: nowhere, or an address and its room. -/
abbrev Pl : Type := Option (Addr × Nat)
def plA : Pl → Option Addr
  | none => none
  | some (a, _) => some a
def plC : Pl → Nat
  | none => 0
  | some (_, cap) => cap
def plV (n : Nat) (p : Pl) : Value := .slice (plA p) n (plC p)
def plB : Pl → Nat
  | none => 0
  | some (a, _) => a.block
def plO : Pl → Nat
  | none => 0
  | some (a, _) => a.off
/-- n elements, all cells of which are 'cs', lie in the known blocks. -/
def Seg (R : List (Nat × Obj)) (n : Nat) (cs : List Value) : Pl → Prop
  | none => n = 0
  | some (a, cap) => n ≤ cap ∧ (0 < n → a.spot = none ∧ ∃ all e fr, (a.block, Obj.cells all e fr) ∈ R ∧ (all.toList.drop a.off).take cs.length = cs)
theorem Seg.nil {R : List (Nat × Obj)} : Seg R 0 [] none := rfl
theorem Seg.mono {R R' : List (Nat × Obj)} {n : Nat} {cs : List Value} {p : Pl} (h : Seg R n cs p) (hs : ∀ q ∈ R, q ∈ R') : Seg R' n cs p := by
  cases p with
  | none => exact h
  | some q => obtain ⟨a, cap⟩ := q; exact ⟨h.1, fun h0 => by obtain ⟨h1, all, e, fr, h2, h3⟩ := h.2 h0; exact ⟨h1, all, e, fr, hs _ h2, h3⟩⟩
theorem take_get {α : Type} {all cs : List α} {o j : Nat} {v : α} (h : (all.drop o).take cs.length = cs) (hv : cs[j]? = some v) : all[o + j]? = some v := by
  rw [← h, List.getElem?_take] at hv
  split at hv
  · rwa [List.getElem?_drop] at hv
  · cases hv
theorem take_sub {α : Type} {all cs vs : List α} {o j m : Nat} (h : (all.drop o).take cs.length = cs) (hv : (cs.drop j).take m = vs) (hm : vs.length = m) : (all.drop (o + j)).take m = vs := by
  have h1 : j + m ≤ cs.length ∨ m = 0 := by
    have := congrArg List.length hv
    rw [List.length_take, List.length_drop, hm] at this
    omega
  rcases h1 with h1 | h1
  · rw [← hv, ← h, List.drop_take, List.drop_drop, List.take_take, Nat.min_eq_left (by omega)]
  · subst h1; rw [List.take_zero] at hv ⊢; exact hv
theorem cat_get {α : Type} {f : α → List Value} {m : Nat} (hf : ∀ x, (f x).length = m) : ∀ {l : List α} {j : Nat} {x : α}, l[j]? = some x → ((l.flatMap f).drop (j * m)).take m = f x
  | [], _, _, h => by simp at h
  | y :: l, 0, x, h => by
    obtain rfl : y = x := by simpa using h
    rw [Nat.zero_mul, List.drop_zero, List.flatMap_cons, List.take_left' (hf y)]
  | y :: l, j + 1, x, h => by
    have e : (j + 1) * m = (f y).length + j * m := by rw [hf, Nat.succ_mul, Nat.add_comm]
    rw [e, List.flatMap_cons, ← List.drop_drop, List.drop_left' rfl]
    exact cat_get hf (by simpa using h)
theorem cat_len {α : Type} {f : α → List Value} {m : Nat} (hf : ∀ x, (f x).length = m) : ∀ l : List α, (l.flatMap f).length = l.length * m
  | [] => by simp
  | y :: l => by rw [List.flatMap_cons, List.length_append, hf, cat_len hf l, List.length_cons, Nat.succ_mul, Nat.add_comm]
section
variable {c : Cx} {l : List (Nat × Value)} {L : List (Nat × Obj)} {X : XP} {Q : Exit → Act → World → Prop} {d : List Deferred}
variable {ops : Array Oper} {rest : List Oper} {i : Nat} {v : Value} {t : TypeId} {ps : String} {af : Array Edge} {gd : Option (Nat × Bool)} {ty : TypeId}
theorem R_lenPl {x : Operand} {p : Pl} {n : Nat} {R : List (Nat × Obj)} {cs : List Value} {e : TypeId} (hx : evl l x = some (plV n p)) (hs : Seg R n cs p) (ht : sliceOf c.P t = some e) :
    RunsTo c d l L X ⟨some i, .call ⟨.builtin .len, #[x], #[t]⟩, ty, ps, af, gd⟩ (.int .i64 n) := by
  cases p with
  | none => have h : n = 0 := hs; subst h; exact R_lenSl hx ht
  | some q => obtain ⟨a, cap⟩ := q; exact R_lenSl hx ht
theorem R_indexPl {x y : Operand} {p : Pl} {R : List (Nat × Obj)} {cs : List Value} {n e m j : Nat} {k : IntKind} {z : Int} (hx : evl l x = some (plV n p)) (hs : Seg R n cs p) (hy : evl l y = some (.int k z)) (ha : sliceOf c.P t = some e) (hm : szOf c.P e = some m) (hz : z = (j : Int)) (hj : j < n) :
    RunsTo c d l L X ⟨some i, .indexAddr t x y, ty, ps, af, gd⟩ (.pointer (some ⟨plB p, plO p + j * m, none⟩)) := by
  cases p with
  | none => have h : n = 0 := hs; omega
  | some q =>
    obtain ⟨⟨b, o, s⟩, cap⟩ := q
    have h1 : s = none := (hs.2 (by omega)).1
    subst h1
    exact R_indexS hx hy ha hm hz hj rfl
theorem known_all {R : List (Nat × Obj)} (h : c.R = R) : ∀ q ∈ R, known c L q.1 q.2 := fun q hq => Or.inr (h ▸ hq)
theorem R_loadPl {x : Operand} {p : Pl} {R : List (Nat × Obj)} {cs : List Value} {n j : Nat} (hR : ∀ q ∈ R, known c L q.1 q.2) (hx : evl l x = some (.pointer (some ⟨plB p, plO p + j, none⟩))) (hs : Seg R n cs p) (hn : 0 < n) (ht : aggB c.P t = some false) (hv : cs[j]? = some v) :
    RunsTo c d l L X ⟨some i, .load t x, ty, ps, af, gd⟩ v := by
  cases p with
  | none => have h : n = 0 := hs; omega
  | some q =>
    obtain ⟨⟨b, o, s⟩, cap⟩ := q
    obtain ⟨_, all, e, fr, h1, h2⟩ := hs.2 hn
    exact R_load hx (hR _ h1) ht (by rw [nth_eq]; exact take_get h2 hv)
theorem R_loadPlA {x : Operand} {p : Pl} {R : List (Nat × Obj)} {cs vs : List Value} {n j m : Nat} (hR : ∀ q ∈ R, known c L q.1 q.2) (hx : evl l x = some (.pointer (some ⟨plB p, plO p + j, none⟩))) (hs : Seg R n cs p) (hn : 0 < n) (ht : aggB c.P t = some true) (hm : szOf c.P t = some m) (hv : (cs.drop j).take m = vs) (hl : vs.length = m) :
    RunsTo c d l L X ⟨some i, .load t x, ty, ps, af, gd⟩ (.agg vs.toArray) := by
  cases p with
  | none => have h : n = 0 := hs; omega
  | some q =>
    obtain ⟨⟨b, o, s⟩, cap⟩ := q
    obtain ⟨_, all, e, fr, h1, h2⟩ := hs.2 hn
    exact R_loadA hx (hR _ h1) ht hm (take_sub h2 hv hl) hl
end
theorem made_list (z : Array Value) (n : Nat) : (madeCells z n).toList = (List.range n).map (fun i => z.toList.getD (i % z.size) default) := by
  unfold madeCells
  simp
  intro a _
  rw [getElem!_def]
  cases z[a % z.size]? <;> rfl
/-! ### Types -/
def I64 (z : Int) : Prop := -9223372036854775808 ≤ z ∧ z ≤ 9223372036854775807
inductive Ty : Type
  | mk (k n : Int) (p : Pl) (ins : List Ty)
def Ty.k : Ty → Int
  | .mk k _ _ _ => k
def Ty.n : Ty → Int
  | .mk _ n _ _ => n
def Ty.p : Ty → Pl
  | .mk _ _ p _ => p
def Ty.ins : Ty → List Ty
  | .mk _ _ _ ins => ins
def Ty.cells : Ty → List Value
  | .mk k n p ins => [.int .i64 k, .int .i64 n, plV ins.length p]
def Ty.val (t : Ty) : Value := .agg t.cells.toArray
def tysC (l : List Ty) : List Value := l.flatMap Ty.cells
theorem Ty.one (t : Ty) : t.cells.all oneB = true := by cases t; rfl
theorem Ty.len (t : Ty) : t.cells.length = 3 := by cases t; rfl
inductive Ty.In (R : List (Nat × Obj)) : Ty → Prop
  | mk {k n : Int} {p : Pl} {ins : List Ty} (hk : I64 k) (hn : I64 n) (hl : ins.length ≤ 9223372036854775807) (hs : Seg R ins.length (tysC ins) p) (hi : ∀ x ∈ ins, Ty.In R x) : Ty.In R (.mk k n p ins)
theorem Ty.In.mono {R R' : List (Nat × Obj)} (hs : ∀ q ∈ R, q ∈ R') {t : Ty} (h : Ty.In R t) : Ty.In R' t := by
  induction h with
  | mk hk hn hl hg hi ih => exact .mk hk hn hl (hg.mono hs) ih
theorem Ty.In.sub {R : List (Nat × Obj)} {k n : Int} {p : Pl} {ins : List Ty} (h : Ty.In R (.mk k n p ins)) : ∀ x ∈ ins, Ty.In R x := by
  cases h; assumption
/-! ### Values -/
inductive Vl : Type
  | mk (a b c d : Nat) (bits : List Bool) (pb : Pl) (items : List Vl) (pi : Pl) (pick : Int)
def Vl.num : Vl → List Nat
  | .mk a b c d _ _ _ _ _ => [a, b, c, d]
def Vl.bits : Vl → List Bool
  | .mk _ _ _ _ l _ _ _ _ => l
def Vl.items : Vl → List Vl
  | .mk _ _ _ _ _ _ l _ _ => l
def Vl.pick : Vl → Int
  | .mk _ _ _ _ _ _ _ _ k => k
def Vl.cells : Vl → List Value
  | .mk a b c d bits pb items pi pick => [uV a, uV b, uV c, uV d, plV bits.length pb, plV items.length pi, .int .i64 pick]
def Vl.val (t : Vl) : Value := .agg t.cells.toArray
def vlsC (l : List Vl) : List Value := l.flatMap Vl.cells
def bitsC (l : List Bool) : List Value := l.map .bool
theorem Vl.one (t : Vl) : t.cells.all oneB = true := by cases t; rfl
theorem Vl.len (t : Vl) : t.cells.length = 7 := by cases t; rfl
def U64 (n : Nat) : Prop := n < 18446744073709551616
inductive Vl.In (R : List (Nat × Obj)) : Vl → Prop
  | mk {a b c d : Nat} {bits : List Bool} {pb : Pl} {items : List Vl} {pi : Pl} {pick : Int} (ha : U64 a) (hb : U64 b) (hc : U64 c) (hd : U64 d) (hlb : bits.length ≤ 9223372036854775807) (hsb : Seg R bits.length (bitsC bits) pb)
      (hl : items.length ≤ 9223372036854775807) (hs : Seg R items.length (vlsC items) pi) (hp : I64 pick) (hi : ∀ x ∈ items, Vl.In R x) : Vl.In R (.mk a b c d bits pb items pi pick)
theorem Vl.In.mono {R R' : List (Nat × Obj)} (hs : ∀ q ∈ R, q ∈ R') {t : Vl} (h : Vl.In R t) : Vl.In R' t := by
  induction h with
  | mk ha hb hc hd hlb hsb hl hg hp hi ih => exact .mk ha hb hc hd hlb (hsb.mono hs) hl (hg.mono hs) hp ih
theorem Vl.In.sub {R : List (Nat × Obj)} {a b c d : Nat} {bits : List Bool} {pb : Pl} {items : List Vl} {pi : Pl} {pick : Int} (h : Vl.In R (.mk a b c d bits pb items pi pick)) : ∀ x ∈ items, Vl.In R x := by
  cases h; assumption
section
variable {c : Cx} {l : List (Nat × Value)} {L : List (Nat × Obj)} {X : XP} {d : List Deferred} {i : Nat} {t : TypeId} {ps : String} {af : Array Edge} {gd : Option (Nat × Bool)} {ty : TypeId}
theorem get_pos {α : Type} {l : List α} {j : Nat} {y : α} (h : l[j]? = some y) : 0 < l.length := by
  have := (List.getElem?_eq_some_iff.1 h).1; omega
theorem R_loadTy {x : Operand} {p : Pl} {R : List (Nat × Obj)} {ins : List Ty} {j : Nat} {y : Ty} (hR : ∀ q ∈ R, known c L q.1 q.2) (hx : evl l x = some (.pointer (some ⟨plB p, plO p + j * 3, none⟩))) (hs : Seg R ins.length (tysC ins) p) (hy : ins[j]? = some y) (ht : aggB c.P t = some true) (hm : szOf c.P t = some 3) :
    RunsTo c d l L X ⟨some i, .load t x, ty, ps, af, gd⟩ y.val :=
  R_loadPlA hR hx hs (get_pos hy) ht hm (cat_get Ty.len hy) y.len
theorem R_loadVl {x : Operand} {p : Pl} {R : List (Nat × Obj)} {ins : List Vl} {j : Nat} {y : Vl} (hR : ∀ q ∈ R, known c L q.1 q.2) (hx : evl l x = some (.pointer (some ⟨plB p, plO p + j * 7, none⟩))) (hs : Seg R ins.length (vlsC ins) p) (hy : ins[j]? = some y) (ht : aggB c.P t = some true) (hm : szOf c.P t = some 7) :
    RunsTo c d l L X ⟨some i, .load t x, ty, ps, af, gd⟩ y.val :=
  R_loadPlA hR hx hs (get_pos hy) ht hm (cat_get Vl.len hy) y.len
theorem R_loadPl1 {x : Operand} {p : Pl} {R : List (Nat × Obj)} {cs : List Value} {n j : Nat} {v : Value} (hR : ∀ q ∈ R, known c L q.1 q.2) (hx : evl l x = some (.pointer (some ⟨plB p, plO p + j * 1, none⟩))) (hs : Seg R n cs p) (hn : j < n) (ht : aggB c.P t = some false) (hv : cs[j]? = some v) :
    RunsTo c d l L X ⟨some i, .load t x, ty, ps, af, gd⟩ v :=
  R_loadPl hR (by rw [Nat.mul_one] at hx; exact hx) hs (by omega) ht hv
theorem R_loadBit {x : Operand} {p : Pl} {R : List (Nat × Obj)} {bits : List Bool} {j : Nat} {y : Bool} (hR : ∀ q ∈ R, known c L q.1 q.2) (hx : evl l x = some (.pointer (some ⟨plB p, plO p + j * 1, none⟩))) (hs : Seg R bits.length (bitsC bits) p) (hy : bits[j]? = some y) (ht : aggB c.P t = some false) :
    RunsTo c d l L X ⟨some i, .load t x, ty, ps, af, gd⟩ (.bool y) :=
  R_loadPl hR (by rw [Nat.mul_one] at hx; exact hx) hs (get_pos hy) ht (by unfold bitsC; rw [List.getElem?_map, hy]; rfl)
end
section
variable {c : Cx} {l : List (Nat × Value)} {L : List (Nat × Obj)} {X : XP} {d : List Deferred} {i : Nat} {v : Value} {ps : String} {af : Array Edge} {gd : Option (Nat × Bool)} {ty : TypeId}
theorem HD_callR {ops : Array Oper} {rest : List Oper} {T : Act → Prop} {f : Operand} {args : Array Operand} {at_ : Array TypeId} {g : FuncId} {vs : List Value} {Rl : List (Nat × Obj)}
    (hg : goes l ops ⟨some i, .call ⟨.value f, args, at_⟩, ty, ps, af, gd⟩ = some true) (hi : Nat.ble (i + 1) c.n = true) (hca : callArgs l f args = some (g, vs)) (eg : Enters c.P g)
    (hp : PureR c.P g vs.toArray v Rl) (hk : ∀ p ∈ Rl, known c L p.1 p.2) (h : HD c d ((i, v) :: l) L X ops rest T) : HD c d l L X ops (⟨some i, .call ⟨.value f, args, at_⟩, ty, ps, af, gd⟩ :: rest) T := fun a hf => by
  refine ⟨fun _ _ _ _ => trivial, ?_⟩
  rw [if_pos (goes_wanted hf hg)]
  refine ⟨v, fun w hs => ?_, h _ (hf.put (Nat.le_of_ble_eq_true hi))⟩
  unfold Oper.quietAtIn
  rw [callArgs_run hf hca c.P w _ rfl eg]
  refine ⟨rfl, fun hdep => (by cases hdep), ?_⟩
  have hc := callsIn_wide (n := 0) |>.2 (hp.run w fun p hp => hs.known (hk p hp))
  refine CallsIn.mono (show CallsIn (FW c.ro) 0 c.P g vs.toArray w _ from hc) ?_
  rintro e w' ⟨rfl, hk⟩
  exact ⟨rfl, hs.more hk⟩
theorem HA_callR {ops : Array Oper} {rest : List Oper} {tb : Kds} {S : List (Nat × Obj)} {k : Nat} {T : List (Nat × Obj) → Act → Prop} {f : Operand} {args : Array Operand} {at_ : Array TypeId} {g : FuncId} {vs : List Value} {Rl : List (Nat × Obj)}
    (hg : goes l ops ⟨some i, .call ⟨.value f, args, at_⟩, ty, ps, af, gd⟩ = some true) (hi : Nat.ble (i + 1) c.n = true) (hA : tb k = .quiet) (hca : callArgs l f args = some (g, vs)) (eg : Enters c.P g)
    (hp : PureR c.P g vs.toArray v Rl) (hk : ∀ p ∈ Rl, known c L p.1 p.2) (h : HA c d ((i, v) :: l) L X S ops tb rest (k + 1) T) : HA c d l L X S ops tb (⟨some i, .call ⟨.value f, args, at_⟩, ty, ps, af, gd⟩ :: rest) k T := fun a hf => by
  unfold wlkA
  rw [hA]
  exact ⟨v, .inl ⟨goes_wanted hf hg, fun w hs => act_call hf hca eg ((hp.run w fun p hp => hs.known (hk p hp)).mono fun _ _ ⟨he, hk⟩ => ⟨v, he, rfl, hk⟩)⟩, h _ (hf.put (Nat.le_of_ble_eq_true hi))⟩
end
theorem getI {α : Type} {l : List α} {j : Nat} (h : j < l.length) : ∃ y, l[j]? = some y ∧ y ∈ l := ⟨l[j], List.getElem?_eq_getElem h, List.getElem_mem h⟩
theorem dropI {α : Type} {l : List α} {j : Nat} {y : α} (h : l[j]? = some y) : l.drop j = y :: l.drop (j + 1) := by
  obtain ⟨h1, rfl⟩ := List.getElem?_eq_some_iff.1 h
  exact List.drop_eq_getElem_cons h1
/-! ### All blocks of a world -/
def allB (w : World) : List (Nat × Obj) := w.heap.toList.zipIdx.map fun p => (p.2, p.1)
theorem has_allB (w : World) : Has (allB w) w := by
  intro p hp
  obtain ⟨q, hq, rfl⟩ := List.mem_map.1 hp
  have := List.mem_zipIdx_iff_getElem?.1 hq
  rw [Array.getElem?_toList] at this
  exact this
theorem mem_allB {w : World} {r : Nat} {o : Obj} (h : w.heap[r]? = some o) : (r, o) ∈ allB w :=
  List.mem_map.2 ⟨(o, r), List.mem_zipIdx_iff_getElem?.2 (by rw [Array.getElem?_toList]; exact h), rfl⟩
end Go.SL
