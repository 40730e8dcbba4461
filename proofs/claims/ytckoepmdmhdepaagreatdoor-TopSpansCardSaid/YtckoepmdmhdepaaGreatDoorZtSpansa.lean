import Derived.WalkKit
import Derived.CallsIn
import Derived.RangeFuncIn
import Derived.RangeFuncRecord
import Derived.RangeFuncSeq
import Derived.RangeFuncLeaves
import Derived.RangeFuncBound
import Derived.TacticsIn
import Derived.Shelf.Abstract
import Derived.Orders
import Derived.StillTail
import Derived.Sort.QuietThIn
import Derived.Sort.Grow
import Derived.ChangeKeysEq
import Derived.Laws.BytesString
import Derived.Laws.Small
import Derived.Laws.IdiomStrings
set_option maxRecDepth 100000
namespace Go.SL
set_option linter.all false
open Go.RowKit Go.Shelf
open Go.Proofs (Enters enters_of)
abbrev Jy := List (Nat × Obj)
abbrev KK := List (Nat × Value)
theorem Z1 {p : Prop} [Decidable p] : (decide p = true) = p := decide_eq_true_eq
theorem Z2 {p : Prop} [Decidable p] : (decide p = false) ↔ ¬ p := decide_eq_false_iff_not
theorem Z3 {α : Type} [BEq α] [LawfulBEq α] {a b : α} : (a == b) = true ↔ a = b := beq_iff_eq
theorem Z4 {α : Type} [BEq α] [LawfulBEq α] {a b : α} : (a == b) = false ↔ a ≠ b := beq_eq_false_iff_ne
theorem Z5 {α : Type} [BEq α] [LawfulBEq α] {a b : α} : (a != b) = true ↔ a ≠ b := bne_iff_ne
theorem Z6 {α : Type} [BEq α] [LawfulBEq α] {a b : α} : (a != b) = false ↔ a = b := bne_eq_false_iff_eq
theorem Z7 {b : Bool} : ((!b) = true) = (b = false) := Bool.not_eq_true' b
theorem Z8 {b : Bool} : ((!b) = false) = (b = true) := Bool.not_eq_false' b
theorem Z9 {α : Sort _} {a b : α} : (a ≠ b) = ¬ (a = b) := ne_eq a b
theorem Z10 {a b : Int} : ¬ (a < b) ↔ b ≤ a := Int.not_lt
theorem Z11 {a b : Int} : ¬ (a ≤ b) ↔ b < a := Int.not_le
theorem Z12 {α : Type} [LE α] {a b : α} : (a ≥ b) ↔ (b ≤ a) := ge_iff_le
theorem Z13 {α : Type} [LT α] {a b : α} : (a > b) ↔ (b < a) := gt_iff_lt
theorem ZZ : (∀ {p : Prop} [Decidable p], (decide p = true) = p) ∧ (∀ {p : Prop} [Decidable p], (decide p = false) ↔ ¬ p) ∧ (∀ {α : Type} [BEq α] [LawfulBEq α] {a b : α}, (a == b) = true ↔ a = b) ∧ (∀ {α : Type} [BEq α] [LawfulBEq α] {a b : α}, (a == b) = false ↔ a ≠ b) ∧ (∀ {α : Type} [BEq α] [LawfulBEq α] {a b : α}, (a != b) = true ↔ a ≠ b) ∧ (∀ {α : Type} [BEq α] [LawfulBEq α] {a b : α}, (a != b) = false ↔ a = b) ∧ (∀ {b : Bool}, ((!b) = true) = (b = false)) ∧ (∀ {b : Bool}, ((!b) = false) = (b = true)) ∧ (∀ {α : Type} {a b : α}, (a ≠ b) = ¬ (a = b)) ∧ (∀ {a b : Int}, ¬ (a < b) ↔ b ≤ a) ∧ (∀ {a b : Int}, ¬ (a ≤ b) ↔ b < a) ∧ (∀ {α : Type} [LE α] {a b : α}, (a ≥ b) ↔ (b ≤ a)) ∧ (∀ {α : Type} [LT α] {a b : α}, (a > b) ↔ (b < a)) := ⟨Z1, Z2, Z3, Z4, Z5, Z6, Z7, Z8, Z9, Z10, Z11, Z12, Z13⟩
structure Keep (ids : List Nat) (w w' : World) : Prop where
  os : w'.os = w.os
  tape : w'.tape = w.tape
  output : w'.output = w.output
  size : w.heap.size ≤ w'.heap.size
  block : ∀ k, k < w.heap.size → k ∉ ids → w'.heap[k]? = w.heap[k]?
theorem Keep.refl (ids : List Nat) (w : World) : Keep ids w w := ⟨rfl, rfl, rfl, Nat.le_refl _, fun _ _ _ => rfl⟩
theorem Keep.trans {ids : List Nat} {a b c : World} (h : Keep ids a b) (k : Keep ids b c) : Keep ids a c :=
 ⟨k.os.trans h.os, k.tape.trans h.tape, k.output.trans h.output, Nat.le_trans h.size k.size, fun i hi hn => (k.block i (Nat.lt_of_lt_of_le hi h.size) hn).trans (h.block i hi hn)⟩
theorem Keep.mono {ids ids' : List Nat} {a b : World} (h : Keep ids a b) (hs : ∀ k ∈ ids, k ∈ ids' ∨ a.heap.size ≤ k) : Keep ids' a b :=
 ⟨h.os, h.tape, h.output, h.size, fun k hk hn => h.block k hk fun hm => (hs k hm).elim hn (by omega)⟩
theorem Keep.weak {ids ids' : List Nat} {a b : World} (h : Keep ids a b) (hs : ∀ k ∈ ids, k ∈ ids') : Keep ids' a b := h.mono fun k hk => .inl (hs k hk)
theorem Keep.nil {ids : List Nat} {a b : World} (h : Keep [] a b) : Keep ids a b := h.mono (by simp)
theorem Keep.drew {w : World} : Keep [] w w.drew := ⟨rfl, rfl, rfl, Nat.le_refl _, fun _ _ _ => rfl⟩
theorem Keep.alloc {w : World} (o : Obj) : Keep [] w (w.alloc o) := ⟨rfl, rfl, rfl, by simp, fun k hk _ => Below.heap_alloc _ _ _ hk⟩
theorem Keep.putObj {w : World} (r : Nat) (o : Obj) : Keep [r] w (w.putObj r o) :=
 ⟨rfl, rfl, rfl, by simp [World.putObj], fun k _ hn => World.putObj_heap_other (by simpa using hn)⟩
theorem Keep.below {w w' : World} (h : Keep [] w w') : Below w.heap.size w w' := ⟨h.os, h.tape, h.output, h.size, fun k hk => h.block k hk (by simp)⟩
theorem Keep.of_below {w w' : World} (h : Below w.heap.size w w') : Keep [] w w' := ⟨h.os, h.tape, h.output, h.size, fun k hk _ => h.block k hk⟩
def WM {α : Type} : List α → Nat → Option α
 | [], _ => none
 | x :: _, 0 => some x
 | _ :: xs, n + 1 => WM xs n
theorem WN {α : Type} : ∀ (l : List α) (n : Nat), WM l n = l[n]?
 | [], _ => rfl
 | _ :: _, 0 => rfl
 | _ :: xs, n + 1 => by simp [WM, WN xs n]
theorem QI {α : Type} {a : Array α} {n : Nat} {x : α} (h : WM a.toList n = some x) : a[n]? = some x := by
 rw [WN] at h; simpa using h
def QN : KK → Nat → Option Value
 | [], _ => none
 | (j, v) :: l, i => match Nat.beq i j with | true => some v | false => QN l i
def Kz (l : KK) : Operand → Option Value
 | .tmp t => QN l t
 | .const v => some v
 | .global g => some (.pointer (some ⟨g, 0, none⟩))
 | .func f => some (.func (.func f) #[] #[])
def evT (l : KK) (x : Operand) : Value := match Kz l x with | some v => v | none => undef
def evs (l : KK) : List Operand → Option (List Value)
 | [] => some []
 | x :: xs => match Kz l x, evs l xs with | some v, some vs => some (v :: vs) | _, _ => none
def YF (l : KK) : List Operand → Bool
 | [] => true
 | x :: xs => match Kz l x with | some _ => YF l xs | none => false
structure Cx where
  P : Program
  ro : Option Nat
  w1 : World
  ids : List Nat
  xids : List Nat
  R : Jy
  n : Nat
structure Fr (n : Nat) (d : List Deferred) (l : KK) (a : Act) : Prop where
  size : a.tmps.size = n
  defers : a.defers = d
  slots : ∀ i v, QN l i = some v → a.tmps[i]? = some v
abbrev XP : Type := List Nat → World → Prop
def Xi (xs : List Nat) (X : XP) (w : World) : Prop := ∀ w' : World, (∀ k ∈ xs, w'.heap[k]? = w.heap[k]?) → X xs w'
def XOk (c : Cx) (L : Jy) (X : XP) (w : World) : Prop :=
 ∃ xs : List Nat, (∀ k ∈ xs, (k ∈ c.xids ∨ c.w1.heap.size ≤ k) ∧ k < w.heap.size ∧ ∀ p ∈ L, p.1 ≠ k) ∧ Xi xs X w
structure St (c : Cx) (L : Jy) (X : XP) (w : World) : Prop where
  keep : Keep (c.ids ++ c.xids) c.w1 w
  own : ∀ p ∈ L, (p.1 ∈ c.ids ∨ c.w1.heap.size ≤ p.1) ∧ p.1 ∉ c.xids ∧ w.heap[p.1]? = some p.2
  distinct : L.Pairwise fun p q => p.1 ≠ q.1
  ext : ∀ p ∈ c.R, p.1 ∉ c.ids ∧ p.1 ∉ c.xids ∧ c.w1.heap[p.1]? = some p.2
  xlt : ∀ k ∈ c.xids, k < c.w1.heap.size
  x : XOk c L X w
def FW (ro : Option Nat) : Fence := { Fence.wide with round := ro }
section
variable {c : Cx} {l : KK} {L : Jy} {X : XP}
theorem J6 {α : Type} {a : Array α} {k : Nat} {o : α} (h : a[k]? = some o) : k < a.size := (Array.getElem?_eq_some_iff.1 h).1
theorem St.readR {w : World} (h : St c L X w) {p : Nat × Obj} (hp : p ∈ c.R) : w.heap[p.1]? = some p.2 := by
 obtain ⟨h1, h2, h3⟩ := h.ext p hp
 rw [h.keep.block p.1 (J6 h3) (by simp [h1, h2])]
 exact h3
theorem St.drew {w : World} (h : St c L X w) : St c L X w.drew :=
 ⟨h.keep.trans Keep.drew.nil, h.own, h.distinct, h.ext, h.xlt, h.x⟩
theorem St.more {w w' : World} (h : St c L X w) (k : Keep [] w w') : St c L X w' :=
 ⟨h.keep.trans k.nil, fun p hp => let ⟨h1, h2, h3⟩ := h.own p hp; ⟨h1, h2, (k.block p.1 (J6 h3) (by simp)).trans h3⟩, h.distinct, h.ext, h.xlt,
  let ⟨xs, h1, h2⟩ := h.x
  ⟨xs, fun i hi => ⟨(h1 i hi).1, Nat.lt_of_lt_of_le (h1 i hi).2.1 k.size, (h1 i hi).2.2⟩, fun w2 hw2 => h2 w2 fun i hi => (hw2 i hi).trans (k.block i (h1 i hi).2.1 (by simp))⟩⟩
theorem St.now {w : World} (h : St c L X w) : ∃ xs, X xs w := let ⟨xs, _, h2⟩ := h.x; ⟨xs, h2 w fun _ _ => rfl⟩
theorem St.alloc {w : World} (h : St c L X w) (o : Obj) : St c ((w.heap.size, o) :: L) X (w.alloc o) := by
 have h' := h.more (Keep.alloc o)
 obtain ⟨xs, h1, h2⟩ := h.x
 refine ⟨h'.keep, ?_, ?_, h.ext, h.xlt, xs, fun i hi => ⟨(h1 i hi).1, Nat.lt_of_lt_of_le (h1 i hi).2.1 (Keep.alloc o).size, fun p hp => ?_⟩, fun w2 hw2 => h2 w2 fun i hi => (hw2 i hi).trans ((Keep.alloc o).block i (h1 i hi).2.1 (by simp))⟩
 ·intro p hp
  rcases List.mem_cons.1 hp with rfl | hp
  ·exact ⟨.inr h.keep.size, fun hx => by have := h.xlt _ hx; have := h.keep.size; simp only at *; omega, World.alloc_heap_new w o⟩
  ·exact h'.own p hp
 ·refine List.pairwise_cons.2 ⟨fun p hp => ?_, h.distinct⟩
  have := J6 (h.own p hp).2.2
  simp only; omega
 ·have := (h1 i hi).2.1
  rcases List.mem_cons.1 hp with rfl | hp
  ·simp only; omega
  ·exact (h1 i hi).2.2 p hp
theorem XOk.sub {w : World} {L' : Jy} (h : XOk c L X w) (hs : ∀ p ∈ L', ∃ o, (p.1, o) ∈ L) : XOk c L' X w :=
 let ⟨xs, h1, h2⟩ := h
 ⟨xs, fun i hi => ⟨(h1 i hi).1, (h1 i hi).2.1, fun p hp => let ⟨o, ho⟩ := hs p hp; (h1 i hi).2.2 (p.1, o) ho⟩, h2⟩
theorem XOk.turn {w w' : World} {L' : Jy} {ids : List Nat} (h : XOk c L X w) (hk : Keep ids w w') (hi : ∀ k ∈ ids, ∃ o, (k, o) ∈ L) (hs : ∀ p ∈ L', ∃ o, (p.1, o) ∈ L) : XOk c L' X w' :=
 let ⟨xs, h1, h2⟩ := h
 ⟨xs, fun i hx => ⟨(h1 i hx).1, Nat.lt_of_lt_of_le (h1 i hx).2.1 hk.size, fun p hp => let ⟨o, ho⟩ := hs p hp; (h1 i hx).2.2 (p.1, o) ho⟩,
  fun w2 hw2 => h2 w2 fun i hx => (hw2 i hx).trans (hk.block i (h1 i hx).2.1 fun hm => let ⟨_, ho⟩ := hi i hm; (h1 i hx).2.2 _ ho rfl)⟩
theorem xr {α : Type} {L : List α} {k : Nat} {x y : α} (h : y ∈ L.set k x) : y = x ∨ ∃ j, j ≠ k ∧ L[j]? = some y := by
 obtain ⟨j, hj⟩ := List.mem_iff_getElem?.1 h
 rw [List.getElem?_set] at hj
 split at hj
 ·split at hj
  ·exact .inl (by cases hj; rfl)
  ·cases hj
 ·rename_i hne; exact .inr ⟨j, fun e => hne e.symm, hj⟩
theorem WO {L : Jy} (h : L.Pairwise fun p q => p.1 ≠ q.1) {i j : Nat} {p q : Nat × Obj} (hi : L[i]? = some p) (hj : L[j]? = some q) (hne : i ≠ j) : p.1 ≠ q.1 := by
 rw [List.pairwise_iff_getElem] at h
 obtain ⟨hi', rfl⟩ := List.getElem?_eq_some_iff.1 hi
 obtain ⟨hj', rfl⟩ := List.getElem?_eq_some_iff.1 hj
 rcases Nat.lt_or_gt_of_ne hne with hlt | hlt
 ·exact h i j hi' hj' hlt
 ·exact fun e => h j i hj' hi' hlt e.symm
theorem vU {L : Jy} {k r : Nat} {o o' : Obj} (hk : L[k]? = some (r, o)) : (L.set k (r, o')).map (·.1) = L.map (·.1) := by
 apply List.ext_getElem?
 intro i
 simp only [List.getElem?_map, List.getElem?_set]
 split
 ·rename_i e; subst e
  obtain ⟨hlt, he⟩ := List.getElem?_eq_some_iff.1 hk
  simp [hlt, he]
 ·rfl
theorem pairwise_map {L : Jy} : (L.Pairwise fun p q => p.1 ≠ q.1) ↔ (L.map (·.1)).Pairwise (· ≠ ·) := by
 rw [List.pairwise_map]
theorem St.set {w w' : World} {k r : Nat} {o o' : Obj} (h : St c L X w) (hk : L[k]? = some (r, o)) (hkeep : Keep [r] w w') (hr : w'.heap[r]? = some o') :
  St c (L.set k (r, o')) X w' := by
 have hmem : (r, o) ∈ L := List.mem_of_getElem? hk
 obtain ⟨h1, h2, h3⟩ := h.own _ hmem
 refine ⟨?_, ?_, ?_, h.ext, h.xlt, ?_⟩
 ·refine ⟨hkeep.os.trans h.keep.os, hkeep.tape.trans h.keep.tape, hkeep.output.trans h.keep.output, Nat.le_trans h.keep.size hkeep.size, fun i hi hn => ?_⟩
  refine (hkeep.block i (Nat.lt_of_lt_of_le hi h.keep.size) ?_).trans (h.keep.block i hi hn)
  simp only [List.mem_singleton]
  rintro rfl
  rcases h1 with h1 | h1
  ·exact hn (List.mem_append_left _ h1)
  ·simp only at h1; omega
 ·intro p hp
  rcases xr hp with rfl | ⟨j, hj, hp'⟩
  ·exact ⟨h1, h2, hr⟩
  ·obtain ⟨g1, g2, g3⟩ := h.own p (List.mem_of_getElem? hp')
   refine ⟨g1, g2, (hkeep.block _ (J6 g3) ?_).trans g3⟩
   have := WO h.distinct hp' hk hj
   simpa using this
 ·rw [pairwise_map, vU hk, ← pairwise_map]; exact h.distinct
 ·refine h.x.turn hkeep (fun k hm => ⟨o, by simp only [List.mem_singleton] at hm; subst hm; exact hmem⟩) fun p hp => ?_
  rcases xr hp with rfl | ⟨j, _, hp'⟩
  ·exact ⟨o, hmem⟩
  ·exact ⟨p.2, List.mem_of_getElem? hp'⟩
theorem St.weakL {w : World} {L' : Jy} (h : St c L X w) (hs : L'.Sublist L) : St c L' X w :=
 ⟨h.keep, fun p hp => h.own p (hs.mem hp), h.distinct.sublist hs, h.ext, h.xlt, h.x.sub fun p hp => ⟨p.2, hs.mem hp⟩⟩
theorem St.weakX {w : World} {X' : XP} (h : St c L X w) (hx : ∀ xs w, X xs w → X' xs w) : St c L X' w :=
 ⟨h.keep, h.own, h.distinct, h.ext, h.xlt, let ⟨xs, h1, h2⟩ := h.x; ⟨xs, h1, fun w' hw' => hx _ _ (h2 w' hw')⟩⟩
theorem Fr.weak {n : Nat} {d : List Deferred} {l l' : KK} {a : Act} (h : Fr n d l a) (hs : ∀ i v, QN l' i = some v → QN l i = some v) : Fr n d l' a :=
 ⟨h.size, h.defers, fun i v hv => h.slots i v (hs i v hv)⟩
theorem Fr.put {n : Nat} {d : List Deferred} {l : KK} {a : Act} {i : Nat} {v : Value} (h : Fr n d l a) (hi : i < n) : Fr n d ((i, v) :: l) (a.put (some i) v) := by
 refine ⟨by simp [Act.put, h.size], by simp [Act.put, h.defers], fun j u hu => ?_⟩
 simp only [QN] at hu
 simp only [Act.put, Array.getElem?_setIfInBounds, h.size]
 by_cases e : j = i
 ·subst e
  rw [Nat.beq_refl] at hu
  simp only [Option.some.injEq] at hu
  simp [hi, hu]
 ·have : Nat.beq j i = false := by
   rw [Bool.eq_false_iff]; intro hb; exact e (Nat.eq_of_beq_eq_true hb)
  rw [this] at hu
  rw [if_neg (fun e' => e e'.symm)]
  exact h.slots j u hu
theorem Fr.eval {n : Nat} {d : List Deferred} {l : KK} {a : Act} (h : Fr n d l a) {x : Operand} {v : Value} (hx : Kz l x = some v) : a.eval x = v := by
 cases x with
 | tmp t => simp only [Act.eval, Array.getD_eq_getD_getElem?, h.slots t v hx]; rfl
 | const u => simpa [Kz, Act.eval] using hx
 | global g => simpa [Kz, Act.eval] using hx
 | func f => simpa [Kz, Act.eval] using hx
theorem jY {l : KK} : ∀ {xs : List Operand}, YF l xs = true → ∀ x ∈ xs, ∃ v, Kz l x = some v
 | y :: ys, h, x, hx => by
  simp only [YF] at h
  cases hy : Kz l y with
  | none => rw [hy] at h; cases h
  | some v =>
   rw [hy] at h
   rcases List.mem_cons.1 hx with rfl | hx
   ·exact ⟨v, hy⟩
   ·exact jY h x hx
theorem Fr.evals {n : Nat} {d : List Deferred} {l : KK} {a : Act} (h : Fr n d l a) : ∀ {xs : List Operand} {vs : List Value}, evs l xs = some vs → xs.map a.eval = vs
 | [], vs, hv => by simp only [evs, Option.some.injEq] at hv; subst hv; rfl
 | x :: xs, vs, hv => by
  simp only [evs] at hv
  cases h1 : Kz l x with
  | none => simp [h1] at hv
  | some v =>
   cases h2 : evs l xs with
   | none => simp [h1, h2] at hv
   | some us =>
    simp only [h1, h2, Option.some.injEq] at hv
    subst hv
    rw [List.map_cons, h.eval h1, h.evals h2]
def HC (c : Cx) (d : List Deferred) (l : KK) (L : Jy) (X : XP) (code : Code) (Q : Exit → Act → World → Prop) : Prop :=
 ∀ a w, Fr c.n d l a → St c L X w → code.wpIn (FW c.ro) 0 c.P Q a w
def HL (c : Cx) (d : List Deferred) (l : KK) (L : Jy) (X : XP) (ops : Array Oper) (rest : List Oper) (Q : Exit → Act → World → Prop) : Prop :=
 ∀ a w, Fr c.n d l a → St c L X w → wpListIn (FW c.ro) 0 c.P ops Q rest a w
def HQ (c : Cx) (d : List Deferred) (l : KK) (L : Jy) (X : XP) (Q : Act → World → Prop) : Prop :=
 ∀ a w, Fr c.n d l a → St c L X w → Q a w
variable {Q : Exit → Act → World → Prop} {K : Act → World → Prop} {d : List Deferred}
theorem Jk5 {x y : Code} (h : ∀ K, (∀ d l L X, HC c d l L X y Q → HQ c d l L X K) → HC c d l L X x (Exit.then K Q)) : HC c d l L X (x.seq y) Q :=
 fun a w hf hs => wpIn_seq_k fun K hK => h K (fun _ _ _ _ hy a w hf hs => hK a w (hy a w hf hs)) a w hf hs
theorem Je {id : Nat} {ops : List Oper} (h : HL c d l L X ops.toArray ops Q) : HC c d l L X (.region id ops.toArray false) Q :=
 fun a w hf hs => wpIn_region_lit (h a w hf hs)
theorem Jt {ops : Array Oper} (h : HQ c d l L X (Q .normal)) : HL c d l L X ops [] Q := h
theorem J3 {id : Nat} {b : Code} (h : HC c d l L X b (Exit.inBlock id Q)) : HC c d l L X (.block id b) Q := fun a w hf hs => wpIn_block (h a w hf hs)
theorem JL {id : Nat} (h : HQ c d l L X (Q (.exit id))) : HC c d l L X (.exit id) Q := fun a w hf hs => wpIn_exit (h a w hf hs)
theorem Jd (h : HQ c d l L X (Q .ret)) : HC c d l L X .ret Q := fun a w hf hs => wpIn_ret (h a w hf hs)
theorem Jg (h : HQ c d l L X (Q .normal)) : HC c d l L X .skip Q := fun a w hf hs => wpIn_skip (h a w hf hs)
theorem Jl {x : Operand} {t e : Code} {b : Bool} (hx : Kz l x = some (.bool b)) (ht : b = true → HC c d l L X t Q) (he : b = false → HC c d l L X e Q) : HC c d l L X (.cond x t e) Q :=
 fun a w hf hs => wpIn_cond_split (t := b) (hf.eval hx) (fun h => ht h a w hf hs) (fun h => he h a w hf hs)
theorem JU {a : KK} (h : HQ c d a L X K) : HQ c d a L X (Exit.then K Q .normal) := h
theorem Ji (h : HQ c d l L X (Q .ret)) : HQ c d l L X (Exit.then K Q .ret) := h
theorem Jn {id : Nat} (h : HQ c d l L X (Q (.exit id))) : HQ c d l L X (Exit.then K Q (.exit id)) := h
theorem Jo {id : Nat} (h : HQ c d l L X (Q .normal)) : HQ c d l L X (Exit.inBlock id Q .normal) := h
theorem Jr {id : Nat} (h : HQ c d l L X (Q .ret)) : HQ c d l L X (Exit.inBlock id Q .ret) := h
theorem J8 {id : Nat} (h : HQ c d l L X (Q .normal)) : HQ c d l L X (Exit.inBlock id Q (.exit id)) := fun a w hf hs => by simp only [Exit.inBlock, if_true]; exact h a w hf hs
theorem Q6 {id id' : Nat} (hne : Nat.beq id' id = false) (h : HQ c d l L X (Q (.exit id'))) : HQ c d l L X (Exit.inBlock id Q (.exit id')) := fun a w hf hs => by
 have : id' ≠ id := fun e => by subst e; rw [Nat.beq_refl] at hne; cases hne
 simp only [Exit.inBlock, this, if_false]; exact h a w hf hs
def Vo (P : Program) {α : Type} : Sem α → Option α
 | .pure a => some a
 | .program k => Vo P (k P)
 | .mark _ k => Vo P k
 | _ => none
theorem qL (P : Program) {α : Type} (s : Sem α) : ∀ {a : α}, Vo P s = some a → ∀ w, s.run P w = .ok a w := by
 induction s with
 | pure a => intro b h w; simp only [Vo, Option.some.injEq] at h; subst h; rfl
 | program k ih => intro b h w; simp only [Vo] at h; simp only [Sem.run]; exact ih _ h w
 | mark m k ih => intro b h w; simp only [Vo] at h; simp only [Sem.run]; exact ih h w
 | _ => intro b h; simp [Vo] at h
theorem KF {ro : Option Nat} {o : Oper} {P : Program} {w : World} {ρ : Operand → Value} : ∀ f, o.about P w ρ = some f → (FW ro).fn f := fun _ _ => trivial
def Kq : Op → Bool
 | .defer _ => false
 | .select _ _ => false
 | _ => true
theorem QT {o : Op} (h : Kq o = true) : ∀ c, o ≠ .defer c := fun c e => by subst e; cases h
theorem Jbo {o : Op} (h : Kq o = true) : ∀ c b, o ≠ .select c b := fun c b e => by subst e; cases h
theorem Q0 {ro : Option Nat} {P : Program} {ops : Array Oper} {o : Oper} {rest : List Oper} {a : Act} {w : World} (hg : Region.wanted o (yielded ops a.tmps) = true) (hn : Kq o.op = true)
  (h : o.uponIn (FW ro) 0 P a (wpListIn (FW ro) 0 P ops Q rest) Q ((execOp a.eval o).run P w)) : wpListIn (FW ro) 0 P ops Q (o :: rest) a w := by
 unfold wpListIn
 rw [if_pos hg]
 refine ⟨KF, ?_⟩
 rw [Oper.semAt_eq _ _ _ (QT hn)]
 exact h
def Kx (l : KK) (ops : Array Oper) (o : Oper) : Option Bool :=
 match o.guard with
 | none => some true
 | some (j, want) => match (ops[j]?).bind (·.dst) with
  | some t => match QN l t with
   | some (.bool true) => some want
   | some (.bool false) => some (!want)
   | some (.tuple _) => some false
   | _ => none
  | none => none
theorem JW {n : Nat} {a : Act} {ops : Array Oper} {o : Oper} {b : Bool} (hf : Fr n d l a) (h : Kx l ops o = some b) : Region.wanted o (yielded ops a.tmps) = b := by
 unfold Kx at h
 unfold Region.wanted yielded
 split at h
 ·rename_i hg; rw [hg]; simpa using h
 ·rename_i j want hg
  rw [hg]
  split at h
  ·rename_i t ht
   have key : ∀ u, QN l t = some u → ((ops[j]?).bind (·.dst)).bind (a.tmps[·]?) = some u := fun u hu => by
    simp only [ht, Option.bind_some]; exact hf.slots _ _ hu
   split at h
   ·rename_i hl; simp only [key _ hl]; cases want <;> simpa using h
   ·rename_i hl; simp only [key _ hl]; cases want <;> simpa using h
   ·rename_i hl; simp only [key _ hl]; cases want <;> simpa using h
   ·cases h
  ·cases h
theorem ZE {ops : Array Oper} {o : Oper} {rest : List Oper} {i : Nat} (hg : Kx l ops o = some false) (hd : o.dst = some i) (hi : Nat.ble (i + 1) c.n = true)
  (h : HL c d ((i, undef) :: l) L X ops rest Q) : HL c d l L X ops (o :: rest) Q := fun a w hf hs => by
 unfold wpListIn
 rw [if_neg (by rw [JW hf hg]; simp), hd]
 exact ⟨KF, h _ w (hf.put (Nat.le_of_ble_eq_true hi)) hs⟩
theorem JM {ops : Array Oper} {rest : List Oper} {b : Bool} (t : Nat) (ht : QN l t = some (.bool b))
  (h1 : b = true → HL c d ((t, .bool true) :: l) L X ops rest Q) (h0 : b = false → HL c d ((t, .bool false) :: l) L X ops rest Q) : HL c d l L X ops rest Q := fun a w hf hs => by
 have key : ∀ b', b' = b → Fr c.n d ((t, .bool b') :: l) a := fun b' e => hf.weak fun i v hv => by
  simp only [QN] at hv
  by_cases e' : i = t
  ·subst e'; rw [Nat.beq_refl] at hv; subst e; rw [ht]; exact hv
  ·rw [show Nat.beq i t = false from by rw [Bool.eq_false_iff]; exact fun hb => e' (Nat.eq_of_beq_eq_true hb)] at hv; exact hv
 cases hb : b with
 | true => exact h1 hb a w (key true hb.symm) hs
 | false => exact h0 hb a w (key false hb.symm) hs
theorem Jc9 {ops : Array Oper} {o : Oper} {rest : List Oper} {i : Nat} {v : Value} {L' : Jy} (hg : Kx l ops o = some true) (hn : Kq o.op = true) (hd : o.dst = some i) (hi : Nat.ble (i + 1) c.n = true)
  (hr : ∀ a w, Fr c.n d l a → St c L X w → ∃ w', (execOp a.eval o).run c.P w = .ok (.value v) w' ∧ St c L' X w')
  (h : HL c d ((i, v) :: l) L' X ops rest Q) : HL c d l L X ops (o :: rest) Q := fun a w hf hs => by
 obtain ⟨w', hrun, hs'⟩ := hr a w hf hs
 refine Q0 (JW hf hg) hn ?_
 rw [hrun, Oper.uponIn_value, hd]
 exact h _ w' (hf.put (Nat.le_of_ble_eq_true hi)) hs'
theorem qM {ops : Array Oper} {o : Oper} {rest : List Oper} {L' : Jy} (hg : Kx l ops o = some true) (hn : Kq o.op = true) (hd : o.dst = none)
  (hr : ∀ a w, Fr c.n d l a → St c L X w → ∃ w', (execOp a.eval o).run c.P w = .ok .skip w' ∧ St c L' X w')
  (h : HL c d l L' X ops rest Q) : HL c d l L X ops (o :: rest) Q := fun a w hf hs => by
 obtain ⟨w', hrun, hs'⟩ := hr a w hf hs
 refine Q0 (JW hf hg) hn ?_
 rw [hrun, Oper.uponIn_skip, hd]
 exact h _ w' hf hs'
theorem Jda {n : Nat} {a : Act} {o : Oper} (hf : Fr n d l a) (hn : Kq o.op = true) (hk : YF l o.op.operands.toList = true) : execOp a.eval o = execOp (evT l) o :=
 execOp_congr o (Jbo hn) fun x hx => by
  obtain ⟨v, hv⟩ := jY hk x (by simpa using hx)
  rw [hf.eval hv, evT, hv]
def JP (c : Cx) (d : List Deferred) (l : KK) (L : Jy) (X : XP) (o : Oper) (v : Value) : Prop :=
 ∀ a w, Fr c.n d l a → St c L X w → (execOp a.eval o).run c.P w = .ok (.value v) w
theorem Jdb {ops : Array Oper} {o : Oper} {rest : List Oper} {i : Nat} {v : Value} (hg : Kx l ops o = some true) (hn : Kq o.op = true) (hd : o.dst = some i) (hi : Nat.ble (i + 1) c.n = true)
  (hr : JP c d l L X o v) (h : HL c d ((i, v) :: l) L X ops rest Q) : HL c d l L X ops (o :: rest) Q :=
 Jc9 hg hn hd hi (fun a w hf hs => ⟨w, hr a w hf hs, hs⟩) h
theorem KC {o : Oper} {v : Value} (hn : Kq o.op = true) (hk : YF l o.op.operands.toList = true) (hv : Vo c.P (execOp (evT l) o) = some (.value v)) : JP c d l L X o v :=
 fun a w hf _ => by rw [Jda hf hn hk]; exact qL _ _ hv w
theorem JA {ops : Array Oper} {rest : List Oper} {i : Nat} {v v' : Value} (e : v = v') (h : HL c d ((i, v') :: l) L X ops rest Q) : HL c d ((i, v) :: l) L X ops rest Q := e ▸ h
theorem Jx {i t : Nat} {x y z : Operand} {v : Value} {ps : String} {af : Array Edge} {gd : Option (Nat × Bool)} (hx : Kz l x = some (.bool true)) (hv : Kz l y = some v) : JP c d l L X ⟨some i, .pick x y z, t, ps, af, gd⟩ v :=
 fun a w hf _ => by simp only [execOp, Sem.run_bind]; rw [hf.eval hx, hf.eval hv]; rfl
theorem J5 {i t : Nat} {x y z : Operand} {v : Value} {ps : String} {af : Array Edge} {gd : Option (Nat × Bool)} (hx : Kz l x = some (.bool false)) (hv : Kz l z = some v) : JP c d l L X ⟨some i, .pick x y z, t, ps, af, gd⟩ v :=
 fun a w hf _ => by simp only [execOp, Sem.run_bind]; rw [hf.eval hx, hf.eval hv]; rfl
theorem Jf {i t ix : Nat} {x : Operand} {v : Value} {vs : Array Value} {ps : String} {af : Array Edge} {gd : Option (Nat × Bool)} (hx : Kz l x = some (.tuple vs)) (hv : WM vs.toList ix = some v) : JP c d l L X ⟨some i, .extract x ix, t, ps, af, gd⟩ v :=
 fun a w hf _ => by simp only [execOp]; rw [hf.eval hx]; simp [Instr.extract, QI hv]
theorem JG {i t : Nat} {x : Operand} {v : Value} {ps : String} {af : Array Edge} {gd : Option (Nat × Bool)} (hv : Kz l x = some v) :
  JP c d l L X ⟨some i, .move x, t, ps, af, gd⟩ (v) := fun a w hf hs => by simp only [execOp]; rw [hf.eval hv]; rfl
theorem JY {i t : Nat} {x : Operand} {v : Value} {ps : String} {af : Array Edge} {gd : Option (Nat × Bool)} (hv : Kz l x = some v) :
  JP c d l L X ⟨some i, .assign x, t, ps, af, gd⟩ (v) := fun a w hf hs => by simp only [execOp]; rw [hf.eval hv]; rfl
def Jho (l : KK) (ops : Array Oper) (o : Oper) (n : Nat) (x : Operand) : Option (Nat × Value) := match Kx l ops o, o.dst, Kz l x with | some true, some i, some v => (match Nat.ble (i + 1) n with | true => some (i, v) | false => none) | _, _, _ => none
theorem xt {l : KK} {ops : Array Oper} {o : Oper} {n : Nat} {x : Operand} {q : Nat × Value} (h : Jho l ops o n x = some q) : Kx l ops o = some true ∧ o.dst = some q.1 ∧ Kz l x = some q.2 ∧ Nat.ble (q.1 + 1) n = true := by
 unfold Jho at h
 split at h
 ·split at h
  ·cases h; exact ⟨by assumption, by assumption, by assumption, by assumption⟩
  ·cases h
 ·cases h
def mvB (l : KK) (ops : Array Oper) (o : Oper) (n : Nat) : Option (Nat × Value) := match o.op with | .move x => Jho l ops o n x | .assign x => Jho l ops o n x | _ => none
theorem Jb {ops : Array Oper} {o : Oper} {rest : List Oper} {i : Nat} {v : Value} (hB : mvB l ops o c.n = some (i, v)) (h : HL c d ((i, v) :: l) L X ops rest Q) : HL c d l L X ops (o :: rest) Q := by
 obtain ⟨dst, op, t, ps, af, gd⟩ := o
 unfold mvB at hB
 split at hB
 ·rename_i e; simp only at e; subst e; obtain ⟨h1, h2, h3, h4⟩ := xt hB; simp only at h2; subst h2; exact Jdb h1 rfl rfl h4 (JG h3) h
 ·rename_i e; simp only at e; subst e; obtain ⟨h1, h2, h3, h4⟩ := xt hB; simp only at h2; subst h2; exact Jdb h1 rfl rfl h4 (JY h3) h
 ·cases hB
def prB (P : Program) (l : KK) (ops : Array Oper) (o : Oper) (n : Nat) : Option (Nat × Value) := match Kx l ops o, o.dst, Kq o.op, YF l o.op.operands.toList, Vo P (execOp (evT l) o) with | some true, some i, true, true, some (.value v) => (match Nat.ble (i + 1) n with | true => some (i, v) | false => none) | _, _, _, _, _ => none
theorem J2 {ops : Array Oper} {o : Oper} {rest : List Oper} {i : Nat} {v : Value} (hB : prB c.P l ops o c.n = some (i, v)) (h : HL c d ((i, v) :: l) L X ops rest Q) : HL c d l L X ops (o :: rest) Q := by
 unfold prB at hB
 split at hB
 ·split at hB
  ·cases hB; exact Jdb (by assumption) (by assumption) (by assumption) (by assumption) (KC (by assumption) (by assumption) (by assumption)) h
  ·cases hB
 ·cases hB
end
def Qv (P : Program) (t : TypeId) : Option Value := match P.info? t with | some i => i.zero | none => none
def Qd (P : Program) (t : TypeId) : Option Nat := match P.info? t with | some i => some i.size | none => none
def VD (P : Program) (t : TypeId) : Option Bool := match P.underlying t with | some (.struct _) => some true | some (.array _ _) => some true | some _ => some false | none => none
def frB : Nat × Nat → Nat → Bool
 | (lo, hi), off => Nat.ble lo off && Nat.blt off hi
def QX : Value → Bool
 | .agg _ | .tuple _ => false
 | _ => true
theorem VJ (v : Value) : v.oneCell' = QX v := by cases v <;> rfl
theorem VS {P : Program} {t : TypeId} {z : Value} (h : Qv P t = some z) (w : World) : (zeroValue t).run P w = .ok z w := by
 unfold Qv at h
 split at h
 ·rename_i i hi; simp [zeroValue, typeInfo, hi, h]
 ·cases h
theorem QG {P : Program} {t : TypeId} {n : Nat} (h : Qd P t = some n) (w : World) : (sizeOf t).run P w = .ok n w := by
 unfold Qd at h
 split at h
 ·rename_i i hi; cases h; simp [sizeOf, typeInfo, hi]
 ·cases h
theorem ZF {P : Program} {t : TypeId} {b : Bool} (h : VD P t = some b) (w : World) : (isAgg t).run P w = .ok b w := by
 unfold VD at h
 unfold isAgg
 simp only [Sem.run_bind, underlying, run_program, Result.andThen]
 split at h <;> simp_all [Sem.run_pure] <;> rename_i hu <;> (rw [← h]; split <;> simp_all)
theorem Ve {w : World} {r off : Nat} {cs : Array Value} {e : TypeId} {fr : Nat × Nat} (h : w.heap[r]? = some (.cells cs e fr)) : w.cell? ⟨r, off, none⟩ = cs[off]? := by
 simp [World.cell?, h]
theorem YH {w : World} {r off : Nat} {cs : Array Value} {e : TypeId} {fr : Nat × Nat} (h : w.heap[r]? = some (.cells cs e fr)) (hf : frB fr off = false) : w.frozen? ⟨r, off, none⟩ = false := by
 obtain ⟨lo, hi⟩ := fr
 simp only [frB, Bool.and_eq_false_iff] at hf
 simp only [World.frozen?, h]
 rcases hf with hf | hf
 ·have : ¬ lo ≤ off := fun hle => by rw [Nat.ble_eq_true_of_le hle] at hf; cases hf
  simp [this]
 ·have : ¬ off < hi := fun hlt => by rw [show Nat.blt off hi = true from by rw [Nat.blt_eq]; exact hlt] at hf; cases hf
  simp [this]
theorem Vp {w : World} {r off : Nat} {cs : Array Value} {e : TypeId} {fr : Nat × Nat} (v : Value) (h : w.heap[r]? = some (.cells cs e fr)) :
  (w.setCell ⟨r, off, none⟩ v).heap[r]? = some (.cells (cs.setIfInBounds off v) e fr) := by
 have hlt := J6 h
 obtain ⟨_, he⟩ := Array.getElem?_eq_some_iff.1 h
 show (w.heap.modify r _)[r]? = _
 rw [Array.getElem?_eq_getElem (by rw [Array.size_modify]; exact hlt), Array.getElem_modify_self, he]
 rfl
theorem Keep.setCell {w : World} (r off : Nat) (v : Value) : Keep [r] w (w.setCell ⟨r, off, none⟩ v) :=
 ⟨rfl, rfl, rfl, by simp [World.setCell], fun k _ hn => Below.heap_setCell _ _ _ _ (by simpa using hn)⟩
theorem Keep.setRow {w : World} (r : Nat) (cs : Array Value) : Keep [r] w (w.setRow r cs) :=
 ⟨rfl, rfl, rfl, by simp [World.setRow], fun k _ hn => by
  simp only [World.setRow, Array.getElem?_modify]
  rw [if_neg (by intro e; exact hn (by simp [e]))]⟩
theorem Yf {P : Program} {w : World} {t : TypeId} {a : Addr} {v : Value} (ht : VD P t = some false) (h : w.cell? a = some v) : (loadVar t a).run P w = .ok v w := by
 unfold loadVar
 simp [Sem.run_bind, ZF ht, Result.andThen, h]
theorem Yg {P : Program} {w : World} {t : TypeId} {r off n : Nat} {cs : Array Value} {e : TypeId} {fr : Nat × Nat} {vs : List Value} (ht : VD P t = some true) (hn : Qd P t = some n)
  (h : w.heap[r]? = some (.cells cs e fr)) (hv : (cs.toList.drop off).take n = vs) (hl : vs.length = n) : (loadVar t ⟨r, off, none⟩).run P w = .ok (.agg vs.toArray) w := by
 have key := run_loadCells_list (P := P) w ⟨r, off, none⟩ vs (fun j v hj => by
  have hj2 : cs[off + j]? = some v := by
   subst hv
   rw [List.getElem?_take] at hj
   split at hj
   ·rw [List.getElem?_drop] at hj; simpa using hj
   ·cases hj
  by_cases h0 : j = 0
  ·subst h0; simpa [Addr.add, Ve h] using hj2
  ·simp only [Addr.add, h0, if_false, Ve h]; exact hj2)
 rw [hl] at key
 unfold loadVar
 simp [Sem.run_bind, ZF ht, QG hn, Result.andThen, key]
section
variable {c : Cx} {l : KK} {L : Jy} {X : XP} {Q : Exit → Act → World → Prop} {K : Act → World → Prop} {d : List Deferred}
variable {ops : Array Oper} {rest : List Oper} {i : Nat} {v : Value} {t : TypeId} {ps : String} {af : Array Edge} {gd : Option (Nat × Bool)} {ty : TypeId}
theorem V7 {α : Type} {o : Oper} {V : α → Value} {L' : α → Jy} {X' : α → XP} (hg : Kx l ops o = some true) (hn : Kq o.op = true) (hd : o.dst = some i) (hi : Nat.ble (i + 1) c.n = true)
  (hr : ∀ a w, Fr c.n d l a → St c L X w → ∃ x w', (execOp a.eval o).run c.P w = .ok (.value (V x)) w' ∧ St c (L' x) (X' x) w')
  (h : ∀ x, HL c d ((i, V x) :: l) (L' x) (X' x) ops rest Q) : HL c d l L X ops (o :: rest) Q := fun a w hf hs => by
 obtain ⟨x, w', hrun, hs'⟩ := hr a w hf hs
 refine Q0 (JW hf hg) hn ?_
 rw [hrun, Oper.uponIn_value, hd]
 exact h x _ w' (hf.put (Nat.le_of_ble_eq_true hi)) hs'
theorem Jdc {z : Value} {cs : Array Value} (hg : Kx l ops ⟨some i, .alloc t, ty, ps, af, gd⟩ = some true) (hi : Nat.ble (i + 1) c.n = true) (hz : Qv c.P t = some z) (hc : z.cells = cs)
  (h : ∀ r, HL c d ((i, .pointer (some ⟨r, 0, none⟩)) :: l) ((r, .cells cs t (0, 0)) :: L) X ops rest Q) : HL c d l L X ops (⟨some i, .alloc t, ty, ps, af, gd⟩ :: rest) Q :=
 V7 (V := fun r => .pointer (some ⟨r, 0, none⟩)) (L' := fun r => (r, .cells cs t (0, 0)) :: L) (X' := fun _ => X) hg rfl rfl hi (fun a w hf hs => ⟨w.heap.size, w.alloc (.cells cs t), by
  simp [execOp, Instr.alloc, Sem.run_bind, VS hz, Result.andThen, newVar, newRow, hc], hs.alloc _⟩) h
theorem JX {x : Operand} {cs : Array Value} (hg : Kx l ops ⟨some i, .box t x, ty, ps, af, gd⟩ = some true) (hi : Nat.ble (i + 1) c.n = true) (hx : Kz l x = some v) (hc : v.cells = cs)
  (h : ∀ r, HL c d ((i, .pointer (some ⟨r, 0, none⟩)) :: l) ((r, .cells cs t (0, 0)) :: L) X ops rest Q) : HL c d l L X ops (⟨some i, .box t x, ty, ps, af, gd⟩ :: rest) Q :=
 V7 (V := fun r => .pointer (some ⟨r, 0, none⟩)) (L' := fun r => (r, .cells cs t (0, 0)) :: L) (X' := fun _ => X) hg rfl rfl hi (fun a w hf hs => ⟨w.heap.size, w.alloc (.cells cs t), by
  simp only [execOp]; rw [hf.eval hx]
  simp [Instr.box, Result.andThen, newVar, newRow, hc], hs.alloc _⟩) h
theorem St.get {w : World} (hs : St c L X w) {k r : Nat} {o : Obj} (h : L[k]? = some (r, o)) : w.heap[r]? = some o := (hs.own _ (List.mem_of_getElem? h)).2.2
def known (c : Cx) (L : Jy) (r : Nat) (o : Obj) : Prop := (r, o) ∈ L ∨ (r, o) ∈ c.R
theorem Vf {k r : Nat} {o : Obj} (h : L[k]? = some (r, o)) : known c L r o := .inl (List.mem_of_getElem? h)
theorem Kg {k r : Nat} {o : Obj} (h : c.R[k]? = some (r, o)) : known c L r o := .inr (List.mem_of_getElem? h)
theorem St.known {w : World} (hs : St c L X w) {r : Nat} {o : Obj} (h : known c L r o) : w.heap[r]? = some o := h.elim (fun h => (hs.own _ h).2.2) hs.readR
theorem Jc {x : Operand} {r off : Nat} {cs : Array Value} {e : TypeId} {fr : Nat × Nat} (hx : Kz l x = some (.pointer (some ⟨r, off, none⟩))) (hk : known c L r (.cells cs e fr)) (ht : VD c.P t = some false) (hc : WM cs.toList off = some v)
  :
  JP c d l L X ⟨some i, .load t x, ty, ps, af, gd⟩ (v) := fun a w hf hs => by
  simp only [execOp]; rw [hf.eval hx]
  have := Yf (P := c.P) (w := w) (a := ⟨r, off, none⟩) ht (by rw [Ve (hs.known hk)]; exact QI hc)
  simp [Instr.loadAt, Instr.sureAddr, Result.andThen, this]
theorem JT {x : Operand} {r off n : Nat} {cs : Array Value} {e : TypeId} {fr : Nat × Nat} {vs : List Value} (hx : Kz l x = some (.pointer (some ⟨r, off, none⟩))) (hk : known c L r (.cells cs e fr)) (ht : VD c.P t = some true) (hn : Qd c.P t = some n) (hv : (cs.toList.drop off).take n = vs) (hl : vs.length = n)
  :
  JP c d l L X ⟨some i, .load t x, ty, ps, af, gd⟩ (.agg vs.toArray) := fun a w hf hs => by
  simp only [execOp]; rw [hf.eval hx]
  have := Yg (P := c.P) (w := w) ht hn (hs.known hk) hv hl
  simp [Instr.loadAt, Instr.sureAddr, Result.andThen, this]
theorem Ju {x y : Operand} {k r off : Nat} {cs cs' : Array Value} {e : TypeId} {fr : Nat × Nat} {L' : Jy} (hg : Kx l ops ⟨none, .store t x y, ty, ps, af, gd⟩ = some true)
  (hx : Kz l x = some (.pointer (some ⟨r, off, none⟩))) (hk : L[k]? = some (r, .cells cs e fr)) (hy : Kz l y = some v) (ht : Qd c.P t = some 1) (ho : QX v = true) (hc : (cs[off]?).isSome = true) (hfr : frB fr off = false)
  (hcs : cs.setIfInBounds off v = cs') (hL : L.set k (r, .cells cs' e fr) = L')
  (h : HL c d l L' X ops rest Q) : HL c d l L X ops (⟨none, .store t x y, ty, ps, af, gd⟩ :: rest) Q :=
 qM hg rfl rfl (fun a w hf hs => ⟨w.setCell ⟨r, off, none⟩ v, by
  simp only [execOp]; rw [hf.eval hx, hf.eval hy]
  obtain ⟨old, hold⟩ := Option.isSome_iff_exists.1 hc
  have h1 := run_store c.P w ⟨r, off, none⟩ v .plain (by rw [VJ]; exact ho)
  rw [Ve (hs.get hk), hold, YH (hs.get hk) hfr] at h1
  have hcell : v.cells = #[v] := by cases v <;> first | rfl | cases ho
  simp [Instr.storeAt, Instr.sureAddr, Sem.run_bind, Result.andThen, storeVar, QG ht, hcell, storeCells, Addr.add, h1], by
  subst hL; subst hcs
  exact hs.set hk (Keep.setCell r off v) (Vp v (hs.get hk))⟩) h
theorem Jv {x y : Operand} {k r off n : Nat} {cs cs' vs : Array Value} {e : TypeId} {L' : Jy} (hg : Kx l ops ⟨none, .store t x y, ty, ps, af, gd⟩ = some true)
  (hx : Kz l x = some (.pointer (some ⟨r, off, none⟩))) (hk : L[k]? = some (r, .cells cs e (0, 0))) (hy : Kz l y = some (.agg vs)) (ht : Qd c.P t = some n) (hn : vs.size = n) (ho : vs.toList.all QX = true) (hc : off + n ≤ cs.size)
  (hcs : (cs.toList.take off ++ vs.toList ++ cs.toList.drop (off + n)).toArray = cs') (hL : L.set k (r, .cells cs' e (0, 0)) = L')
  (h : HL c d l L' X ops rest Q) : HL c d l L X ops (⟨none, .store t x y, ty, ps, af, gd⟩ :: rest) Q :=
 qM hg rfl rfl (fun a w hf hs => ⟨w.setRow r cs', by
  simp only [execOp]; rw [hf.eval hx, hf.eval hy]
  have h1 := run_storeCells_at (P := c.P) r off e vs.toList 0 cs w (hs.get hk) (by simp [hn]; omega) (fun u hu => by rw [VJ]; exact List.all_eq_true.1 ho u hu)
  simp only [Nat.add_zero, Array.length_toList, hn] at h1
  rw [hcs] at h1
  simp [Instr.storeAt, Instr.sureAddr, Sem.run_bind, Result.andThen, storeVar, QG ht, Value.cells, hn, h1], by
  subst hL
  exact hs.set hk (Keep.setRow r cs') (setRow_heap _ _ _ _ _ _ (hs.get hk))⟩) h
structure Pure (P : Program) (f : FuncId) (args : Array Value) (v : Value) : Prop where
  run : ∀ w, Calls P f args w fun e w' => e = .returned v ∧ Keep [] w w'
def Qe (l : KK) (f : Operand) (args : Array Operand) : Option (FuncId × List Value) :=
 match Kz l f with
 | some (.func (.func g) first caps) => match first.toList, evs l args.toList with
  | [], some vs => some (g, vs ++ caps.toList)
  | _, _ => none
 | _ => none
theorem Vq {n : Nat} {a : Act} {f : Operand} {args : Array Operand} {at_ : Array TypeId} {g : FuncId} {vs : List Value} (hf : Fr n d l a) (h : Qe l f args = some (g, vs))
  (P : Program) (w : World) (o : Oper) (ho : o.op = .call ⟨.value f, args, at_⟩) (eg : Enters P g) : (execOp a.eval o).run P w = .ok (.enter g vs.toArray) w := by
 unfold Qe at h
 split at h
 ·rename_i g' first caps hfv
  split at h
  ·rename_i us hfirst hargs
   simp only [Option.some.injEq, Prod.mk.injEq] at h
   obtain ⟨rfl, rfl⟩ := h
   have hfirst' : first = #[] := by simpa using hfirst
   subst hfirst'
   have h2 := hf.evals hargs
   have h3 : args.map a.eval = us.toArray := by
    apply Array.toList_inj.1; rw [Array.toList_map]; simpa using h2
   have h4 : a.eval f = .func (.func g') #[] caps := hf.eval hfv
   simp only [execOp, ho, Sem.run_bind]
   have h5 : us.toArray ++ caps = (us ++ caps.toList).toArray := by apply Array.toList_inj.1; simp
   have h6 := eg (us.toArray ++ caps) w
   rw [← h5]
   simpa [resolve, h3, h4, Deferred.ofValue, Result.andThen, invoke] using h6
  ·cases h
 ·cases h
theorem Jdd {α : Type} {f : Operand} {args : Array Operand} {at_ : Array TypeId} {g : FuncId} {vs : List Value} {V : α → Value} {L' : α → Jy} {X' : α → XP} {dst : Option Nat}
  (hg : Kx l ops ⟨dst, .call ⟨.value f, args, at_⟩, ty, ps, af, gd⟩ = some true) (hca : Qe l f args = some (g, vs)) (eg : Enters c.P g)
  (hr : ∀ w, St c L X w → Calls c.P g vs.toArray w fun e w' => ∃ x, e = .returned (V x) ∧ St c (L' x) (X' x) w')
  (h : ∀ x a w, (∀ i, dst = some i → i < c.n) → Fr c.n d l a → St c (L' x) (X' x) w → wpListIn (FW c.ro) 0 c.P ops Q rest (a.put dst (V x)) w) (hi : ∀ i, dst = some i → Nat.ble (i + 1) c.n = true) :
  HL c d l L X ops (⟨dst, .call ⟨.value f, args, at_⟩, ty, ps, af, gd⟩ :: rest) Q := fun a w hf hs => by
 refine Q0 (JW hf hg) rfl ?_
 rw [Vq hf hca c.P w _ rfl eg, Oper.uponIn_enter]
 refine ⟨fun hdep => (by cases hdep), ?_⟩
 have hc := callsIn_wide (n := 0) |>.2 (hr w hs)
 refine CallsIn.mono (R := fun e w' => ∃ x, e = .returned (V x) ∧ St c (L' x) (X' x) w') (show CallsIn (FW c.ro) 0 c.P g vs.toArray w _ from hc) ?_
 rintro e w' ⟨x, rfl, hs'⟩
 exact h x a w' (fun i hd => Nat.le_of_ble_eq_true (hi i hd)) hf hs'
theorem Xl {α : Type} {f : Operand} {args : Array Operand} {at_ : Array TypeId} {g : FuncId} {vs : List Value} {V : α → Value} {L' : α → Jy} {X' : α → XP}
  (hg : Kx l ops ⟨some i, .call ⟨.value f, args, at_⟩, ty, ps, af, gd⟩ = some true) (hi : Nat.ble (i + 1) c.n = true) (hca : Qe l f args = some (g, vs)) (eg : Enters c.P g)
  (hr : ∀ w, St c L X w → Calls c.P g vs.toArray w fun e w' => ∃ x, e = .returned (V x) ∧ St c (L' x) (X' x) w')
  (h : ∀ x, HL c d ((i, V x) :: l) (L' x) (X' x) ops rest Q) : HL c d l L X ops (⟨some i, .call ⟨.value f, args, at_⟩, ty, ps, af, gd⟩ :: rest) Q :=
 Jdd hg hca eg hr (fun x a w hlt hf hs => h x _ w (hf.put (hlt i rfl)) hs) (fun j e => by cases e; exact hi)
theorem JC {f : Operand} {args : Array Operand} {at_ : Array TypeId} {g : FuncId} {vs : List Value}
  (hg : Kx l ops ⟨some i, .call ⟨.value f, args, at_⟩, ty, ps, af, gd⟩ = some true) (hi : Nat.ble (i + 1) c.n = true) (hca : Qe l f args = some (g, vs)) (eg : Enters c.P g)
  (hp : Pure c.P g vs.toArray v) (h : HL c d ((i, v) :: l) L X ops rest Q) : HL c d l L X ops (⟨some i, .call ⟨.value f, args, at_⟩, ty, ps, af, gd⟩ :: rest) Q :=
 Xl (α := Unit) (V := fun _ => v) (L' := fun _ => L) (X' := fun _ => X) hg hi hca eg (fun w hs => (hp.run w).mono fun _ _ ⟨he, hk⟩ => ⟨(), he, hs.more hk⟩) (fun _ => h)
def Vr : Nat → List Value → KK
 | _, [] => []
 | k, v :: vs => (k, v) :: Vr (k + 1) vs
theorem vV {vs : List Value} : ∀ {k i : Nat} {v : Value}, QN (Vr k vs) i = some v → k ≤ i ∧ vs[i - k]? = some v := by
 induction vs with
 | nil => intro k i v h; simp [Vr, QN] at h
 | cons u us ih =>
  intro k i v h
  simp only [Vr, QN] at h
  by_cases e : i = k
  ·subst e; rw [Nat.beq_refl] at h; simp only [Option.some.injEq] at h; subst h; simp
  ·rw [show Nat.beq i k = false from by rw [Bool.eq_false_iff]; exact fun hb => e (Nat.eq_of_beq_eq_true hb)] at h
   obtain ⟨h1, h2⟩ := ih h
   refine ⟨by omega, ?_⟩
   rw [show i - k = (i - (k + 1)) + 1 from by omega]
   simpa using h2
theorem jZ {n : Nat} {vs : List Value} (h : vs.length ≤ n) : Fr n [] (Vr 0 vs) { tmps := vs.toArray ++ Array.replicate (n - vs.toArray.size) undef, defers := [] } := by
 refine ⟨by simp; omega, rfl, fun i v hv => ?_⟩
 obtain ⟨_, h2⟩ := vV hv
 simp only [Nat.sub_zero] at h2
 have hlt := (List.getElem?_eq_some_iff.1 h2).1
 rw [Array.getElem?_append_left (by simpa using hlt)]
 simpa using h2
theorem QP {P : Program} {f : FuncId} {fn : Func} {code : Code} {vs : List Value} {w : World} {R : Ending → World → Prop} (c : Cx) (hf : P.funcs[f]? = some fn) (hb : fn.body = some code) (hc : c.P = P) (hro : c.ro = none) (hn : c.n = fn.ntmps)
  (hlen : Nat.ble vs.length fn.ntmps = true) (hs : St c L X w) (h : HC c [] (Vr 0 vs) L X code (bodyPostM (FW none) 0 P fn R)) : Calls P f vs.toArray w R := by
 refine callsIn_wide (n := 0) |>.1 (callsIn_of_wp_marks hf hb trivial ?_)
 have h1 := h _ w (jZ (n := c.n) (by rw [hn]; exact Nat.le_of_ble_eq_true hlen)) hs
 rw [hro, hc, hn] at h1
 exact h1
theorem St.start (P : Program) (ro : Option Nat) (w : World) (n : Nat) : St ⟨P, ro, w, [], [], [], n⟩ [] (fun _ _ => True) w :=
 ⟨Keep.refl _ _, by simp, by simp, by simp, by simp, ⟨[], by simp, fun _ _ => trivial⟩⟩
theorem JF {P : Program} {f : FuncId} {fn : Func} {code : Code} {vs : List Value} {v : Value} (hf : P.funcs[f]? = some fn) (hb : fn.body = some code) (hlen : Nat.ble vs.length fn.ntmps = true)
  (h : ∀ w, HC ⟨P, none, w, [], [], [], fn.ntmps⟩ [] (Vr 0 vs) [] (fun _ _ => True) code (bodyPostM (FW none) 0 P fn (fun e w' => e = .returned v ∧ Keep [] w w')))   : Pure P f vs.toArray v := ⟨fun w =>
 QP ⟨P, none, w, [], [], [], fn.ntmps⟩ hf hb rfl rfl rfl hlen (St.start P none w _) (h w)⟩
def vW (c : Cx) (l : KK) (L : Jy) : ResultVar → Value → Prop
 | .tmp t, v => QN l t = some v
 | .cell a t, v => ∃ r cs e fr, QN l a = some (.pointer (some ⟨r, 0, none⟩)) ∧ known c L r (.cells cs e fr) ∧
   ((VD c.P t = some false ∧ WM cs.toList 0 = some v) ∨ (∃ vs, VD c.P t = some true ∧ Qd c.P t = some vs.length ∧ cs.toList.take vs.length = vs ∧ v = .agg vs.toArray))
theorem Jk {tt : Nat} (h : QN l tt = some v) : vW c l L (.tmp tt) v := h
theorem KW {a r : Nat} {cs : Array Value} {e : TypeId} {fr : Nat × Nat} (h1 : QN l a = some (.pointer (some ⟨r, 0, none⟩))) (h2 : known c L r (.cells cs e fr)) (h3 : VD c.P t = some false) (h4 : WM cs.toList 0 = some v) : vW c l L (.cell a t) v :=
 ⟨r, cs, e, fr, h1, h2, .inl ⟨h3, h4⟩⟩
theorem J0 {a r : Nat} {vs : List Value} {e : TypeId} {fr : Nat × Nat} (h1 : QN l a = some (.pointer (some ⟨r, 0, none⟩))) (h2 : known c L r (.cells vs.toArray e fr)) (h3 : VD c.P t = some true) (h4 : Qd c.P t = some vs.length) : vW c l L (.cell a t) (.agg vs.toArray) :=
 ⟨r, _, e, fr, h1, h2, .inr ⟨vs, h3, h4, by simp, rfl⟩⟩
inductive ResAll (c : Cx) (l : KK) (L : Jy) : List ResultVar → List Value → Prop
  | nil : ResAll c l L [] []
  | cons {r v rs vs} : vW c l L r v → ResAll c l L rs vs → ResAll c l L (r :: rs) (v :: vs)
def Q2 : List Value → Value
 | [v] => v
 | vs => .tuple vs.toArray
def ZS (tmps : Array Value) : ResultVar → Sem Value
 | .tmp t => pure (tmps.getD t undef)
 | .cell b t => do loadVar t (← asAddr (tmps.getD b undef))
theorem Jhp {n : Nat} {a : Act} {w : World} (hf : Fr n d l a) (hs : St c L X w) {r : ResultVar} {v : Value} (h : vW c l L r v) :
  (ZS a.tmps r).run c.P w = .ok v w := by
 cases r with
 | tmp t =>
  have : a.eval (.tmp t) = v := hf.eval (x := .tmp t) h
  simpa [Act.eval, ZS] using this
 | cell b t =>
  obtain ⟨r, cs, e, fr, h1, h2, h3⟩ := h
  have hp : a.tmps.getD b undef = .pointer (some ⟨r, 0, none⟩) := hf.eval (x := .tmp b) h1
  simp only [ZS, hp, asAddr, Sem.run_bind, Sem.run_pure, Result.andThen]
  rcases h3 with ⟨h3, h4⟩ | ⟨vs, h3, h4, h5, rfl⟩
  ·exact Yf h3 (by rw [Ve (hs.known h2)]; exact QI h4)
  ·exact Yg h3 h4 (hs.known h2) (by simpa using h5) rfl
theorem Zi {n : Nat} {a : Act} {w : World} (hf : Fr n d l a) (hs : St c L X w) {rs : List ResultVar} {vs : List Value} (h : ResAll c l L rs vs) {fn : Func} (hr : fn.results = rs.toArray) :
  (results fn a.tmps).run c.P w = .ok (Q2 vs) w := by
 have key : ∀ {rs : List ResultVar} {vs : List Value}, ResAll c l L rs vs → (rs.mapM (ZS a.tmps)).run c.P w = .ok vs w := by
  intro rs vs h
  induction h with
  | nil => rfl
  | cons h1 _ ih =>
   simp only [List.mapM_cons, Sem.run_bind]
   rw [Jhp hf hs h1]
   simp only [Result.andThen]
   rw [ih]
   rfl
 have h2 := key h
 have e : results fn a.tmps = (do
   let vs ← fn.results.mapM (ZS a.tmps)
   pure (if h : vs.size = 1 then vs[0] else .tuple vs)) := by
  unfold results
  congr 2
 rw [e, hr]
 simp only [List.mapM_toArray, Sem.run_bind, Sem.run_map, h2, Result.andThen, Sem.run_pure]
 congr 1
 cases vs with
 | nil => rfl
 | cons v us => cases us with
  | nil => rfl
  | cons _ _ => simp [Q2]
theorem Jp {fn : Func} {R : Ending → World → Prop} {rs : List ResultVar} {vs : List Value} {P : Program} (hP : c.P = P) (hr : fn.results = rs.toArray) (h : ResAll c l L rs vs) (hR : ∀ w, St c L X w → R (.returned (Q2 vs)) w) :
  HQ c [] l L X (bodyPostM (FW none) 0 P fn R .ret) := fun a w hf hs => by
 show LeavesInM _ _ _ _ _ _ _ _ _
 rw [hf.defers]
 exact ⟨_, hP ▸ Zi hf hs h hr, hR w hs⟩
theorem Qf {fn : Func} {R : Ending → World → Prop} {rs : List ResultVar} {vs : List Value} {P : Program} (hP : c.P = P) (hr : fn.results = rs.toArray) (h : ResAll c l L rs vs) (hR : ∀ w, St c L X w → R (.returned (Q2 vs)) w) :
  HQ c [] l L X (bodyPostM (FW none) 0 P fn R .normal) := Jp hP hr h hR
end
def Yh (P : Program) : List Field → Option (List (Nat × Nat))
 | [] => some []
 | f :: fs => match Qd P f.type, Yh P fs with | some n, some r => some ((f.offset, n) :: r) | _, _ => none
def yT : Nat → List Value → List Value → List Value
 | _, [], xs => xs
 | _, _ :: _, [] => []
 | 0, n :: ns, _ :: xs => n :: yT 0 ns xs
 | k + 1, ns, x :: xs => x :: yT k ns xs
def XK (places : Nat → Option (Nat × Nat)) (cells : List Value) : List (Nat × List Value) → Option (List Value)
 | [] => some cells
 | (i, v) :: rest => match places i with
  | none => none
  | some (off, size) => match Nat.beq v.length size, Nat.ble (off + v.length) cells.length with
   | true, true => XK places (yT off v cells) rest
   | _, _ => none
theorem qN : ∀ (off : Nat) (v cs : List Value), off + v.length ≤ cs.length → yT off v cs = cs.take off ++ v ++ cs.drop (off + v.length)
 | off, [], cs, _ => by cases off <;> cases cs <;> simp [yT]
 | 0, n :: ns, x :: xs, h => by
  have := qN 0 ns xs (by simp at h ⊢; omega)
  simp only [Nat.zero_add, List.take_zero, List.nil_append] at this
  simp [yT, this]
 | k + 1, n :: ns, x :: xs, h => by
  have := qN k (n :: ns) xs (by simp at h ⊢; omega)
  simp only [yT, this, List.take_succ_cons, List.cons_append]
  rw [show k + 1 + (n :: ns).length = (k + (n :: ns).length) + 1 from by omega, List.drop_succ_cons]
 | off, n :: ns, [], h => by simp at h
theorem qb (off : Nat) : ∀ (v : List Value) (j : Nat) (cs : Array Value), off + j + v.length ≤ cs.size →
  ((v.zipIdx j).foldl (fun (cs : Array Value) (p : Value × Nat) => cs.setIfInBounds (off + p.2) p.1) cs).toList = cs.toList.take (off + j) ++ v ++ cs.toList.drop (off + j + v.length)
 | [], j, cs, h => by simp
 | x :: v, j, cs, h => by
  simp only [List.zipIdx_cons, List.foldl_cons]
  rw [qb off v (j + 1) _ (by simp at h ⊢; omega)]
  simp only [Array.toList_setIfInBounds, List.length_cons]
  simp only [List.length_cons] at h
  have hlt : off + j < cs.toList.length := by simp; omega
  rw [show off + (j + 1) = off + j + 1 from by omega, List.take_succ_eq_append_getElem (by simpa using hlt), List.getElem_set_self, List.take_set_of_le (Nat.le_refl _), List.drop_set_of_lt (by omega)]
  simp only [List.append_assoc, List.cons_append, List.nil_append]
  rw [show off + j + 1 + v.length = off + j + (v.length + 1) from by omega]
theorem ZG (places : Nat → Option (Nat × Nat)) : ∀ (parts : KK) (cells : Array Value) (r : List Value), XK places cells.toList (parts.map fun p => (p.1, p.2.cells.toList)) = some r → Instr.fill places cells parts = some r.toArray
 | [], cells, r, h => by simp only [List.map_nil, XK, Option.some.injEq] at h; subst h; simp [Instr.fill]
 | (i, v) :: rest, cells, r, h => by
  simp only [List.map_cons, XK] at h
  simp only [Instr.fill]
  cases hp : places i with
  | none => simp [hp] at h
  | some p =>
   obtain ⟨off, size⟩ := p
   simp only [hp] at h ⊢
   split at h
   ·rename_i h1 h2
    have e1 := Nat.eq_of_beq_eq_true h1
    have e2 := Nat.le_of_ble_eq_true h2
    simp only [Array.length_toList] at e1 e2
    rw [if_neg (by simp [e1]; omega)]
    refine ZG places rest _ r ?_
    rw [← h]
    congr 1
    have := qb off v.cells.toList 0 cells (by simpa using e2)
    rw [qN off _ _ (by simpa using e2)]
    simp only [Nat.add_zero] at this
    rw [← this, ← Array.foldl_toList]
    simp
   ·cases h
theorem ZT {P : Program} : ∀ {fs : List Field} {r : List (Nat × Nat)}, Yh P fs = some r → ∀ w, (fs.mapM (fun f => do pure (f.offset, ← sizeOf f.type) : Field → Sem (Nat × Nat))).run P w = .ok r w
 | [], r, h, w => by simp only [Yh, Option.some.injEq] at h; subst h; rfl
 | f :: fs, r, h, w => by
  simp only [Yh] at h
  split at h
  ·rename_i n r' h1 h2
   simp only [Option.some.injEq] at h; subst h
   simp only [List.mapM_cons, Sem.run_bind, QG h1, Result.andThen, Sem.run_pure, ZT h2]
  ·cases h
def yU (P : Program) (t : TypeId) (parts : List (Nat × List Value)) : Option (List Value) :=
 match Qv P t with
 | none => none
 | some z => match P.underlying t with
  | some (.struct fs) => match Yh P fs.toList with
   | some pl => XK (fun i => pl[i]?) z.cells.toList parts
   | none => none
  | some (.array _ e) => match Qd P e with
   | some n => XK (fun i => some (i * n, n)) z.cells.toList parts
   | none => none
  | _ => none
theorem Jbp {P : Program} {t : TypeId} {parts : KK} {r : List Value} (h : yU P t (parts.map fun p => (p.1, p.2.cells.toList)) = some r) (w : World) : (Instr.build t parts.toArray).run P w = .ok (.agg r.toArray) w := by
 unfold yU at h
 split at h
 ·cases h
 ·rename_i z hz
  unfold Instr.build
  simp only [Sem.run_bind, VS hz, Result.andThen]
  split at h
  ·rename_i fs hu
   split at h
   ·rename_i pl hpl
    have hf := ZG (fun i => pl.toArray[i]?) parts z.cells r (by simpa using h)
    obtain ⟨fl⟩ := fs
    have hm := ZT hpl w
    simp only [underlying, Sem.run_bind, run_program, Result.andThen, hu, Sem.run_pure]
    simp only [List.mapM_toArray, Sem.run_map, hm, Result.andThen, hf, Sem.run_pure]
   ·cases h
  ·rename_i e hu
   split at h
   ·rename_i n hn
    have hf := ZG (fun i => some (i * n, n)) parts z.cells r h
    simp only [underlying, Sem.run_bind, run_program, Result.andThen, hu, Sem.run_pure, QG hn, hf]
   ·cases h
  ·cases h
def Wk (l : KK) : List (Nat × Operand) → Option KK
 | [] => some []
 | (i, x) :: r => match Kz l x, Wk l r with | some v, some vs => some ((i, v) :: vs) | _, _ => none
def Q7 : KK → List (Nat × List Value)
 | [] => []
 | (i, v) :: r => (i, v.cells.toList) :: Q7 r
theorem QD : ∀ ps : KK, Q7 ps = ps.map fun p => (p.1, p.2.cells.toList)
 | [] => rfl
 | (i, v) :: r => by simp [Q7, QD r]
theorem Vs {n : Nat} {d : List Deferred} {l : KK} {a : Act} (hf : Fr n d l a) : ∀ {xs : List (Nat × Operand)} {vs : KK}, Wk l xs = some vs → (xs.map fun (p : Nat × Operand) => (p.1, a.eval p.2)) = vs
 | [], vs, h => by simp only [Wk, Option.some.injEq] at h; subst h; rfl
 | (i, x) :: r, vs, h => by
  simp only [Wk] at h
  split at h
  ·rename_i v us h1 h2
   simp only [Option.some.injEq] at h; subst h
   simp [hf.eval h1, Vs hf h2]
  ·cases h
def vX (P : Program) (t : TypeId) (f : Nat) : Option (Nat × Nat) :=
 match P.underlying t with
 | some (.struct fs) => match fs[f]? with
  | some x => match Qd P x.type with | some n => some (x.offset, n) | none => none
  | none => none
 | _ => none
def Zj (P : Program) (t : TypeId) : Option (Nat × TypeId) := match P.underlying t with | some (.array n e) => some (n, e) | _ => none
def KI (P : Program) (t : TypeId) : Option TypeId := match P.underlying t with | some (.slice e) => some e | _ => none
theorem KO {P : Program} {t : TypeId} {d : TypeDesc} (h : P.underlying t = some d) (w : World) : (underlying t).run P w = .ok d w := by
 simp [underlying, h]
theorem qO {P : Program} {t n e : Nat} (h : Zj P t = some (n, e)) : P.underlying t = some (.array n e) := by
 unfold Zj at h; split at h <;> simp_all
theorem Kj {P : Program} {t e : Nat} (h : KI P t = some e) : P.underlying t = some (.slice e) := by
 unfold KI at h; split at h <;> simp_all
theorem V9 (r off n : Nat) : Addr.add ⟨r, off, none⟩ n = ⟨r, off + n, none⟩ := by
 unfold Addr.add; split
 ·rename_i h; subst h; rfl
 ·rfl
section
variable {c : Cx} {l : KK} {L : Jy} {X : XP} {Q : Exit → Act → World → Prop} {d : List Deferred}
variable {ops : Array Oper} {rest : List Oper} {i : Nat} {v : Value} {t : TypeId} {ps : String} {af : Array Edge} {gd : Option (Nat × Bool)} {ty : TypeId}
theorem J7 {pa : List (Nat × Operand)} {vs : KK} {r : List Value} (hp : Wk l pa = some vs) (hb : yU c.P t (Q7 vs) = some r) :
  JP c d l L X ⟨some i, .build t pa.toArray, ty, ps, af, gd⟩ (.agg r.toArray) := fun a w hf hs => by
  have h1 := Vs hf hp
  have h2 : (pa.toArray.map fun (p : Nat × Operand) => (p.1, a.eval p.2)) = vs.toArray := by
   apply Array.toList_inj.1; rw [Array.toList_map]; simpa using h1
  rw [QD] at hb
  have h3 := Jbp hb w
  rw [← h2] at h3
  simp only [execOp, Sem.run_bind]
  have h4 : (Instr.build t (pa.toArray.map fun (i, x) => (i, a.eval x))).run c.P w = .ok (.agg r.toArray) w := h3
  rw [h4]; rfl
theorem Ja {x : Operand} {f r off fo n : Nat} (hx : Kz l x = some (.pointer (some ⟨r, off, none⟩))) (hfo : vX c.P t f = some (fo, n + 1)) {off' : Nat} (ho : off + fo = off')
  :
  JP c d l L X ⟨some i, .fieldAddr t x f, ty, ps, af, gd⟩ (.pointer (some ⟨r, off', none⟩)) := fun a w hf hs => by
  simp only [execOp]; rw [hf.eval hx]
  unfold vX at hfo
  split at hfo
  ·rename_i fs hu
   split at hfo
   ·rename_i y hy
    split at hfo
    ·rename_i m hm
     simp only [Option.some.injEq, Prod.mk.injEq] at hfo
     obtain ⟨h1, h2⟩ := hfo
     subst h1; subst h2; subst ho
     simp [Instr.fieldAt, Instr.sureAddr, Sem.run_bind, KO hu, Result.andThen, hy, fieldPlace, QG hm, V9]
    ·cases hfo
   ·cases hfo
  ·cases hfo
theorem VA {x y : Operand} {r off n e m j : Nat} {k : IntKind} {z : Int} (hx : Kz l x = some (.pointer (some ⟨r, off, none⟩))) (hy : Kz l y = some (.int k z)) (ha : Zj c.P t = some (n, e)) (hm : Qd c.P e = some m) (hz : z = (j : Int)) (hj : j < n) {off' : Nat} (ho : off + j * m = off')
  :
  JP c d l L X ⟨some i, .indexAddr t x y, ty, ps, af, gd⟩ (.pointer (some ⟨r, off', none⟩)) := fun a w hf hs => by
  simp only [execOp]; rw [hf.eval hx, hf.eval hy]
  subst hz; subst ho
  simp [Instr.indexAt, asIntOf, Instr.sureAddr, Sem.run_bind, KO (qO ha), Result.andThen, hj, QG hm, V9]
theorem QE {x y : Operand} {r off n cap e m j : Nat} {k : IntKind} {z : Int} (hx : Kz l x = some (.slice (some ⟨r, off, none⟩) n cap)) (hy : Kz l y = some (.int k z)) (ha : KI c.P t = some e) (hm : Qd c.P e = some m) (hz : z = (j : Int)) (hj : j < n) {off' : Nat} (ho : off + j * m = off')
  :
  JP c d l L X ⟨some i, .indexAddr t x y, ty, ps, af, gd⟩ (.pointer (some ⟨r, off', none⟩)) := fun a w hf hs => by
  simp only [execOp]; rw [hf.eval hx, hf.eval hy]
  subst hz; subst ho
  simp [Instr.indexAt, asIntOf, Sem.run_bind, KO (Kj ha), Result.andThen, hj, QG hm, V9]
theorem yV {x y : Operand} {j : Nat} {k : IntKind} {z : Int} {s : ByteArray} {b : UInt8} (hx : Kz l x = some (.string s)) (hy : Kz l y = some (.int k z)) (hu : c.P.underlying t = some .string) (hz : z = (j : Int)) (hv : s[j]? = some b)
  :
  JP c d l L X ⟨some i, .index t x y, ty, ps, af, gd⟩ (.int .u8 b.toNat) := fun a w hf hs => by
  simp only [execOp]; rw [hf.eval hx, hf.eval hy]
  subst hz
  simp [Instr.index, asIntOf, Sem.run_bind, KO hu, Result.andThen, hv]
end
section
variable {ro : Option Nat} {P : Program} {ops : Array Oper} {md : Region.Mode} {C : World → Prop}
theorem Jde {o : Oper} {a : Act} {K : Act → Prop} {K' : Act → World → Prop} {Q' : Exit → Act → World → Prop} {w : World} (hnd : Kq o.op = true) (hw : C w) (h : ∀ a w', C w' → K a → K' a w')
  (hh : o.quietIn (FW ro) 0 P a C K) : o.wpIn (FW ro) 0 P a w K' Q' := by
 obtain ⟨v, h1, h2⟩ := hh
 have h3 := h1 w hw
 unfold Oper.quietAtIn at h3
 refine ⟨KF, ?_⟩
 rw [Oper.semAt_eq _ _ _ (QT hnd)]
 cases hr : (execOp a.eval o).run P w with
 | halt x w' => rw [hr] at h3; exact h3.elim
 | ok x w' =>
  rw [hr] at h3
  cases x <;> simp only [Oper.quietUponIn] at h3 <;> simp only [Oper.uponIn]
  case value u => obtain ⟨rfl, rfl⟩ := h3; exact h _ _ hw h2
  case skip => obtain ⟨rfl, rfl⟩ := h3; exact h _ _ hw h2
  case enter f args =>
   obtain ⟨rfl, hd, hc⟩ := h3
   refine ⟨hd, hc.mono ?_⟩
   rintro e w'' ⟨rfl, hw''⟩
   exact h _ _ hw'' h2
theorem Jk7 {i : Nat} {a : Act} {K : Act → Prop} {K' : Act → World → Prop} {Q' : Exit → Act → World → Prop} {w : World} (hnd : ∀ (j : Nat) (o : Oper), ops[j]? = some o → Kq o.op = true) (hC : C w) (h : ∀ a w', C w' → K a → K' a w')
  (hh : qOpIn (FW ro) 0 P ops C i K a) : wpOpIn (FW ro) 0 P ops Q' i K' a w := by
 unfold qOpIn at hh
 unfold wpOpIn
 cases ho : ops[i]? with
 | none => simp only [ho] at hh; exact h _ _ hC hh
 | some o =>
  simp only [ho] at hh
  show if _ then _ else _
  split
  ·rename_i hw; rw [if_pos hw] at hh; exact Jde (hnd i o ho) hC h hh.2
  ·rename_i hw; rw [if_neg hw] at hh; exact ⟨KF, h _ _ hC hh.2⟩
def Jdf (ro : Option Nat) (P : Program) (md : Region.Mode) (ops : Array Oper) (C : World → Prop) (m : Nat) (T : Array Bool → Act → Prop) : Nat → Array Bool → Act → Prop
 | 0, listed, a => T listed a
 | f + 1, listed, a => Region.ready md ops listed ≠ [] ∧ ∀ i ∈ Region.ready md ops listed, i < m ∧ qOpIn (FW ro) 0 P ops C i (Jdf ro P md ops C m T f (listed.setIfInBounds i true)) a
theorem xu {m g : Nat} {T : Array Bool → Act → Prop} {Q' : Exit → Act → World → Prop} (hnd : ∀ (j : Nat) (o : Oper), ops[j]? = some o → Kq o.op = true)
  (hT : ∀ listed a w, C w → T listed a → wpAnyIn (FW ro) 0 P md ops Q' g listed a w) :
  ∀ (f : Nat) (listed : Array Bool) (a : Act) (w : World), C w → Jdf ro P md ops C m T f listed a → wpAnyIn (FW ro) 0 P md ops Q' (f + g) listed a w
 | 0, listed, a, w, hw, h => by rw [Nat.zero_add]; exact hT _ _ _ hw h
 | f + 1, listed, a, w, hw, h => by
  rw [show f + 1 + g = (f + g) + 1 from by omega]
  exact ⟨fun h0 => absurd h0 h.1, fun i hi => Jk7 hnd hw (fun a' w' hw' h' => xu hnd hT f _ a' w' hw' h') (h.2 i hi).2⟩
theorem yW {m i : Nat} {oi : Oper} {v : Value} {T : Array Bool → Act → Prop} (hi : ops[i]? = some oi) (hsel : ∀ (j : Nat) (o : Oper) cs b, ops[j]? = some o → o.op ≠ .select cs b)
  (hlt : ∀ listed, HeadInv md ops m listed → listed.getD i true = false → ∀ j ∈ Region.ready md ops listed, j < m)
  (hT : ∀ listed a, T listed a → ∀ j ∈ Region.ready md ops listed, m ≤ j) :
  ∀ (f : Nat) (listed : Array Bool) (a : Act), HeadInv md ops m listed →
   (∀ j oj, ops[j]? = some oj → j ≠ i → listed.getD j true = false → (∀ e ∈ oj.after, Region.binds md e = true → e.on ≠ i) → oi.apart ops oj = true) →
   i ∈ Region.ready md ops listed → YieldsQuiet (FW ro) 0 P ops C oi v a →
   Jdf ro P md ops C m T f (listed.setIfInBounds i true) (a.put oi.dst v) → Jdf ro P md ops C m T (f + 1) listed a := by
 intro f
 induction f with
 | zero =>
  intro listed a inv _ hr hy H
  refine ⟨fun h => (by rw [h] at hr; cases hr), fun j hj => ⟨hlt _ inv (mem_ready.1 hr).1 j hj, ?_⟩⟩
  by_cases hji : j = i
  ·subst hji; exact hy.qOpIn hi H
  ·have h1 := hT _ _ H j (ready_mono hj hji)
   have h2 := hlt _ inv (mem_ready.1 hr).1 j hj
   omega
 | succ f ih =>
  intro listed a inv hfree hr hy H
  refine ⟨fun h => (by rw [h] at hr; cases hr), fun j hj => ?_⟩
  have hjm := hlt _ inv (mem_ready.1 hr).1 j hj
  refine ⟨hjm, ?_⟩
  by_cases hji : j = i
  ·subst hji; exact hy.qOpIn hi H
  ·have h1 := (H.2 j (ready_mono hj hji)).2
   obtain ⟨hjun, oj, hoj, hall⟩ := mem_ready.1 hj
   have hnot : ∀ e ∈ oj.after, Region.binds md e = true → e.on ≠ i := fun e he hb heq => by
    have h2 := hall e he hb
    rw [heq, getD_both (mem_ready.1 hr).1] at h2
    cases h2
   have h2 := qOpIn_put hoj (hfree j oj hoj hji hjun hnot) (fun cs b => hsel i oi cs b hi) (fun cs b => hsel j oj cs b hoj) hy h1
   have hfree' : ∀ k ok, ops[k]? = some ok → k ≠ i → (listed.setIfInBounds j true).getD k true = false →
     (∀ e ∈ ok.after, Region.binds md e = true → e.on ≠ i) → oi.apart ops ok = true := fun k ok hk hki hun hno => by
    refine hfree k ok hk hki ?_ hno
    by_cases hjk : j = k
    ·subst hjk; exact hjun
    ·rw [getD_set_ne true hjk] at hun; exact hun
   refine qOpIn_mono (fun a' h3 => ih (listed.setIfInBounds j true) a' (inv.set hj hjm) hfree' (ready_mono hr (Ne.symm hji)) h3.1 ?_) h2
   rw [Array.setIfInBounds_comm _ _ hji]
   exact h3.2
theorem VK {Q' : Exit → Act → World → Prop} : ∀ (l : List Oper) (k : Nat) (listed : Array Bool) (a : Act) (w : World), (∀ j, l[j]? = ops[k + j]?) →
  Region.seqB md ops l.length k listed = true → wpListIn (FW ro) 0 P ops Q' l a w → wpAnyIn (FW ro) 0 P md ops Q' l.length listed a w
 | [], _, _, _, _, _, hB, h => ⟨by simpa [Region.seqB] using hB, h⟩
 | o :: l, k, listed, a, w, hl, hB, h => by
  have h0 : ops[k]? = some o := by simpa using (hl 0).symm
  simp only [List.length_cons, Region.seqB, Bool.and_eq_true, decide_eq_true_eq] at hB
  refine ⟨fun h1 => (by rw [hB.1] at h1; cases h1), fun i hi => ?_⟩
  rw [hB.1] at hi
  have hik : i = k := by simpa using hi
  subst hik
  have hw : wpOpIn (FW ro) 0 P ops Q' i (wpListIn (FW ro) 0 P ops Q' l) a w := by unfold wpOpIn; simp only [h0]; exact h
  exact wpOpIn_mono (fun a' w' h' => VK l (i + 1) _ a' w' (fun j => by have := hl (j + 1); simpa [Nat.add_assoc, Nat.add_comm 1 j] using this) hB.2 h') hw
theorem vY {m g : Nat} {T : Act → Prop} (hsel : Region.noSelect ops = true) (hlt : ∀ i, i < m → ∀ listed, HeadInv md ops m listed → listed.getD i true = false → ∀ j ∈ Region.ready md ops listed, j < m)
  (hseq : ∀ listed, Region.seqB md ops g m listed = true → ∀ j ∈ Region.ready md ops listed, m ≤ j) :
  ∀ (l : List Oper) (k : Nat) (listed : Array Bool) (a : Act), (∀ j, j < l.length → l[j]? = ops[k + j]?) → k + l.length = m → HeadInv md ops m listed →
  Region.lexHead md ops g l.length k listed = true → wpQuietIn (FW ro) 0 P ops C T l a →
  Jdf ro P md ops C m (fun listed' a' => Region.seqB md ops g m listed' = true ∧ T a') l.length listed a
 | [], k, listed, a, _, hk, _, hB, h => by
  have : k = m := by simpa using hk
  subst this
  exact ⟨by simpa [Region.lexHead] using hB, h⟩
 | o :: l, k, listed, a, hl, hk, inv, hB, h => by
  have h0 : ops[k]? = some o := by simpa using (hl 0 (by simp)).symm
  simp only [List.length_cons, Region.lexHead, Bool.and_eq_true] at hB
  obtain ⟨⟨hr, hf⟩, hB'⟩ := hB
  have hkm : k < m := by simp only [List.length_cons] at hk; omega
  have hr' : k ∈ Region.ready md ops listed := by simpa using hr
  have hst : qOpIn (FW ro) 0 P ops C k (wpQuietIn (FW ro) 0 P ops C T l) a := by unfold qOpIn; simp only [h0]; exact h
  obtain ⟨v, hy, hK⟩ := yieldsQuiet_of_qOpIn h0 hst
  exact yW h0 (Region.noSelect_spec hsel) (hlt k hkm) (fun listed' a' hL => hseq _ hL.1) l.length listed a inv (Region.free_spec h0 hf) hr' hy
   (vY hsel hlt hseq l (k + 1) _ _ (fun j hj => by have := hl (j + 1) (by simp; omega); simpa [Nat.add_assoc, Nat.add_comm 1 j] using this) (by simp only [List.length_cons] at hk; omega) (inv.set hr' hkm) hB' hK)
def Jkg (ops : List Oper) (m : Nat) : Bool :=
 (ops.all fun o => Kq o.op) && Region.noSelect ops.toArray && Nat.ble m ops.length &&
 (Nat.beq m ops.length || (Region.sinkB .any ops.toArray m && Region.chainB .any ops.toArray m)) &&
 Region.lexHead .any ops.toArray (ops.length - m) m 0 (Array.replicate ops.length false)
end
section
variable {c : Cx} {l : KK} {L : Jy} {X : XP} {Q : Exit → Act → World → Prop} {d : List Deferred}
variable {ops : Array Oper} {rest : List Oper} {i : Nat} {v : Value} {o : Oper} {T : Act → Prop}
def HD (c : Cx) (d : List Deferred) (l : KK) (L : Jy) (X : XP) (ops : Array Oper) (rest : List Oper) (T : Act → Prop) : Prop :=
 ∀ a, Fr c.n d l a → wpQuietIn (FW c.ro) 0 c.P ops (St c L X) T rest a
theorem Qs {id : Nat} {ops : List Oper} (m : Nat) (hm : c.P.follows .mixedOrders = true) (hB : Jkg ops m = true)
  (h : HD c d l L X ops.toArray (ops.take m) (fun a' => ∀ w, St c L X w → wpListIn (FW c.ro) 0 c.P ops.toArray Q (ops.drop m) a' w)) : HC c d l L X (.region id ops.toArray true) Q := fun a w hf hs => by
 simp only [Jkg, Bool.and_eq_true, Bool.or_eq_true] at hB
 obtain ⟨⟨⟨⟨h1, hsel⟩, hle⟩, hsc⟩, hlex⟩ := hB
 have hle' := Nat.le_of_ble_eq_true hle
 have hnd : ∀ (j : Nat) (o : Oper), ops.toArray[j]? = some o → Kq o.op = true := fun j o ho => List.all_eq_true.1 h1 o (List.mem_of_getElem? (by simpa using ho))
 have htl : (ops.take m).length = m := by simp; omega
 have hdl : (ops.drop m).length = ops.length - m := by simp
 have hlt : ∀ i, i < m → ∀ listed, HeadInv .any ops.toArray m listed → listed.getD i true = false → ∀ j ∈ Region.ready .any ops.toArray listed, j < m := by
  intro i hi listed inv hun j hj
  rcases Nat.lt_or_ge j m with hjm | hjm
  exact hjm
  have hjs : j < ops.length := by obtain ⟨_, oj, hoj, _⟩ := mem_ready.1 hj; simpa using (Array.getElem?_eq_some_iff.1 hoj).1
  rcases hsc with h0 | ⟨h2, h3⟩
  have := Nat.eq_of_beq_eq_true h0; omega
  exact absurd hj (tail_waits h2 h3 (by simpa using (show m < ops.length by omega)) inv _ i rfl hi hun j hjm)
 have inv0 : HeadInv .any ops.toArray m (Array.replicate ops.length false) :=
  ⟨by simp, fun j oj _ hl => (by rw [getD_replicate_false] at hl; cases hl), fun t _ ht => getD_in (by simpa using ht) (getD_replicate_false _ _)⟩
 have H := vY (ro := c.ro) (P := c.P) (C := St c L X) (md := .any) (g := ops.length - m) hsel hlt (fun listed hq => seqB_ready hq) (ops.take m) 0 _ a
  (fun j hj => by
   have hj' : j < m := by rw [htl] at hj; exact hj
   simp [hj']) (by simpa using htl) inv0 (by rw [htl]; exact hlex) (h a hf)
 refine wpIn_region_any hm ?_
 have := xu (Q' := Q) (g := ops.length - m) hnd (fun listed a' w' hw' hL => by
  have := VK (ro := c.ro) (P := c.P) (md := .any) (Q' := Q) (ops.drop m) m listed a' w' (fun j => by simp [List.getElem?_drop]) (by rw [hdl]; exact hL.1) (hL.2 w' hw')
  rwa [hdl] at this) _ _ _ _ hs.drew H
 rw [htl, show m + (ops.length - m) = ops.toArray.size from by simp; omega] at this
 simpa using this
theorem Q8 {tail : List Oper} (h : HL c d l L X ops tail Q) : HD c d l L X ops [] (fun a' => ∀ w, St c L X w → wpListIn (FW c.ro) 0 c.P ops Q tail a' w) := fun a hf w hs => h a w hf hs
theorem JD (hg : Kx l ops o = some true) (hd : o.dst = some i) (hi : Nat.ble (i + 1) c.n = true) (hr : JP c d l L X o v) (h : HD c d ((i, v) :: l) L X ops rest T) : HD c d l L X ops (o :: rest) T := fun a hf => by
 refine ⟨fun _ _ _ _ => trivial, ?_⟩
 rw [if_pos (JW hf hg)]
 refine ⟨v, fun w hs => ?_, ?_⟩
 ·unfold Oper.quietAtIn; rw [hr a w hf hs]; exact ⟨rfl, rfl⟩
 ·rw [hd]; exact h _ (hf.put (Nat.le_of_ble_eq_true hi))
theorem Q1 (hg : Kx l ops o = some false) (hd : o.dst = some i) (hi : Nat.ble (i + 1) c.n = true) (h : HD c d ((i, undef) :: l) L X ops rest T) : HD c d l L X ops (o :: rest) T := fun a hf => by
 refine ⟨fun _ _ _ _ => trivial, ?_⟩
 rw [if_neg (by rw [JW hf hg]; simp), hd]
 exact h _ (hf.put (Nat.le_of_ble_eq_true hi))
theorem xv {n : Nat} {a : Act} {b b' : Bool} {t : Nat} (hf : Fr n d l a) (ht : QN l t = some (.bool b)) (e : b' = b) : Fr n d ((t, .bool b') :: l) a := hf.weak fun i v hv => by
 simp only [QN] at hv
 by_cases e' : i = t
 ·subst e'; rw [Nat.beq_refl] at hv; subst e; rw [ht]; exact hv
 ·rw [show Nat.beq i t = false from by rw [Bool.eq_false_iff]; exact fun hb => e' (Nat.eq_of_beq_eq_true hb)] at hv; exact hv
theorem Jhq {b : Bool} (t : Nat) (ht : QN l t = some (.bool b)) (h1 : b = true → HD c d ((t, .bool true) :: l) L X ops rest T) (h0 : b = false → HD c d ((t, .bool false) :: l) L X ops rest T) : HD c d l L X ops rest T := fun a hf => by
 cases hb : b with
 | true => exact h1 hb a (xv hf ht hb.symm)
 | false => exact h0 hb a (xv hf ht hb.symm)
theorem VT {f : Operand} {args : Array Operand} {at_ : Array TypeId} {g : FuncId} {vs : List Value} {ty : TypeId} {ps : String} {af : Array Edge} {gd : Option (Nat × Bool)}
  (hg : Kx l ops ⟨some i, .call ⟨.value f, args, at_⟩, ty, ps, af, gd⟩ = some true) (hi : Nat.ble (i + 1) c.n = true) (hca : Qe l f args = some (g, vs)) (eg : Enters c.P g)
  (hp : Pure c.P g vs.toArray v) (h : HD c d ((i, v) :: l) L X ops rest T) : HD c d l L X ops (⟨some i, .call ⟨.value f, args, at_⟩, ty, ps, af, gd⟩ :: rest) T := fun a hf => by
 refine ⟨fun _ _ _ _ => trivial, ?_⟩
 rw [if_pos (JW hf hg)]
 refine ⟨v, fun w hs => ?_, h _ (hf.put (Nat.le_of_ble_eq_true hi))⟩
 unfold Oper.quietAtIn
 rw [Vq hf hca c.P w _ rfl eg]
 refine ⟨rfl, fun hdep => (by cases hdep), ?_⟩
 have hc := callsIn_wide (n := 0) |>.2 (hp.run w)
 refine CallsIn.mono (show CallsIn (FW c.ro) 0 c.P g vs.toArray w _ from hc) ?_
 rintro e w' ⟨rfl, hk⟩
 exact ⟨rfl, hs.more hk⟩
inductive LookAll (l : KK) : KK → Prop
  | nil : LookAll l []
  | cons {i v r} : QN l i = some v → LookAll l r → LookAll l ((i, v) :: r)
theorem oR {A B : Jy} : ∀ q ∈ B, q ∈ A ∨ q ∈ B := fun _ h => Or.inr h
theorem oN {p : Nat × Obj → Prop} : ∀ q ∈ ([] : Jy), p q := fun _ h => nomatch h
theorem lK {l r : KK} (h : r.map (fun p => QN l p.1) = r.map fun p => some p.2) : LookAll l r := by
  induction r with
  | nil => exact .nil
  | cons p r ih => obtain ⟨i, v⟩ := p; simp only [List.map_cons, List.cons.injEq] at h; exact .cons h.1 (ih h.2)
theorem LookAll.get {l : KK} : ∀ {r : KK}, LookAll l r → ∀ i v, QN r i = some v → QN l i = some v
 | _, .nil, i, v, h => by cases h
 | (j, u) :: r, .cons h1 h2, i, v, h => by
  simp only [QN] at h
  by_cases e : i = j
  ·subst e; rw [Nat.beq_refl] at h; simp only [Option.some.injEq] at h; subst h; exact h1
  ·rw [show Nat.beq i j = false from by rw [Bool.eq_false_iff]; exact fun hb => e (Nat.eq_of_beq_eq_true hb)] at h
   exact h2.get i v h
def Jkh {σ : Type} (c : Cx) (d : List Deferred) (I : σ → Prop) (lI : σ → KK) (LI : σ → Jy) (XI : σ → XP) (μ : σ → Nat) (s : σ) (a : Act) (w : World) : Prop :=
 ∃ s', I s' ∧ μ s' < μ s ∧ Fr c.n d (lI s') a ∧ St c (LI s') (XI s') w
theorem JS {σ : Type} {body : Code} (I : σ → Prop) (lI : σ → KK) (LI : σ → Jy) (XI : σ → XP) (μ : σ → Nat) (s0 : σ) (h0 : I s0) (hl : LookAll l (lI s0)) (hL : (LI s0).Sublist L) (hX : ∀ xs w, X xs w → XI s0 xs w)
  (hr : ∀ s, I s → HC c d (lI s) (LI s) (XI s) body (Exit.then (Jkh c d I lI LI XI μ s) Q)) : HC c d l L X (.loop body) Q := fun a w hf hs => by
 have least : ∀ p : Nat → Prop, (∃ m, p m) → ∃ m, p m ∧ ∀ k, p k → m ≤ k := by
  intro p ⟨m, hm⟩
  induction m using Nat.strongRecOn with
  | _ m ih =>
   by_cases hx : ∃ k, k < m ∧ p k
   obtain ⟨k, hk, hp⟩ := hx; exact ih k hk hp
   exact ⟨m, hm, fun k hp => Nat.le_of_not_lt fun hlt => hx ⟨k, hlt, hp⟩⟩
 let p : Act → World → Nat → Prop := fun a w m => ∃ s, I s ∧ Fr c.n d (lI s) a ∧ St c (LI s) (XI s) w ∧ μ s = m
 have meas : ∃ f : Act → World → Nat, ∀ a w, (∃ m, p a w m) → p a w (f a w) ∧ ∀ k, p a w k → f a w ≤ k := by
  have h1 : ∀ a w, ∃ m, (∃ m, p a w m) → p a w m ∧ ∀ k, p a w k → m ≤ k := fun a w => by
   by_cases hx : ∃ m, p a w m
   obtain ⟨m, hm⟩ := least _ hx; exact ⟨m, fun _ => hm⟩
   exact ⟨0, fun hy => absurd hy hx⟩
  exact ⟨fun a w => Classical.choose (h1 a w), fun a w => Classical.choose_spec (h1 a w)⟩
 obtain ⟨f, hfm⟩ := meas
 refine wpIn_loop (fun a w => ∃ m, p a w m) f ⟨μ s0, s0, h0, hf.weak hl.get, (hs.weakL hL).weakX hX, rfl⟩ ?_
 intro a w hp
 obtain ⟨⟨s, h1, h2, h3, h4⟩, _⟩ := hfm a w hp
 refine wpIn_mono (hr s h1 a w h2 h3) ?_
 intro e a' w' hq
 cases e with
 | normal =>
  obtain ⟨s', g1, g2, g3, g4⟩ := hq
  have hp' : p a' w' (μ s') := ⟨s', g1, g3, g4, rfl⟩
  refine ⟨⟨_, hp'⟩, ?_⟩
  have := (hfm a' w' ⟨_, hp'⟩).2 _ hp'
  omega
 | _ => exact hq
theorem JN {σ : Type} {I : σ → Prop} {lI : σ → KK} {LI : σ → Jy} {XI : σ → XP} {μ : σ → Nat} {s : σ} (s' : σ) (h1 : I s') (h2 : μ s' < μ s) (h3 : LookAll l (lI s')) (h4 : (LI s').Sublist L) (h5 : ∀ xs w, X xs w → XI s' xs w) :
  HQ c d l L X (Jkh c d I lI LI XI μ s) := fun _ _ hf hs => ⟨s', h1, h2, hf.weak h3.get, (hs.weakL h4).weakX h5⟩
end
theorem wrap_i64 {z : Int} (h1 : -9223372036854775808 ≤ z) (h2 : z ≤ 9223372036854775807) : IntKind.i64.wrap z = z := by rw [IntKind.wrap_i64]; omega
theorem wrap_u64 {z : Int} (h1 : 0 ≤ z) (h2 : z ≤ 18446744073709551615) : IntKind.u64.wrap z = z := by
 show z % (2 ^ 64 : Int) = z
 omega
theorem xw {z : Int} (h1 : 0 ≤ z) (h2 : z ≤ 255) : IntKind.u8.wrap z = z := by
 show z % (2 ^ 8 : Int) = z
 omega
section
variable {c : Cx} {l : KK} {L : Jy} {X : XP} {Q : Exit → Act → World → Prop} {d : List Deferred} {T : Act → Prop}
variable {ops : Array Oper} {rest : List Oper} {i : Nat} {v : Value} {t : TypeId} {ps : String} {af : Array Edge} {gd : Option (Nat × Bool)} {ty : TypeId}
theorem Ke {z : Int} (h1 : -9223372036854775808 ≤ z) (h2 : z ≤ 9223372036854775807) (h : HL c d ((i, .int .i64 z) :: l) L X ops rest Q) : HL c d ((i, .int .i64 (IntKind.i64.wrap z)) :: l) L X ops rest Q := by rw [wrap_i64 h1 h2]; exact h
theorem QQ {z : Int} (h1 : 0 ≤ z) (h2 : z ≤ 18446744073709551615) (h : HL c d ((i, .int .u64 z) :: l) L X ops rest Q) : HL c d ((i, .int .u64 (IntKind.u64.wrap z)) :: l) L X ops rest Q := by rw [wrap_u64 h1 h2]; exact h
theorem VB {z : Int} (h1 : -9223372036854775808 ≤ z) (h2 : z ≤ 9223372036854775807) (h : HD c d ((i, .int .i64 z) :: l) L X ops rest T) : HD c d ((i, .int .i64 (IntKind.i64.wrap z)) :: l) L X ops rest T := by rw [wrap_i64 h1 h2]; exact h
theorem vZ {z : Int} (h1 : 0 ≤ z) (h2 : z ≤ 18446744073709551615) (h : HD c d ((i, .int .u64 z) :: l) L X ops rest T) : HD c d ((i, .int .u64 (IntKind.u64.wrap z)) :: l) L X ops rest T := by rw [wrap_u64 h1 h2]; exact h
theorem xx {a b : Int} (h1 : 0 ≤ a) (h2 : 0 < b) (h3 : a ≤ 9223372036854775807) : IntKind.i64.wrap (a.tdiv b) = a / b := by
 rw [Int.tdiv_eq_ediv_of_nonneg h1]
 have h4 : a / b ≤ a := Int.ediv_le_self b h1
 have h5 : 0 ≤ a / b := Int.ediv_nonneg h1 (by omega)
 exact wrap_i64 (by omega) (by omega)
theorem Jk8 {a b : Int} (h1 : 0 ≤ a) (h2 : 0 < b) (h3 : a ≤ 9223372036854775807) (h : HL c d ((i, .int .i64 (a / b)) :: l) L X ops rest Q) : HL c d ((i, .int .i64 (IntKind.i64.wrap (a.tdiv b))) :: l) L X ops rest Q := by rw [xx h1 h2 h3]; exact h
theorem Jk9 {a b : Int} (h1 : 0 ≤ a) (h2 : 0 < b) (h3 : a ≤ 9223372036854775807) (h : HD c d ((i, .int .i64 (a / b)) :: l) L X ops rest T) : HD c d ((i, .int .i64 (IntKind.i64.wrap (a.tdiv b))) :: l) L X ops rest T := by rw [xx h1 h2 h3]; exact h
theorem Jla {k : IntKind} {a b : Int} (h1 : 0 ≤ a) (h : HL c d ((i, .int k (a % b)) :: l) L X ops rest Q) : HL c d ((i, .int k (a.tmod b)) :: l) L X ops rest Q := by rw [Int.tmod_eq_emod_of_nonneg h1]; exact h
theorem Jlb {k : IntKind} {a b : Int} (h1 : 0 ≤ a) (h : HD c d ((i, .int k (a % b)) :: l) L X ops rest T) : HD c d ((i, .int k (a.tmod b)) :: l) L X ops rest T := by rw [Int.tmod_eq_emod_of_nonneg h1]; exact h
theorem Wl {v' : Value} (e : v = v') (h : HD c d ((i, v') :: l) L X ops rest T) : HD c d ((i, v) :: l) L X ops rest T := e ▸ h
def qP (P : Program) (t : TypeId) : Option Nat := match P.info? t with | some i => some i.bytes | none => none
theorem Yi {P : Program} {e sz b : Nat} {z : Value} (h1 : Qv P e = some z) (h2 : Qd P e = some sz) (h3 : qP P e = some b) : ∃ i, P.info? e = some i ∧ i.zero = some z ∧ i.size = sz ∧ i.bytes = b := by
 unfold Qv at h1; unfold Qd at h2; unfold qP at h3
 cases hi : P.info? e with
 | none => simp [hi] at h1
 | some i => simp only [hi, Option.some.injEq] at h1 h2 h3; exact ⟨i, rfl, h1, h2, h3⟩
inductive SlOwn (L : Jy) (e sz : Nat) : Value → Nat → List Value → Jy → Prop
  | nil : SlOwn L e sz (.slice none 0 0) 0 [] L
  | own {k r n cap : Nat} {cs : Array Value} {xs : List Value} {L0 : Jy} (h : L[k]? = some (r, .cells cs e (0, 0))) (hx : cs.toList.take (n * sz) = xs) (hl : xs.length = n * sz) (hc : cs.size = cap * sz) (hL : L.eraseIdx k = L0) :
      SlOwn L e sz (.slice (some ⟨r, 0, none⟩) n cap) n xs L0
theorem wa {α : Type} : ∀ {L : List α} {k : Nat} (_ : k < L.length) (a : α), (L.set k a).Perm (a :: L.eraseIdx k)
 | [], k, h, a => by simp at h
 | x :: L, 0, h, a => by simp
 | x :: L, k + 1, h, a => by
  simp only [List.set_cons_succ, List.eraseIdx_cons_succ]
  exact ((wa (by simpa using h) a).cons x).trans (List.Perm.swap a x _)
theorem St.perm {L' : Jy} {w : World} (h : St c L X w) (hp : L.Perm L') : St c L' X w :=
 ⟨h.keep, fun p hm => h.own p (hp.symm.subset hm), (hp.pairwise_iff (fun hab => hab.symm)).1 h.distinct, h.ext, h.xlt, h.x.sub fun p hm => ⟨p.2, hp.symm.subset hm⟩⟩
theorem Yj (r off j : Nat) : (⟨r, off, none⟩ : Addr).add j = ⟨r, off + j, none⟩ := V9 r off j
theorem WP {w : World} {r off : Nat} {cs : Array Value} {e : TypeId} {fr : Nat × Nat} {news : List Value} {n : Nat} (h : w.heap[r]? = some (.cells cs e fr)) (hn : (cs.toList.drop off).take n = news) :
  ∀ (j : Nat) (u : Value), news[j]? = some u → w.cell? ((⟨r, off, none⟩ : Addr).add j) = some u := fun j u hu => by
 subst hn
 rw [Yj, Ve h]
 rw [List.getElem?_take] at hu
 split at hu
 ·rw [List.getElem?_drop] at hu; simpa using hu
 ·cases hu
theorem qd {x y : Operand} {e sz b r2 off2 m c2 e2 n : Nat} {z : Value} {fr2 : Nat × Nat} {cs2 : Array Value} {news xs : List Value} {L0 : Jy}
  (hg : Kx l ops ⟨some i, .call ⟨.builtin .append, #[x, y], #[t, t]⟩, ty, ps, af, gd⟩ = some true) (hi : Nat.ble (i + 1) c.n = true)
  (hx : Kz l x = some v) (hy : Kz l y = some (.slice (some ⟨r2, off2, none⟩) m c2)) (hk2 : known c L r2 (.cells cs2 e2 fr2))
  (ht : KI c.P t = some e) (hz : Qv c.P e = some z) (hs : Qd c.P e = some sz) (hb : qP c.P e = some b) (hzs : z.cells.size = sz) (hsz : 0 < sz)
  (hn : (cs2.toList.drop off2).take (m * sz) = news) (hln : news.length = m * sz) (hone : news.all QX = true) (hm : 0 < m)
  (ho : SlOwn L e sz v n xs L0) (h63 : n + m ≤ 9223372036854775807) (h47 : (n + m) * b ≤ 140737488355328)
  (h : ∀ r' cap' spare, (n + m) * sz + spare.length = cap' * sz → HL c d ((i, .slice (some ⟨r', 0, none⟩) (n + m) cap') :: l) ((r', .cells (xs ++ news ++ spare).toArray e (0, 0)) :: L0) X ops rest Q) :
  HL c d l L X ops (⟨some i, .call ⟨.builtin .append, #[x, y], #[t, t]⟩, ty, ps, af, gd⟩ :: rest) Q := by
 obtain ⟨inf, hinf, hz', hs', hb'⟩ := Yi hz hs hb
 subst hs' hb'
 have hone' : ∀ u ∈ news, u.oneCell' = true := fun u hu => by rw [VJ]; exact List.all_eq_true.1 hone u hu
 refine V7 (α := { p : Nat × Nat × List Value // (n + m) * inf.size + p.2.2.length = p.2.1 * inf.size }) (V := fun p => .slice (some ⟨p.1.1, 0, none⟩) (n + m) p.1.2.1)
  (L' := fun p => (p.1.1, .cells (xs ++ news ++ p.1.2.2).toArray e (0, 0)) :: L0) (X' := fun _ => X) hg rfl rfl hi (fun a w hf hst => ?_) (fun p => h p.1.1 p.1.2.1 p.1.2.2 p.2)
 have hnews := WP (hst.known hk2) hn
 have exec : ∀ r w', (Builtin.append_ #[t, t] ty #[v, .slice (some ⟨r2, off2, none⟩) m c2]).run c.P w = .ok r w' →
   (execOp a.eval ⟨some i, .call ⟨.builtin .append, #[x, y], #[t, t]⟩, ty, ps, af, gd⟩).run c.P w = .ok (.value r) w' := fun r w' hr => by
  have ex := hf.eval hx
  have ey := hf.eval hy
  simp [execOp, resolve, Sem.run_bind, ex, ey, Result.andThen, invoke, builtin, hr]
 have newcase : ∀ (xs : List Value) (L0 : Jy) (old : Nat) (_ : L0.Sublist L) (_ : xs.length = n * inf.size), St c ((w.heap.size, .cells (xs.toArray ++ news.toArray ++ Builtin.zeroCells z.cells (grownCap w (n + m) old e - (n + m))) e (0, 0)) :: L0) X
   (w.drew.alloc (.cells (xs.toArray ++ news.toArray ++ Builtin.zeroCells z.cells (grownCap w (n + m) old e - (n + m))) e)) ∧
   (n + m) * inf.size + (Builtin.zeroCells z.cells (grownCap w (n + m) old e - (n + m))).toList.length = grownCap w (n + m) old e * inf.size := fun xs L0 old hsub hxl => by
  refine ⟨(hst.drew.weakL hsub).alloc _, ?_⟩
  have hge := grownCap_ge w (n + m) old e
  rw [Array.length_toList, size_zeroCells, hzs, ← Nat.add_mul]
  congr 1; omega
 cases ho with
 | nil =>
  have hr := run_append_nil (P := c.P) w t ty e inf z (Kj ht) hinf hz' ⟨r2, off2, none⟩ m c2 news hln hnews hm (by simp at h63; omega) (by simp only [Nat.zero_add] at h47; omega)
  obtain ⟨h1, h2⟩ := newcase [] L 0 (List.Sublist.refl _) (by simp)
  simp only [Nat.zero_add] at h1 h2
  refine ⟨⟨(w.heap.size, grownCap w m 0 e, (Builtin.zeroCells z.cells (grownCap w m 0 e - m)).toList), by simpa using h2⟩, _, exec _ _ (by simpa using hr), ?_⟩
  have e1 : (#[] ++ news.toArray ++ Builtin.zeroCells z.cells (grownCap w m 0 e - m)) = ([] ++ news ++ (Builtin.zeroCells z.cells (grownCap w m 0 e - m)).toList).toArray := by
   apply Array.toList_inj.1; simp
  simp only [Nat.zero_add]
  rw [← e1]
  simpa using h1
 | @own k r n cap cs xs L0 hk hxx hl hc hL =>
  have hget := hst.get hk
  by_cases hroom : n + m ≤ cap
  ·have hfit : n * inf.size + news.length ≤ cs.size := by rw [hln, hc, ← Nat.add_mul]; exact Nat.mul_le_mul_right _ hroom
   have hr := run_append_room (P := c.P) w t ty e inf (Kj ht) hinf r n cap cs hget ⟨r2, off2, none⟩ m c2 news hln hnews hone' hroom hfit
   refine ⟨⟨(r, cap, cs.toList.drop (n * inf.size + news.length)), ?_⟩, _, exec _ _ hr, ?_⟩
   ·simp only [List.length_drop, Array.length_toList]
    rw [hln, hc] at hfit ⊢
    rw [Nat.add_mul]; omega
   ·have h1 := hst.set hk (Keep.setRow r (cs.toList.take (n * inf.size) ++ news ++ cs.toList.drop (n * inf.size + news.length)).toArray) (setRow_heap _ _ _ _ _ _ hget)
    have h2 := h1.perm (wa (by exact (List.getElem?_eq_some_iff.1 hk).1) _)
    rw [hxx, hL] at h2
    rw [hxx]
    exact h2
  ·have holds : ∀ (j : Nat) (u : Value), xs[j]? = some u → w.cell? ((⟨r, 0, none⟩ : Addr).add j) = some u := WP hget (by simpa using hxx)
   have hr := run_append_grow (P := c.P) w t ty e inf z (Kj ht) hinf hz' ⟨r, 0, none⟩ n cap xs hl holds ⟨r2, off2, none⟩ m c2 news hln hnews (by omega) (by omega) (growslice_fits (by omega) h47)
   obtain ⟨h1, h2⟩ := newcase xs L0 cap (by subst hL; exact List.eraseIdx_sublist _ _) hl
   refine ⟨⟨(w.heap.size, grownCap w (n + m) cap e, (Builtin.zeroCells z.cells (grownCap w (n + m) cap e - (n + m))).toList), h2⟩, _, exec _ _ hr, ?_⟩
   have e1 : (xs.toArray ++ news.toArray ++ Builtin.zeroCells z.cells (grownCap w (n + m) cap e - (n + m))) = (xs ++ news ++ (Builtin.zeroCells z.cells (grownCap w (n + m) cap e - (n + m))).toList).toArray := by
    apply Array.toList_inj.1; simp
   rw [← e1]
   exact h1
theorem KA (z : Value) (n : Nat) : madeCells #[z] n = (List.replicate n z).toArray := by
 apply Array.toList_inj.1
 apply List.ext_getElem?
 intro j
 simp only [madeCells, Array.toList_map, Array.toList_range, List.getElem?_map, List.getElem?_replicate]
 by_cases h : j < n
 ·simp [h, List.getElem?_range h, Nat.mod_one]
 ·simp [h]
theorem qQ {x y : Operand} {e b n : Nat} {z : Value} {kx ky : IntKind} (hg : Kx l ops ⟨some i, .makeSlice t x y, ty, ps, af, gd⟩ = some true) (hi : Nat.ble (i + 1) c.n = true)
  (hx : Kz l x = some (.int kx (n : Int))) (hy : Kz l y = some (.int ky (n : Int))) (ht : KI c.P t = some e) (hz : Qv c.P e = some z) (hs : Qd c.P e = some 1) (hb : qP c.P e = some b) (hzs : z.cells = #[z])
  (h48 : b * n ≤ 281474976710656) (h63 : n ≤ 9223372036854775807)
  (h : ∀ r, HL c d ((i, .slice (some ⟨r, 0, none⟩) n n) :: l) ((r, .cells (List.replicate n z).toArray e (0, 0)) :: L) X ops rest Q) : HL c d l L X ops (⟨some i, .makeSlice t x y, ty, ps, af, gd⟩ :: rest) Q := by
 obtain ⟨inf, hinf, hz', hs', hb'⟩ := Yi hz hs hb
 refine V7 (V := fun r => .slice (some ⟨r, 0, none⟩) n n) (L' := fun r => (r, .cells (List.replicate n z).toArray e (0, 0)) :: L) (X' := fun _ => X) hg rfl rfl hi (fun a w hf hst => ?_) h
 refine ⟨w.heap.size, w.alloc (.cells (List.replicate n z).toArray e), ?_, hst.alloc _⟩
 have hr := run_make (P := c.P) w t e inf z (Kj ht) hinf hz' kx ky n n (by omega) (by omega) (by rw [hb']; rw [← Int.natCast_mul]; exact Int.ofNat_le.2 h48) (by omega)
 rw [hs', hzs, Nat.mul_one, KA] at hr
 simp only [Int.toNat_natCast] at hr
 simp only [execOp, Sem.run_bind]
 rw [hf.eval hx, hf.eval hy, hr]
 rfl
theorem VU {P : Program} {t e sz n : Nat} {z : Value} {parts : KK} {r : List Value} (ht : KI P t = some e) (hz : Qv P e = some z) (hs : Qd P e = some sz) (hzs : z.cells.size = sz) (hb : n * sz ≤ 16777216) (h0 : 0 < n * sz)
  (h : XK (fun i => some (i * sz, sz)) (madeCells z.cells (n * sz)).toList (parts.map fun p => (p.1, p.2.cells.toList)) = some r) (w : World) :
  (Instr.buildSlice t n parts.toArray).run P w = .ok (.slice (some ⟨w.heap.size, 0, none⟩) n n) (w.alloc (.cells r.toArray e)) := by
 have hf := ZG (fun i => some (i * sz, sz)) parts (madeCells z.cells (n * sz)) r h
 have n1 : ¬ (n * sz > 2 ^ 24) := by omega
 have n2 : ¬ (n * sz = 0) := by omega
 have n1' : ¬ (16777216 < n * sz) := by omega
 unfold Instr.buildSlice
 simp only [Sem.run_bind, KO (Kj ht), Result.andThen, QG hs, n1, if_false, n2, VS hz, Sem.run_pure]
 have e1 : (Array.range (n * sz)).map (fun x => z.cells[x % z.cells.size]!) = madeCells z.cells (n * sz) := rfl
 simp [hf, newRow, VS hz, e1]
theorem JV {n e sz : Nat} {pa : List (Nat × Operand)} {vs : KK} {r zs : List Value} {z : Value} (hg : Kx l ops ⟨some i, .buildSlice t n pa.toArray, ty, ps, af, gd⟩ = some true) (hi : Nat.ble (i + 1) c.n = true)
  (hp : Wk l pa = some vs) (ht : KI c.P t = some e) (hz : Qv c.P e = some z) (hs : Qd c.P e = some sz) (hzs : z.cells.size = sz) (hb : Nat.ble (n * sz) 16777216 = true) (h0 : Nat.ble 1 (n * sz) = true)
  (hmk : (madeCells z.cells (n * sz)).toList = zs) (hf : XK (fun i => some (i * sz, sz)) zs (Q7 vs) = some r)
  (h : ∀ q, HL c d ((i, .slice (some ⟨q, 0, none⟩) n n) :: l) ((q, .cells r.toArray e (0, 0)) :: L) X ops rest Q) : HL c d l L X ops (⟨some i, .buildSlice t n pa.toArray, ty, ps, af, gd⟩ :: rest) Q := by
 refine V7 (V := fun q => .slice (some ⟨q, 0, none⟩) n n) (L' := fun q => (q, .cells r.toArray e (0, 0)) :: L) (X' := fun _ => X) hg rfl rfl hi (fun a w hfr hst => ⟨w.heap.size, w.alloc (.cells r.toArray e), ?_, hst.alloc _⟩) h
 have h1 := Vs hfr hp
 have h2 : (pa.toArray.map fun (p : Nat × Operand) => (p.1, a.eval p.2)) = vs.toArray := by
  apply Array.toList_inj.1; rw [Array.toList_map]; simpa using h1
 rw [QD] at hf
 subst hmk
 have h3 := VU ht hz hs hzs (Nat.le_of_ble_eq_true hb) (Nat.le_of_ble_eq_true h0) hf w
 rw [← h2] at h3
 simp only [execOp, Sem.run_bind]
 have h4 : (Instr.buildSlice t n (pa.toArray.map fun (i, x) => (i, a.eval x))).run c.P w = .ok (.slice (some ⟨w.heap.size, 0, none⟩) n n) (w.alloc (.cells r.toArray e)) := h3
 rw [h4]; rfl
end
def YI (L : Jy) (w : World) : Prop := ∀ p ∈ L, w.heap[p.1]? = some p.2
theorem Keep.glue {ids xs : List Nat} {a b c : World} (h : Keep ids a b) (k : Keep xs b c) (hs : ∀ i ∈ xs, i ∈ ids ∨ a.heap.size ≤ i) : Keep ids a c :=
 ⟨k.os.trans h.os, k.tape.trans h.tape, k.output.trans h.output, Nat.le_trans h.size k.size, fun i hi hn => (k.block i (Nat.lt_of_lt_of_le hi h.size) fun hm => (hs i hm).elim hn (by omega)).trans (h.block i hi hn)⟩
def YS (P : Program) (q : Nat) (vals : Array Value) (xs : List Nat) (w : World) (XT XF : XP) : Prop :=
 YieldAt (FW none) 0 P q vals w fun e w' => ∃ b xs', e = .returned (.bool b) ∧ (∀ k ∈ xs', k < w'.heap.size ∧ (k ∈ xs ∨ w.heap.size ≤ k)) ∧ Keep xs w w' ∧ Xi xs' (if b = true then XT else XF) w'
def jJ {ι : Type} (P : Program) (gf : FuncId) (caps : List Value) (Rl : Jy) (p0 : ι) (nx : ι → List Value → ι → Prop) (fin : ι → Prop) : Prop :=
 ∀ (q : Nat) (xids : List Nat) (w2 : World) (XI : ι → XP) (XF : XP),
  (∀ p ∈ Rl, p.1 ∉ xids ∧ w2.heap[p.1]? = some p.2) → (∀ k ∈ xids, k < w2.heap.size) → Xi xids (XI p0) w2 →
  (∀ i v i', nx i v i' → ∀ xs w, (∀ k ∈ xs, k < w.heap.size ∧ (k ∈ xids ∨ w2.heap.size ≤ k)) → Keep xids w2 w → Xi xs (XI i) w → YS P q v.toArray xs w (XI i') XF) →
  Calls P gf (.func (.yield q) #[] #[] :: caps).toArray w2 fun e w' => (∃ v, e = .returned v) ∧ Keep xids w2 w' ∧ ((∃ i xs, fin i ∧ XI i xs w') ∨ ∃ xs, XF xs w')
def nxN (vals : Nat → List Value) (N : Nat) : Nat → List Value → Nat → Prop := fun i v i' => i < N ∧ v = vals i ∧ i' = i + 1
def yX (N : Nat) : Nat → Prop := fun i => i = N
section
variable {c : Cx} {l : KK} {L : Jy} {X : XP} {Q : Exit → Act → World → Prop} {d : List Deferred}
variable {ops : Array Oper} {rest : List Oper} {i : Nat} {v : Value} {t : TypeId} {ps : String} {af : Array Edge} {gd : Option (Nat × Bool)} {ty : TypeId}
def Jnd {ι : Type} (P : Program) (gf : FuncId) (caps : List Value) (Rl : Jy) (p0 : ι) (nx : ι → List Value → Jy → ι → Prop) (fin : ι → Prop) : Prop :=
 ∀ (q : Nat) (xids : List Nat) (w2 : World) (XI : ι → XP) (XF : XP),
  (∀ p ∈ Rl, p.1 ∉ xids ∧ w2.heap[p.1]? = some p.2) → (∀ k ∈ xids, k < w2.heap.size) → Xi xids (XI p0) w2 →
  (∀ i v B i', nx i v B i' → ∀ xs w, (∀ k ∈ xs, k < w.heap.size ∧ (k ∈ xids ∨ w2.heap.size ≤ k)) → Keep xids w2 w → Xi xs (XI i) w → YI B w → (∀ p ∈ B, p.1 ∉ xs ∧ p.1 ∉ xids) → YS P q v.toArray xs w (XI i') XF) →
  Calls P gf (.func (.yield q) #[] #[] :: caps).toArray w2 fun e w' => (∃ v, e = .returned v) ∧ Keep xids w2 w' ∧ ((∃ i xs, fin i ∧ XI i xs w') ∨ ∃ xs, XF xs w')
theorem Jbq {B : Jy} {f : Operand} {args : Array Operand} {at_ : Array TypeId} {q : Nat} {vs : List Value} {XT XF : XP}
  (hg : Kx l ops ⟨some i, .call ⟨.value f, args, at_⟩, ty, ps, af, gd⟩ = some true) (hi : Nat.ble (i + 1) c.n = true)
  (hf : Kz l f = some (.func (.yield q) #[] #[])) (ha : evs l args.toList = some vs)
  (hY : ∀ xs w, (∀ k ∈ xs, k < w.heap.size ∧ (k ∈ c.xids ∨ c.w1.heap.size ≤ k)) → Keep (c.ids ++ c.xids) c.w1 w → Xi xs X w → YI B w → (∀ p ∈ B, p.1 ∉ xs ∧ p.1 ∉ c.xids) → YS c.P q vs.toArray xs w XT XF) (hBL : ∀ p ∈ B, p ∈ L)
  (h1 : HL c d ((i, .bool true) :: l) L XT ops rest Q) (h0 : HL c d ((i, .bool false) :: l) L XF ops rest Q) : HL c d l L X ops (⟨some i, .call ⟨.value f, args, at_⟩, ty, ps, af, gd⟩ :: rest) Q := fun a w hfr hs => by
 refine Q0 (JW hfr hg) rfl ?_
 obtain ⟨xs, hx1, hx2⟩ := hs.x
 obtain ⟨fn, tmps, assign, body, hy, hR⟩ := hY xs w (fun k hk => ⟨(hx1 k hk).2.1, (hx1 k hk).1⟩) hs.keep hx2 (fun p hp => (hs.own p (hBL p hp)).2.2) (fun p hp => ⟨fun hm => (hx1 _ hm).2.2 p (hBL p hp) rfl, (hs.own p (hBL p hp)).2.1⟩)
 have h2 := hfr.evals ha
 have h3 : args.map a.eval = vs.toArray := by apply Array.toList_inj.1; rw [Array.toList_map]; simpa using h2
 have h4 : a.eval f = .func (.yield q) #[] #[] := hfr.eval hf
 have hrun : (execOp a.eval ⟨some i, .call ⟨.value f, args, at_⟩, ty, ps, af, gd⟩).run c.P w = .ok (.round q fn tmps assign body) w := by
  simp only [execOp, Sem.run_bind]
  simp [resolve, h3, h4, Deferred.ofValue, Result.andThen, invoke, hy]
 rw [hrun, Oper.uponIn_round]
 refine ⟨fun hdep => (by cases hdep), ?_⟩
 refine RoundIn.mono (show RoundIn (FW c.ro) (0 - 1) c.P q fn tmps assign body w _ from hR) ?_
 rintro e w' ⟨b, xs', rfl, hxs, hk, hb⟩
 have hs' : ∀ X', Xi xs' X' w' → St c L X' w' := fun X' hx => by
  refine ⟨hs.keep.glue hk fun k hm => ?_, fun p hp => ?_, hs.distinct, hs.ext, hs.xlt, xs', fun k hm => ?_, hx⟩
  ·rcases (hx1 k hm).1 with g | g
   ·exact .inl (List.mem_append_right _ g)
   ·exact .inr g
  ·obtain ⟨g1, g2, g3⟩ := hs.own p hp
   exact ⟨g1, g2, (hk.block p.1 (J6 g3) fun hm => (hx1 _ hm).2.2 p hp rfl).trans g3⟩
  ·obtain ⟨g1, g2⟩ := hxs k hm
   refine ⟨g2.elim (fun g => (hx1 k g).1) fun g => .inr (Nat.le_trans hs.keep.size g), g1, fun p hp => ?_⟩
   rcases g2 with g | g
   ·exact (hx1 k g).2.2 p hp
   ·have := J6 (hs.own p hp).2.2; omega
 cases b with
 | true => exact h1 _ w' (hfr.put (Nat.le_of_ble_eq_true hi)) (hs' XT (by simpa using hb))
 | false => exact h0 _ w' (hfr.put (Nat.le_of_ble_eq_true hi)) (hs' XF (by simpa using hb))
theorem VV {f : Operand} {args : Array Operand} {at_ : Array TypeId} {q : Nat} {vs : List Value} {XT XF : XP}
  (hg : Kx l ops ⟨some i, .call ⟨.value f, args, at_⟩, ty, ps, af, gd⟩ = some true) (hi : Nat.ble (i + 1) c.n = true)
  (hf : Kz l f = some (.func (.yield q) #[] #[])) (ha : evs l args.toList = some vs)
  (hY : ∀ xs w, (∀ k ∈ xs, k < w.heap.size ∧ (k ∈ c.xids ∨ c.w1.heap.size ≤ k)) → Keep (c.ids ++ c.xids) c.w1 w → Xi xs X w → YS c.P q vs.toArray xs w XT XF)
  (h1 : HL c d ((i, .bool true) :: l) L XT ops rest Q) (h0 : HL c d ((i, .bool false) :: l) L XF ops rest Q) : HL c d l L X ops (⟨some i, .call ⟨.value f, args, at_⟩, ty, ps, af, gd⟩ :: rest) Q :=
 Jbq (B := []) hg hi hf ha (fun xs w a b e _ _ => hY xs w a b e) (fun _ h => absurd h List.not_mem_nil) h1 h0
def Vh (D : Nat) : Deferred := { target := .collected D, args := #[] }
theorem V8 {fn : Func} {R : Ending → World → Prop} {P : Program} {D k : Nat} {L' : Jy} (hk : L[k]? = some (D, .deferred (some []))) (hL : L.set k (D, .deferred none) = L')
  (h : HQ c d l L' X (bodyPostM (FW none) 0 P fn R .ret)) : HQ c (Vh D :: d) l L X (bodyPostM (FW none) 0 P fn R .ret) := fun a w hf hs => by
 subst hL
 have hget := hs.get hk
 have hs' := hs.set hk (Keep.putObj D (.deferred none)) (World.putObj_heap_same (J6 hget))
 have h1 := h { tmps := a.tmps, defers := d } _ ⟨hf.size, rfl, hf.slots⟩ hs'
 show LeavesInM _ _ _ _ _ _ _ _ _
 rw [hf.defers]
 exact ⟨by simp, .inl ⟨D, _, rfl, run_takeDeferred hget, h1⟩⟩
theorem St.jump {w w' : World} {L' : Jy} {xs : List Nat} (h : St c L X w) (hk : Keep xs w w') (hx : ∀ k ∈ xs, ∃ o, (k, o) ∈ L) (hd : L'.Pairwise fun p q => p.1 ≠ q.1)
  (hL : ∀ p ∈ L', ((∃ o, (p.1, o) ∈ L) ∨ w.heap.size ≤ p.1) ∧ w'.heap[p.1]? = some p.2) : St c L' X w' := by
 refine ⟨h.keep.glue hk fun k hm => ?_, fun p hp => ?_, hd, h.ext, h.xlt, ?_⟩
 ·obtain ⟨o, ho⟩ := hx k hm
  exact ((h.own _ ho).1).imp (fun g => List.mem_append_left _ g) id
 ·obtain ⟨g, h2⟩ := hL p hp
  rcases g with ⟨o, ho⟩ | g
  ·obtain ⟨g1, g2, _⟩ := h.own _ ho
   exact ⟨g1, g2, h2⟩
  ·exact ⟨.inr (Nat.le_trans h.keep.size g), fun hm => by have := h.xlt _ hm; have := h.keep.size; omega, h2⟩
 ·obtain ⟨ys, h1, h2⟩ := h.x
  refine ⟨ys, fun i hi => ⟨(h1 i hi).1, Nat.lt_of_lt_of_le (h1 i hi).2.1 hk.size, fun p hp => ?_⟩, fun w2 hw2 => h2 w2 fun i hi => (hw2 i hi).trans (hk.block i (h1 i hi).2.1 fun hm => ?_)⟩
  ·rcases (hL p hp).1 with ⟨o, ho⟩ | g
   ·exact (h1 i hi).2.2 (p.1, o) ho
   ·have := (h1 i hi).2.1; omega
  ·obtain ⟨o, ho⟩ := hx i hm
   exact (h1 i hi).2.2 _ ho rfl
def wb (L : Jy) : List Nat → Jy
 | [] => []
 | j :: js => match WM L j with | some p => p :: wb L js | none => wb L js
theorem Xm {L : Jy} : ∀ {js : List Nat} {p : Nat × Obj}, p ∈ wb L js → ∃ j ∈ js, L[j]? = some p
 | j :: js, p, h => by
  simp only [wb, WN] at h
  cases hj : L[j]? with
  | none => simp only [hj] at h; obtain ⟨k, hk, hp⟩ := Xm h; exact ⟨k, List.mem_cons_of_mem _ hk, hp⟩
  | some q =>
   simp only [hj] at h
   rcases List.mem_cons.1 h with rfl | h
   ·exact ⟨j, List.mem_cons_self, hj⟩
   ·obtain ⟨k, hk, hp⟩ := Xm h; exact ⟨k, List.mem_cons_of_mem _ hk, hp⟩
theorem St.sel {w : World} (h : St c L X w) (js : List Nat) (hn : js.Nodup) : St c (wb L js) X w := by
 refine ⟨h.keep, fun p hp => ?_, ?_, h.ext, h.xlt, h.x.sub fun p hp => let ⟨_, _, hj⟩ := Xm hp; ⟨p.2, List.mem_of_getElem? hj⟩⟩
 ·obtain ⟨j, _, hj⟩ := Xm hp; exact h.own p (List.mem_of_getElem? hj)
 ·have hdist := h.distinct
  clear h
  induction js with
  | nil => exact List.Pairwise.nil
  | cons j js ih =>
   simp only [wb, WN]
   cases hj : L[j]? with
   | none => exact ih (List.nodup_cons.1 hn).2
   | some q =>
    refine List.pairwise_cons.2 ⟨fun p hp => ?_, ih (List.nodup_cons.1 hn).2⟩
    obtain ⟨k, hk, hp'⟩ := Xm hp
    exact WO hdist hj hp' fun e => (List.nodup_cons.1 hn).1 (e ▸ hk)
theorem ZU {code : Code} (js : List Nat) {L' : Jy} (hn : js.Nodup) (hL : wb L js = L') (h : HC c d l L' X code Q) : HC c d l L X code Q := fun a w hf hs => h a w hf (hL ▸ hs.sel js hn)
theorem VW {K : Act → World → Prop} (js : List Nat) {L' : Jy} (hn : js.Nodup) (hL : wb L js = L') (h : HQ c d l L' X K) : HQ c d l L X K := fun a w hf hs => h a w hf (hL ▸ hs.sel js hn)
def ZV : List Nat → List Value → KK → KK
 | p :: ps, v :: vs, l => ZV ps vs ((p, v) :: l)
 | _, _, l => l
theorem yY {n : Nat} : ∀ (pp : List Nat) (vs : List Value) (l : KK) (tm : Array Value), (∀ p ∈ pp, p < n) → Fr n [] l { tmps := tm, defers := [] } →
  Fr n [] (ZV pp vs l) { tmps := (pp.zip vs).foldl (fun (t : Array Value) (pv : Nat × Value) => t.setIfInBounds pv.1 pv.2) tm, defers := [] }
 | [], vs, l, tm, _, h => by cases vs <;> simpa [ZV] using h
 | p :: pp, [], l, tm, _, h => by simpa [ZV] using h
 | p :: pp, v :: vs, l, tm, hp, h => by
  simp only [ZV, List.zip_cons_cons, List.foldl_cons]
  exact yY pp vs _ _ (fun q hq => hp q (List.mem_cons_of_mem _ hq)) (h.put (hp p List.mem_cons_self))
def jI (c : Cx) (q : Nat) (w3 : World) (M : List Nat) (Lk : Jy) : Cx := ⟨c.P, some q, w3, M, [q], Lk ++ c.R, c.n⟩
def KL (L : Jy) : List Nat := L.map (·.1)
def W8 (q : Nat) (r : Loop) : XP := fun _ w => w.heap[q]? = some (.loop r)
theorem St.recd {q : Nat} {r : Loop} {w : World} (h : St c L (W8 q r) w) : w.heap[q]? = some (.loop r) := let ⟨_, h⟩ := h.now; h
def Xn {σ τ : Type} (c3 : Cx) (Xb : XP) (I : σ → Prop) (LI : σ → Jy) (E : Code → τ → Prop) (LE : τ → Jy) : Exit → Act → World → Prop
 | .normal, _, w => ∃ s, I s ∧ St c3 (LI s) Xb w
 | .ret, _, w => ∃ s, E .ret s ∧ St c3 (LE s) Xb w
 | .exit id, _, w => ∃ s, E (.exit id) s ∧ St c3 (LE s) Xb w
 | _, _, _ => False
def xy (c3 : Cx) (Xr Xb : XP) (body : Code) (Qb : Exit → Act → World → Prop) (K : Act → World → Prop) : Prop :=
 ∀ l L, HC c3 [] l L Xb body Qb → HQ c3 [] l L Xr K
theorem Zk {σ τ : Type} {c3 : Cx} {q : Nat} {r : Loop} {I : σ → Prop} {LI : σ → Jy} {E : Code → τ → Prop} {LE : τ → Jy} {R : Ending → World → Prop}
  (h1 : ∀ s w, I s → St c3 (LI s) (W8 q { r with state := .busy }) w → R (.returned (.bool true)) (w.putObj q (.loop { r with state := .ready, pending := none })))
  (h2 : ∀ j s w, E j s → St c3 (LE s) (W8 q { r with state := .busy }) w → R (.returned (.bool false)) (w.putObj q (.loop { r with state := .done, pending := some j })))
  (e : Exit) (a : Act) (w : World) (h : Xn c3 (W8 q { r with state := .busy }) I LI E LE e a w) : roundPost c3.P q R e a w := by
 have hend : ∀ (w : World) (jump : Option Code), w.heap[q]? = some (.loop { r with state := .busy }) → (Instr.endRound q jump).run c3.P w = .ok (.bool jump.isNone) (w.putObj q (.loop { r with state := if jump.isNone then .ready else .done, pending := jump })) := fun w jump hw => run_endRound (r := { r with state := .busy }) jump hw
 cases e with
 | normal => obtain ⟨s, hs, hst⟩ := h; exact ⟨_, _, hend w none hst.recd, h1 s w hs hst⟩
 | ret => obtain ⟨s, hs, hst⟩ := h; exact ⟨_, _, hend w (some .ret) hst.recd, h2 _ s w hs hst⟩
 | exit id => obtain ⟨s, hs, hst⟩ := h; exact ⟨_, _, hend w (some (.exit id)) hst.recd, h2 _ s w hs hst⟩
 | goto t => exact h.elim
 | panic ch => exact h.elim
 | outgrown => exact h.elim
def wc {σ : Type} (q B : Nat) (M : List Nat) (rec : Loop) (I : σ → Prop) (LI : σ → Jy) : XP := fun xs w =>
 (∃ s, I s ∧ (LI s).Pairwise (fun p q => p.1 ≠ q.1) ∧ (∀ p ∈ LI s, p.1 ∈ M ∨ B ≤ p.1) ∧ YI (LI s) w ∧ xs = q :: KL (LI s)) ∧ w.heap[q]? = some (.loop rec)
theorem Vi {σ : Type} {q B : Nat} {M : List Nat} {rec : Loop} {I : σ → Prop} {LI : σ → Jy} {w : World} (s : σ) (h1 : I s) (h2 : (LI s).Pairwise (fun p q => p.1 ≠ q.1)) (h3 : ∀ p ∈ LI s, p.1 ∈ M ∨ B ≤ p.1) (h4 : YI (LI s) w)
  (h5 : w.heap[q]? = some (.loop rec)) : Xi (q :: KL (LI s)) (wc q B M rec I LI) w := fun w' hw' =>
 ⟨⟨s, h1, h2, h3, fun p hp => (hw' p.1 (List.mem_cons_of_mem _ (List.mem_map_of_mem (f := (·.1)) hp))).trans (h4 p hp), rfl⟩, (hw' q List.mem_cons_self).trans h5⟩
theorem Jbr {ι σ τ : Type} {f : Operand} {pp : List Nat} {assign body : Code} {gf : FuncId} {caps : List Value} {Rl : Jy} {p0 : ι} {nx : ι → List Value → Jy → ι → Prop} {fi : ι → Prop}
  (I : ι → σ → Prop) (LI : σ → Jy) (E : Code → τ → Prop) (LE : τ → Jy) (Lk : Jy) (s0 : σ)
  (hro : c.ro = none) (hf : Kz l f = some (.func (.func gf) #[] caps.toArray)) (eg : Enters c.P gf) (hit : Jnd c.P gf caps Rl p0 nx fi) (hlen : ∀ i v B i', nx i v B i' → v.length = pp.length) (hpp : pp.all (Nat.blt · c.n) = true)
  (hRl : ∀ p ∈ Rl, p ∈ Lk ∨ p ∈ c.R) (hL : L = LI s0 ++ Lk) (h0 : I p0 s0)
  (hround : ∀ (q : Nat) (Xr Xb : XP) (w3 : World) (i : ι) (v : List Value) (B : Jy) (i' : ι) (s : σ), nx i v B i' → I i s → ∀ K, xy (jI c q w3 (KL (LI s)) (B ++ Lk)) Xr Xb body (Xn (jI c q w3 (KL (LI s)) (B ++ Lk)) Xb (I i') LI E LE) K →
   HC (jI c q w3 (KL (LI s)) (B ++ Lk)) [] (ZV pp v l) (LI s) Xr assign (Exit.then K fun _ _ _ => False))
  (hdone : ∀ D i s, fi i → I i s → HQ c (Vh D :: d) l ((D, .deferred (some [])) :: (LI s ++ Lk)) X (Q .normal))
  (hstop : ∀ D j s, E j s → HC c (Vh D :: d) l ((D, .deferred (some [])) :: (LE s ++ Lk)) X j Q) :
  HC c d l L X (.rangeFunc f pp.toArray assign body) Q := fun a w hfr hs => by
 subst hL
 refine wpIn_rangeFunc ?_
 intro fn _
 have e0 : (FW c.ro).round = none := by rw [hro]; rfl
 rw [e0]
 obtain ⟨r, hr⟩ : ∃ r : Loop, r = { state := .ready, pending := none, fn, tmps := a.tmps, params := pp.toArray, assign, body, defers := w.heap.size } := ⟨_, rfl⟩
 obtain ⟨w2, hw2⟩ : ∃ w2, (w.alloc (.deferred (some []))).alloc (.loop r) = w2 := ⟨_, rfl⟩
 have hq : (w.alloc (.deferred (some []))).heap.size = w.heap.size + 1 := World.size_alloc _ _
 have hs2 : St c ((w.heap.size + 1, .loop r) :: (w.heap.size, .deferred (some [])) :: (LI s0 ++ Lk)) X w2 := by
  have := (hs.alloc (.deferred (some []))).alloc (.loop r)
  rw [hq, hw2] at this
  exact this
 have hq2 : w2.heap[w.heap.size + 1]? = some (.loop r) := (hs2.own _ List.mem_cons_self).2.2
 have hrr : ({ r with state := .ready, pending := none } : Loop) = r := by rw [hr]
 obtain ⟨M, hM⟩ : ∃ M, KL (LI s0) = M := ⟨_, rfl⟩
 refine ⟨w.heap.size + 1, [Vh w.heap.size], w2, { target := .fn (.func gf) caps.toArray, args := #[.func (.yield (w.heap.size + 1)) #[] #[]] }, w2, gf, (.func (.yield (w.heap.size + 1)) #[] #[] :: caps).toArray, w2, ?_, ?_, fun _ _ => trivial, ?_, fun hdep => (by cases hdep), ?_⟩
 rw [← hw2, hr]; exact run_enterLoop_outer _ _ _ _ _
 have := hfr.eval hf
 simp only [resolve, this]
 simp [Deferred.ofValue]
 rfl
 have := eg (#[.func (.yield (w.heap.size + 1)) #[] #[]] ++ caps.toArray) w2
 have e1 : (#[Value.func (.yield (w.heap.size + 1)) #[] #[]] ++ caps.toArray) = (Value.func (.yield (w.heap.size + 1)) #[] #[] :: caps).toArray := by apply Array.toList_inj.1; simp
 rw [e1] at this
 simpa [invoke] using this
 ·-- the iterator's contract at our invariant
  have hown := hs2.distinct
  have hMown : ∀ k ∈ M, ∃ o, (k, o) ∈ LI s0 := fun k hk => by
   rw [← hM] at hk
   obtain ⟨p, hp, rfl⟩ := List.mem_map.1 hk
   exact ⟨p.2, hp⟩
  have hpw := List.pairwise_cons.1 hown
  have hpw2 := List.pairwise_cons.1 hpw.2
  have hpw3 := List.pairwise_append.1 hpw2.2
  have hsz2 : w2.heap.size = w.heap.size + 2 := by rw [← hw2, World.size_alloc, World.size_alloc]
  have hLk2 : ∀ p ∈ Lk, p.1 < w2.heap.size := fun p hp => J6 (hs2.own p (List.mem_cons_of_mem _ (List.mem_cons_of_mem _ (List.mem_append_right _ hp)))).2.2
  have hMk : ∀ p ∈ Lk, p.1 ∉ M ∧ p.1 ≠ w.heap.size + 1 := fun p hp => ⟨fun hm => by
   obtain ⟨o, ho⟩ := hMown _ hm
   exact hpw3.2.2 _ ho _ hp rfl, fun e => hpw.1 p (List.mem_cons_of_mem _ (List.mem_append_right _ hp)) e.symm⟩
  have hMq : w.heap.size + 1 ∉ M := fun hm => by
   obtain ⟨o, ho⟩ := hMown _ hm
   exact hpw.1 _ (List.mem_cons_of_mem _ (List.mem_append_left _ ho)) rfl
  have hMD : w.heap.size ∉ M := fun hm => by
   obtain ⟨o, ho⟩ := hMown _ hm
   exact hpw2.1 _ (List.mem_append_left _ ho) rfl
  have hMlt : ∀ k ∈ M, k < w2.heap.size := fun k hk => by
   obtain ⟨o, ho⟩ := hMown _ hk
   exact J6 (hs2.own _ (List.mem_cons_of_mem _ (List.mem_cons_of_mem _ (List.mem_append_left _ ho)))).2.2
  -- what a place of one's own is apart from
  have apart : ∀ {k : Nat}, (k ∈ M ∨ w2.heap.size ≤ k) → k ≠ w.heap.size + 1 ∧ k ≠ w.heap.size ∧ (∀ p ∈ Lk, p.1 ≠ k) := fun {k} hk => by
   rcases hk with hk | hk
   exact ⟨fun e => hMq (e ▸ hk), fun e => hMD (e ▸ hk), fun p hp e => (hMk p hp).1 (e ▸ hk)⟩
   exact ⟨by omega, by omega, fun p hp e => by have := hLk2 p hp; omega⟩
  have apartR : ∀ {k : Nat}, (k ∈ M ∨ w2.heap.size ≤ k) → ∀ p ∈ c.R, p.1 ≠ k := fun {k} hk p hp e => by
   obtain ⟨e1, _, e3⟩ := hs2.ext p hp
   have h1 := J6 e3
   have h2 := hs.keep.size
   rcases hk with hk | hk
   obtain ⟨o, ho⟩ := hMown _ hk
   rcases (hs2.own _ (List.mem_cons_of_mem _ (List.mem_cons_of_mem _ (List.mem_append_left _ ho)))).1 with g | g
   exact e1 (e ▸ g)
   simp only at g; omega
   omega
  have hcalls := hit (w.heap.size + 1) ((w.heap.size + 1) :: M) w2 (fun i => wc (w.heap.size + 1) w2.heap.size M r (I i) LI)
   (fun xs w' => ∃ j, wc (w.heap.size + 1) w2.heap.size M { r with state := .done, pending := some j } (E j) LE xs w')
   (fun p hp => by
    rcases hRl p hp with hL | hR
    refine ⟨fun hm => ?_, (hs2.own p (List.mem_cons_of_mem _ (List.mem_cons_of_mem _ (List.mem_append_right _ hL)))).2.2⟩
    obtain ⟨h1, h2⟩ := hMk p hL
    rcases List.mem_cons.1 hm with hm | hm
    exact h2 hm
    exact h1 hm
    refine ⟨fun hm => ?_, hs2.readR hR⟩
    rcases List.mem_cons.1 hm with hm | hm
    have h1 := J6 (hs2.ext p hR).2.2
    have h2 := hs.keep.size
    omega
    exact apartR (.inl hm) p hR rfl)
   (fun k hk => by
    rcases List.mem_cons.1 hk with rfl | hk
    exact J6 hq2
    exact hMlt k hk)
   (by
    have := Vi (q := w.heap.size + 1) (B := w2.heap.size) (M := M) (rec := r) (I := I p0) (LI := LI) s0 h0 hpw3.1 (fun p hp => .inl (by rw [← hM]; exact List.mem_map_of_mem (f := (·.1)) hp)) (fun p hp => (hs2.own _ (List.mem_cons_of_mem _ (List.mem_cons_of_mem _ (List.mem_append_left _ hp)))).2.2) hq2
    rw [hM] at this
    exact this)
   ?_
  ·refine CallsIn.mono (show CallsIn (FW c.ro) (0 - 1) c.P gf _ w2 _ from callsIn_wide (n := 0) |>.2 hcalls) ?_
   rintro e w' ⟨⟨v, rfl⟩, hk, hfin⟩
   have fin : ∀ (st : LoopState) (pe : Option Code) (LL : Jy), st ≠ .busy → LL.Pairwise (fun p q => p.1 ≠ q.1) → (∀ p ∈ LL, p.1 ∈ M ∨ w2.heap.size ≤ p.1) → YI LL w' → w'.heap[w.heap.size + 1]? = some (.loop { r with state := st, pending := pe }) →
     (Instr.endLoop (w.heap.size + 1)).run c.P w' = .ok pe (w'.putObj (w.heap.size + 1) (.loop { r with state := .exhausted, pending := pe })) ∧
     St c ((w.heap.size, .deferred (some [])) :: (LL ++ Lk)) X (w'.putObj (w.heap.size + 1) (.loop { r with state := .exhausted, pending := pe })) := by
    intro st pe LL hst hpwL hLM hLL hl
    refine ⟨run_endLoop hl hst, ?_⟩
    have hk2 : Keep ((w.heap.size + 1) :: M) w2 (w'.putObj (w.heap.size + 1) (.loop { r with state := .exhausted, pending := pe })) :=
     hk.trans ((Keep.putObj _ _).weak fun k hm => by simp at hm; subst hm; exact List.mem_cons_self)
    have hput : ∀ k, k ≠ w.heap.size + 1 → (w'.putObj (w.heap.size + 1) (.loop { r with state := .exhausted, pending := pe })).heap[k]? = w'.heap[k]? := fun k hne => World.putObj_heap_other hne
    refine hs2.jump hk2 (fun k hm => ?_) ?_ (fun p hp => ?_)
    rcases List.mem_cons.1 hm with rfl | hm
    exact ⟨_, List.mem_cons_self⟩
    obtain ⟨o, ho⟩ := hMown k hm
    exact ⟨o, List.mem_cons_of_mem _ (List.mem_cons_of_mem _ (List.mem_append_left _ ho))⟩
    refine List.pairwise_cons.2 ⟨fun p hp => ?_, List.pairwise_append.2 ⟨hpwL, hpw3.2.1, fun p hp p' hp' => ?_⟩⟩
    rcases List.mem_append.1 hp with hp | hp
    exact fun e => (apart (hLM p hp)).2.1 e.symm
    exact hpw2.1 p (List.mem_append_right _ hp)
    exact fun e => (apart (hLM p hp)).2.2 p' hp' e.symm
    rcases List.mem_cons.1 hp with rfl | hp
    refine ⟨.inl ⟨_, List.mem_cons_of_mem _ List.mem_cons_self⟩, ?_⟩
    rw [hput _ (by simp)]
    refine (hk.block w.heap.size (J6 (hs2.own _ (List.mem_cons_of_mem _ List.mem_cons_self)).2.2) ?_).trans (hs2.own _ (List.mem_cons_of_mem _ List.mem_cons_self)).2.2
    simp only [List.mem_cons, not_or]; exact ⟨by omega, hMD⟩
    rcases List.mem_append.1 hp with hp | hp
    refine ⟨?_, ?_⟩
    rcases hLM p hp with g | g
    obtain ⟨o, ho⟩ := hMown _ g
    exact .inl ⟨o, List.mem_cons_of_mem _ (List.mem_cons_of_mem _ (List.mem_append_left _ ho))⟩
    exact .inr g
    rw [hput _ (apart (hLM p hp)).1]
    exact hLL p hp
    have hmem := List.mem_cons_of_mem (w.heap.size + 1, Obj.loop r) (List.mem_cons_of_mem (w.heap.size, Obj.deferred (some [])) (List.mem_append_right (LI s0) hp))
    refine ⟨.inl ⟨p.2, hmem⟩, ?_⟩
    obtain ⟨g1, g2⟩ := hMk p hp
    rw [hput _ g2]
    refine (hk.block p.1 (J6 (hs2.own _ hmem).2.2) ?_).trans (hs2.own _ hmem).2.2
    simp only [List.mem_cons, not_or]; exact ⟨g2, g1⟩
   have hfr2 : Fr c.n (Vh w.heap.size :: d) l { tmps := a.tmps, defers := [Vh w.heap.size] ++ a.defers } := ⟨hfr.size, by simp [hfr.defers], hfr.slots⟩
   rcases hfin with ⟨i, xs, hi, ⟨s, h1, h2, h3, h4, _⟩, h5⟩ | ⟨xs, j, ⟨s, h1, h2, h3, h4, _⟩, h5⟩
   obtain ⟨g1, g2⟩ := fin .ready none (LI s) (by simp) h2 h3 h4 (by rw [hrr]; exact h5)
   exact ⟨none, _, g1, hdone _ i s hi h1 _ _ hfr2 g2⟩
   ·obtain ⟨g1, g2⟩ := fin .done (some j) (LE s) (by simp) h2 h3 h4 h5
    exact ⟨some j, _, g1, hstop _ j s h1 _ _ hfr2 g2⟩
  ·-- a round
   rintro i v B i' hi xs w3 hxs hk3 hfoot hB hBx
   obtain ⟨⟨s, h1, hpwS, hMS, h2, rfl⟩, h3⟩ := hfoot w3 fun _ _ => rfl
   have hargs : v.toArray.size = r.params.size := by rw [hr]; simpa using hlen i v B i' hi
   have hy := run_yield (P := c.P) (args := v.toArray) h3 hargs
   refine ⟨_, _, _, _, hy, ?_⟩
   obtain ⟨c3, hc3⟩ : ∃ c3, jI c (w.heap.size + 1) w3 (KL (LI s)) (B ++ Lk) = c3 := ⟨_, rfl⟩
   have hc3x : c3.xids = [w.heap.size + 1] := by rw [← hc3]; rfl
   have hc3i : c3.ids = KL (LI s) := by rw [← hc3]; rfl
   have hc3w : c3.w1 = w3 := by rw [← hc3]; rfl
   have hmemS : ∀ p ∈ LI s, p.1 ∈ KL (LI s) := fun p hp => List.mem_map_of_mem (f := (·.1)) hp
   have hidS : ∀ {k : Nat}, k ∈ KL (LI s) → k ∈ M ∨ w2.heap.size ≤ k := fun {k} hk => by
    obtain ⟨p, hp, rfl⟩ := List.mem_map.1 hk
    exact hMS p hp
   have hst3 : St c3 (LI s) (W8 (w.heap.size + 1) r) w3 := by
    subst hc3
    refine ⟨Keep.refl _ _, fun p hp => ⟨.inl (hmemS p hp), ?_, h2 p hp⟩, hpwS, ?_, ?_, [w.heap.size + 1], fun k hk => ?_, fun w' hw' => (hw' _ (by simp)).trans h3⟩
    simp only [jI, List.mem_singleton]; exact (apart (hMS p hp)).1
    intro p hp
    simp only [jI] at hp ⊢
    rcases List.mem_append.1 hp with hp | hp
    rcases List.mem_append.1 hp with hp | hp
    obtain ⟨b1, _⟩ := hBx p hp
    exact ⟨fun hm => b1 (List.mem_cons_of_mem _ hm), by simp only [List.mem_singleton]; exact fun e => b1 (by rw [e]; exact List.mem_cons_self), hB p hp⟩
    obtain ⟨g1, g2⟩ := hMk p hp
    refine ⟨fun hm => (apart (hidS hm)).2.2 p hp rfl, by simpa using g2, ?_⟩
    have hmem := List.mem_cons_of_mem (w.heap.size + 1, Obj.loop r) (List.mem_cons_of_mem (w.heap.size, Obj.deferred (some [])) (List.mem_append_right (LI s0) hp))
    exact (hk3.block p.1 (J6 (hs2.own _ hmem).2.2) (by simp only [List.mem_cons, not_or]; exact ⟨g2, g1⟩)).trans (hs2.own _ hmem).2.2
    have e3 := hs2.readR hp
    have hlt := J6 (hs2.ext p hp).2.2
    have hsz := hs.keep.size
    have hnq : p.1 ≠ w.heap.size + 1 := fun e => by omega
    refine ⟨fun hm => apartR (hidS hm) p hp rfl, by simpa using hnq, ?_⟩
    exact (hk3.block p.1 (J6 e3) (by simp only [List.mem_cons, not_or]; exact ⟨hnq, fun hm => apartR (.inl hm) p hp rfl⟩)).trans e3
    intro k hk; simp only [jI, List.mem_singleton] at hk; subst hk; exact J6 h3
    simp only [List.mem_singleton] at hk
    subst hk
    exact ⟨.inl (by simp [jI]), J6 h3, fun p hp => (apart (hMS p hp)).1⟩
   have hbusy : ∀ {LL : Jy} {w' : World}, St c3 LL (W8 (w.heap.size + 1) r) w' →
     St c3 LL (W8 (w.heap.size + 1) { r with state := .busy, pending := none }) (w'.putObj (w.heap.size + 1) (.loop { r with state := .busy, pending := none })) := by
    intro LL w' hst
    have hlt : w.heap.size + 1 < w'.heap.size := J6 hst.recd
    refine ⟨hst.keep.trans ((Keep.putObj _ _).weak fun k hm => by simp at hm; subst hm; rw [hc3x]; simp), fun p hp => ?_, hst.distinct, hst.ext, hst.xlt, [w.heap.size + 1], fun k hk => ?_, fun w'' hw'' => (hw'' _ (by simp)).trans (World.putObj_heap_same hlt)⟩
    obtain ⟨g1, g2, g3⟩ := hst.own p hp
    refine ⟨g1, g2, (World.putObj_heap_other ?_).trans g3⟩
    intro e; exact g2 (by rw [e, hc3x]; simp)
    simp only [List.mem_singleton] at hk
    subst hk
    exact ⟨.inl (by rw [hc3x]; simp), Nat.lt_of_lt_of_le hlt (Keep.putObj _ _).size, fun p hp e => (hst.own p hp).2.1 (by rw [hc3x, e]; simp)⟩
   have hfr3 : Fr c3.n [] (ZV pp v l) { tmps := (r.params.zip v.toArray).foldl (fun (t : Array Value) (pv : Nat × Value) => t.setIfInBounds pv.1 pv.2) r.tmps, defers := [] } := by
    have h5 := yY (n := c.n) pp v l a.tmps (fun p hp => by have := List.all_eq_true.1 hpp p hp; simpa using this) ⟨hfr.size, rfl, hfr.slots⟩
    rw [hr, ← hc3]
    simp only [List.zip_toArray, List.foldl_toArray']
    exact h5
   have key : ∀ RR : Ending → World → Prop,
     (∀ s' w', I i' s' → St c3 (LI s') (W8 (w.heap.size + 1) { r with state := .busy, pending := none }) w' → RR (.returned (.bool true)) (w'.putObj (w.heap.size + 1) (.loop { r with state := .ready, pending := none }))) →
     (∀ j s' w', E j s' → St c3 (LE s') (W8 (w.heap.size + 1) { r with state := .busy, pending := none }) w' → RR (.returned (.bool false)) (w'.putObj (w.heap.size + 1) (.loop { r with state := .done, pending := some j }))) →
     RoundIn (FW none) 0 c.P (w.heap.size + 1) r.fn ((r.params.zip v.toArray).foldl (fun (t : Array Value) (pv : Nat × Value) => t.setIfInBounds pv.1 pv.2) r.tmps) r.assign r.body w3 RR := by
    intro RR g1 g2
    refine roundIn_of_wpIn (F := FW none) trivial ?_
    have hround' := hround (w.heap.size + 1) (W8 (w.heap.size + 1) r) (W8 (w.heap.size + 1) { r with state := .busy, pending := none }) w3 i v B i' s hi h1
     (fun a₁ w₁ => ∃ w₂, (Instr.beginRound (w.heap.size + 1)).run c.P w₁ = .ok () w₂ ∧ body.wpIn ((FW none).inRound (w.heap.size + 1)) 0 c.P (roundPost c.P (w.heap.size + 1) RR) a₁ w₂)
    rw [hc3] at hround'
    have hround'' := hround' (fun l' L' hb a₁ w₁ hf₁ hs₁ => ?_) _ w3 hfr3 hst3
    have e1 : r.assign = assign := by rw [hr]
    have e2 : r.body = body := by rw [hr]
    have e3 : c3.P = c.P := by rw [← hc3]; rfl
    have e4 : c3.ro = some (w.heap.size + 1) := by rw [← hc3]; rfl
    rw [e3, e4] at hround''
    rw [e1, e2]
    exact hround''
    have hx1 : w₁.heap[w.heap.size + 1]? = some (.loop r) := hs₁.recd
    refine ⟨_, run_beginRound hx1 (by rw [hr]), ?_⟩
    have hb2 := hb a₁ _ hf₁ (hbusy hs₁)
    have hb3 : ({ r with state := .busy } : Loop) = { r with state := .busy, pending := none } := by rw [hr]
    rw [hb3]
    have e3 : c3.P = c.P := by rw [← hc3]; rfl
    have e4 : c3.ro = some (w.heap.size + 1) := by rw [← hc3]; rfl
    rw [e3, e4] at hb2
    refine wpIn_mono (show body.wpIn ((FW none).inRound (w.heap.size + 1)) 0 c.P _ a₁ _ from hb2) ?_
    have := Zk (c3 := c3) (q := w.heap.size + 1) (r := { r with pending := none }) (R := RR) g1 g2
    rw [e3] at this
    exact this
   have turn : ∀ (st : LoopState) (pe : Option Code) (LL : Jy) (w' : World), St c3 LL (W8 (w.heap.size + 1) { r with state := .busy, pending := none }) w' →
     (∀ k ∈ (w.heap.size + 1) :: KL LL, k < (w'.putObj (w.heap.size + 1) (.loop { r with state := st, pending := pe })).heap.size ∧ (k ∈ (w.heap.size + 1) :: KL (LI s) ∨ w3.heap.size ≤ k)) ∧
     Keep ((w.heap.size + 1) :: KL (LI s)) w3 (w'.putObj (w.heap.size + 1) (.loop { r with state := st, pending := pe })) ∧ (∀ p ∈ LL, p.1 ∈ M ∨ w2.heap.size ≤ p.1) ∧ YI LL (w'.putObj (w.heap.size + 1) (.loop { r with state := st, pending := pe })) ∧
     (w'.putObj (w.heap.size + 1) (.loop { r with state := st, pending := pe })).heap[w.heap.size + 1]? = some (.loop { r with state := st, pending := pe }) := by
    intro st pe LL w' hst'
    have hlt : w.heap.size + 1 < w'.heap.size := J6 hst'.recd
    have hk' := hst'.keep
    rw [hc3x, hc3i, hc3w] at hk'
    have hown' : ∀ p ∈ LL, (p.1 ∈ KL (LI s) ∨ w3.heap.size ≤ p.1) ∧ p.1 ≠ w.heap.size + 1 ∧ w'.heap[p.1]? = some p.2 := fun p hp => by
     have := hst'.own p hp
     rw [hc3x, hc3i, hc3w] at this
     simpa using this
    refine ⟨fun k hk => ?_, ?_, fun p hp => ?_, fun p hp => (World.putObj_heap_other (hown' p hp).2.1).trans (hown' p hp).2.2, World.putObj_heap_same hlt⟩
    rcases List.mem_cons.1 hk with rfl | hk
    exact ⟨Nat.lt_of_lt_of_le hlt (Keep.putObj _ _).size, .inl List.mem_cons_self⟩
    obtain ⟨p, hp, rfl⟩ := List.mem_map.1 hk
    obtain ⟨e1, e2, e3⟩ := hown' p hp
    exact ⟨Nat.lt_of_lt_of_le (J6 e3) (Keep.putObj _ _).size, e1.imp (List.mem_cons_of_mem _) id⟩
    refine (hk'.weak fun k hm => ?_).trans ((Keep.putObj _ _).weak fun k hm => by simp at hm; subst hm; exact List.mem_cons_self)
    rcases List.mem_append.1 hm with hm | hm
    exact List.mem_cons_of_mem _ hm
    simp only [List.mem_singleton] at hm; subst hm; exact List.mem_cons_self
    rcases (hown' p hp).1 with g | g
    exact hidS g
    exact .inr (Nat.le_trans hk3.size g)
   refine key _ ?_ ?_
   intro s' w' hI' hst'
   obtain ⟨t1, t2, t3, t4, t5⟩ := turn .ready none (LI s') w' hst'
   refine ⟨true, _, rfl, t1, t2, ?_⟩
   rw [if_pos rfl]
   exact Vi s' hI' hst'.distinct t3 t4 (by rw [hrr] at t5 ⊢; exact t5)
   ·intro j s' w' hE' hst'
    obtain ⟨t1, t2, t3, t4, t5⟩ := turn .done (some j) (LE s') w' hst'
    refine ⟨false, _, rfl, t1, t2, ?_⟩
    rw [if_neg (by simp)]
    exact fun w'' hw'' => ⟨j, Vi s' hE' hst'.distinct t3 t4 t5 w'' hw''⟩
theorem W9 {ι σ τ : Type} {f : Operand} {pp : List Nat} {assign body : Code} {gf : FuncId} {caps : List Value} {Rl : Jy} {p0 : ι} {nx : ι → List Value → ι → Prop} {fi : ι → Prop}
  (I : ι → σ → Prop) (LI : σ → Jy) (E : Code → τ → Prop) (LE : τ → Jy) (Lk : Jy) (s0 : σ)
  (hro : c.ro = none) (hf : Kz l f = some (.func (.func gf) #[] caps.toArray)) (eg : Enters c.P gf) (hit : jJ c.P gf caps Rl p0 nx fi) (hlen : ∀ i v i', nx i v i' → v.length = pp.length) (hpp : pp.all (Nat.blt · c.n) = true)
  (hRl : ∀ p ∈ Rl, p ∈ Lk ∨ p ∈ c.R) (hL : L = LI s0 ++ Lk) (h0 : I p0 s0)
  (hround : ∀ (q : Nat) (Xr Xb : XP) (w3 : World) (i : ι) (v : List Value) (i' : ι) (s : σ), nx i v i' → I i s → ∀ K, xy (jI c q w3 (KL (LI s)) Lk) Xr Xb body (Xn (jI c q w3 (KL (LI s)) Lk) Xb (I i') LI E LE) K →
   HC (jI c q w3 (KL (LI s)) Lk) [] (ZV pp v l) (LI s) Xr assign (Exit.then K fun _ _ _ => False))
  (hdone : ∀ D i s, fi i → I i s → HQ c (Vh D :: d) l ((D, .deferred (some [])) :: (LI s ++ Lk)) X (Q .normal))
  (hstop : ∀ D j s, E j s → HC c (Vh D :: d) l ((D, .deferred (some [])) :: (LE s ++ Lk)) X j Q) :
  HC c d l L X (.rangeFunc f pp.toArray assign body) Q :=
 Jbr (nx := fun i v B i' => nx i v i' ∧ B = []) I LI E LE Lk s0 hro hf eg (fun q xids w2 XI XF a b e h => hit q xids w2 XI XF a b e fun i v i' hn xs w h1 h2 h3 => h i v [] i' ⟨hn, rfl⟩ xs w h1 h2 h3 (fun _ h => absurd h List.not_mem_nil) (fun _ h => absurd h List.not_mem_nil)) (fun i v B i' h => hlen i v i' h.1) hpp hRl hL h0 (fun q Xr Xb w3 i v B i' s h hI K hK => by obtain ⟨h, rfl⟩ := h; exact hround q Xr Xb w3 i v i' s h hI K hK) hdone hstop
theorem Jdg {ι σ τ : Type} {f : Operand} {pp : List Nat} {assign body : Code} {gf : FuncId} {caps : List Value} {Rl : Jy} {p0 : ι} {nx : ι → List Value → ι → Prop} {fi : ι → Prop}
  (I : ι → σ → Prop) (LI : σ → Jy) (E : Code → τ → Prop) (LE : τ → Jy) (Lk : Jy) (s0 : σ)
  (hro : c.ro = none) (hf : Kz l f = some (.func (.func gf) #[] caps.toArray)) (eg : Enters c.P gf) (hit : jJ c.P gf caps Rl p0 nx fi) (hlen : ∀ i v i', nx i v i' → v.length = pp.length) (hpp : pp.all (Nat.blt · c.n) = true)
  (hRl : ∀ p ∈ Rl, p ∈ Lk) (hL : L = LI s0 ++ Lk) (h0 : I p0 s0)
  (hround : ∀ (q : Nat) (Xr Xb : XP) (w3 : World) (i : ι) (v : List Value) (i' : ι) (s : σ), nx i v i' → I i s → ∀ K, xy (jI c q w3 (KL (LI s)) Lk) Xr Xb body (Xn (jI c q w3 (KL (LI s)) Lk) Xb (I i') LI E LE) K →
   HC (jI c q w3 (KL (LI s)) Lk) [] (ZV pp v l) (LI s) Xr assign (Exit.then K fun _ _ _ => False))
  (hdone : ∀ D i s, fi i → I i s → HQ c (Vh D :: d) l ((D, .deferred (some [])) :: (LI s ++ Lk)) X (Q .normal))
  (hstop : ∀ D j s, E j s → HC c (Vh D :: d) l ((D, .deferred (some [])) :: (LE s ++ Lk)) X j Q) :
  HC c d l L X (.rangeFunc f pp.toArray assign body) Q :=
 W9 I LI E LE Lk s0 hro hf eg hit hlen hpp (fun p hp => .inl (hRl p hp)) hL h0 hround hdone hstop
end
def lookE (eq : Value → Value → Bool) (k : Value) : List MapEntry → Nat → Option (Nat × Value)
 | [], _ => none
 | e :: es, i => if eq k e.key then some (i, e.val) else lookE eq k es (i + 1)
def WQ (e : MapEntry) : Value × Value := (e.key, e.val)
def Qp (eq : Value → Value → Bool) (k : Value) : List (Value × Value) → Option Value
 | [] => none
 | (k', v) :: r => if eq k k' then some v else Qp eq k r
structure KeyL (P : Program) (kt : TypeId) (dom : Value → Prop) (eq : Value → Value → Bool) : Prop where
  now : ∃ dsc, P.underlying kt = some dsc ∧ ∀ a b, dom a → dom b → Instr.sameNow dsc a b = none ∨ Instr.sameNow dsc a b = some (eq a b)
  equal : ∀ a b w, dom a → dom b → (Op.equal kt a b).run P w = .ok (eq a b) w
  check : ∀ a b w, dom a → (Instr.checkKey b 10000 kt a).run P w = .ok () w
theorem YJ (eq : Value → Value → Bool) (k : Value) : ∀ (es : List MapEntry) (i : Nat), (lookE eq k es i).map (·.2) = Qp eq k (es.map WQ)
 | [], _ => rfl
 | e :: es, i => by
  simp only [lookE, List.map_cons, WQ, Qp]
  split
  ·rfl
  ·exact YJ eq k es (i + 1)
theorem Zl {P : Program} {kt : TypeId} {dom : Value → Prop} {eq : Value → Value → Bool} (K : KeyL P kt dom eq) {k : Value} (hk : dom k) {es : List MapEntry} (he : ∀ e ∈ es, dom e.key) (w : World) :
  (Instr.findKey kt k es).run P w = .ok (lookE eq k es 0) w := by
 obtain ⟨dsc, hu, hn⟩ := K.now
 have h1 : ∀ (es : List MapEntry) (i : Nat), (∀ e ∈ es, dom e.key) → (Instr.findAsking kt k es i).run P w = .ok (lookE eq k es i) w := by
  intro es
  induction es with
  | nil => intro i _; rfl
  | cons e es ih =>
   intro i he
   simp only [Instr.findAsking, Sem.run_bind, K.equal k e.key w hk (he e List.mem_cons_self), Result.andThen, lookE]
   split
   ·rfl
   ·exact ih (i + 1) fun e' h' => he e' (List.mem_cons_of_mem _ h')
 have h2 : ∀ (es : List MapEntry) (i : Nat), (∀ e ∈ es, dom e.key) → ∀ r, Instr.findNow dsc k es i = some r → r = lookE eq k es i := by
  intro es
  induction es with
  | nil => intro i _ r h; simp only [Instr.findNow, Option.some.injEq] at h; subst h; rfl
  | cons e es ih =>
   intro i he r h
   simp only [Instr.findNow] at h
   rcases hn k e.key hk (he e List.mem_cons_self) with h' | h'
   ·rw [h'] at h; cases h
   ·rw [h'] at h
    simp only [lookE]
    cases hb : eq k e.key with
    | true => rw [hb] at h; simp only [Option.some.injEq] at h; subst h; rfl
    | false => rw [hb] at h; simp only at h; simpa using ih (i + 1) (fun e' h' => he e' (List.mem_cons_of_mem _ h')) r h
 unfold Instr.findKey
 simp only [Sem.run_bind, KO hu, Result.andThen]
 split
 ·rename_i r hr; rw [h2 es 0 he r hr]; rfl
 ·exact h1 es 0 he
def ZW (P : Program) (t : TypeId) : Option (TypeId × TypeId) := match P.underlying t with | some (.map k e) => some (k, e) | _ => none
theorem xz {P : Program} {t k e : Nat} (h : ZW P t = some (k, e)) : P.underlying t = some (.map k e) := by
 unfold ZW at h; split at h <;> simp_all
theorem yZ {P : Program} {w : World} {t kt et : TypeId} {r clock : Nat} {es : Array MapEntry} {k z : Value} {dom : Value → Prop} {eq : Value → Value → Bool} (K : KeyL P kt dom eq) (ht : ZW P t = some (kt, et)) (hz : Qv P et = some z)
  (hr : w.heap[r]? = some (.map es clock)) (hk : dom k) (he : ∀ e ∈ es.toList, dom e.key) (ok : Bool) :
  (Instr.lookup t (.map (some r)) k ok).run P w = .ok (if ok then .tuple #[((Qp eq k (es.toList.map WQ)).getD z), .bool (Qp eq k (es.toList.map WQ)).isSome] else (Qp eq k (es.toList.map WQ)).getD z) w := by
 have hget : (getObj r).run P w = .ok (.map es clock) w := by simp [getObj, Sem.run, hr]
 rw [← YJ eq k es.toList 0]
 unfold Instr.lookup
 simp only [Sem.run_bind, KO (xz ht), Result.andThen, hget, Sem.run_pure, K.check k _ w hk, Zl K hk he w]
 cases lookE eq k es.toList 0 with
 | none => simp [VS hz]
 | some p => simp
theorem ZX {P : Program} {w : World} {t kt et : TypeId} {r clock : Nat} {es : Array MapEntry} {k v : Value} {dom : Value → Prop} {eq : Value → Value → Bool} (K : KeyL P kt dom eq) (ht : ZW P t = some (kt, et))
  (hr : w.heap[r]? = some (.map es clock)) (hk : dom k) (he : ∀ e ∈ es.toList, dom e.key) (hn : Qp eq k (es.toList.map WQ) = none) :
  (Instr.mapUpdate t (.map (some r)) k v).run P w = .ok () (w.putObj r (.map (es.push { key := k, val := v, born := clock }) (clock + 1))) := by
 have hget : (getObj r).run P w = .ok (.map es clock) w := by simp [getObj, Sem.run, hr]
 have hl : lookE eq k es.toList 0 = none := by
  have := YJ eq k es.toList 0
  rw [hn] at this
  cases h : lookE eq k es.toList 0 with
  | none => rfl
  | some p => rw [h] at this; cases this
 unfold Instr.mapUpdate
 simp only [Sem.run_bind, KO (xz ht), Result.andThen, hget, K.check k _ w hk, Zl K hk he w, hl]
 simp [setObj, Sem.run, hr, World.putObj]
theorem Zm {eq : Value → Value → Bool} {k : Value} : ∀ {kv : List (Value × Value)}, Qp eq k kv = none ↔ ∀ p ∈ kv, eq k p.1 = false
 | [] => by simp [Qp]
 | (k', v) :: r => by
  simp only [Qp, List.mem_cons, forall_eq_or_imp]
  cases h : eq k k' with
  | true => simp
  | false => simpa using Zm (kv := r)
theorem wd {eq : Value → Value → Bool} {k : Value} {kv kv' : List (Value × Value)} (hp : kv.Perm kv') (hd : kv.Pairwise fun p q => ¬ (eq k p.1 = true ∧ eq k q.1 = true)) : Qp eq k kv = Qp eq k kv' := by
 induction hp with
 | nil => rfl
 | cons x _ ih =>
  simp only [Qp]
  split
  ·rfl
  ·exact ih (List.pairwise_cons.1 hd).2
 | swap x y l =>
  have h1 := (List.pairwise_cons.1 hd).1 x List.mem_cons_self
  simp only [Qp]
  cases hx : eq k x.1 <;> cases hy : eq k y.1 <;> simp_all
 | trans h1 h2 ih1 ih2 => rw [ih1 hd, ih2 ((h1.pairwise_iff (fun hab hc => hab ⟨hc.2, hc.1⟩)).1 hd)]
section
variable {c : Cx} {l : KK} {L : Jy} {X : XP} {Q : Exit → Act → World → Prop} {d : List Deferred}
variable {ops : Array Oper} {rest : List Oper} {i : Nat} {v : Value} {t : TypeId} {ps : String} {af : Array Edge} {gd : Option (Nat × Bool)} {ty : TypeId}
theorem Vb {x y : Operand} {kt et r clock : Nat} {es : Array MapEntry} {k z : Value} {dom : Value → Prop} {eq : Value → Value → Bool} {ok : Bool} (K : KeyL c.P kt dom eq) (hx : Kz l x = some (.map (some r))) (hy : Kz l y = some k) (hk : known c L r (.map es clock))
  (ht : ZW c.P t = some (kt, et)) (hz : Qv c.P et = some z) (hd : dom k) (he : ∀ e ∈ es.toList, dom e.key) (hv : (if ok then .tuple #[((Qp eq k (es.toList.map WQ)).getD z), .bool (Qp eq k (es.toList.map WQ)).isSome] else (Qp eq k (es.toList.map WQ)).getD z) = v) :
  JP c d l L X ⟨some i, .lookup t x y ok, ty, ps, af, gd⟩ v := fun a w hf hs => by
 simp only [execOp, Sem.run_bind]; rw [hf.eval hx, hf.eval hy, yZ K ht hz (hs.known hk) hd he ok, hv]; rfl
theorem qf : ∀ (l : List Bool) (i : Nat), l[i]? = some false → (l.set i true).count false + 1 = l.count false
 | [], i, h => by simp at h
 | b :: l, 0, h => by simp only [List.getElem?_cons_zero, Option.some.injEq] at h; subst h; simp
 | b :: l, i + 1, h => by
  simp only [List.getElem?_cons_succ] at h
  have := qf l i h
  simp only [List.set_cons_succ, List.count_cons]
  omega
theorem xA {ro : Option Nat} {P : Program} (Inv : Array Bool → Act → World → Prop)
  (hstep : ∀ listed a w i, Inv listed a w → i ∈ Region.ready .any ops listed → wpOpIn (FW ro) 0 P ops Q i (fun a' w' => Inv (listed.setIfInBounds i true) a' w') a w)
  (hend : ∀ listed a w, Inv listed a w → Region.ready .any ops listed = [] → Q .normal a w) :
  ∀ (fuel : Nat) (listed : Array Bool) (a : Act) (w : World), Inv listed a w → listed.size = ops.size → listed.toList.count false = fuel → wpAnyIn (FW ro) 0 P .any ops Q fuel listed a w
 | 0, listed, a, w, h, hs, hc => by
  have hr : Region.ready .any ops listed = [] := by
   cases hr : Region.ready .any ops listed with
   | nil => rfl
   | cons i r =>
    exfalso
    have h1 := (mem_ready.1 (hr ▸ List.mem_cons_self : i ∈ Region.ready .any ops listed)).1
    have h2 : i < listed.size := by
     rcases Nat.lt_or_ge i listed.size with h2 | h2
     ·exact h2
     ·simp [Array.getElem?_eq_none h2] at h1
    have : false ∈ listed.toList := by
     rw [List.mem_iff_getElem?]
     exact ⟨i, by simp [h2] at h1 ⊢; exact h1⟩
    have := List.count_pos_iff.2 this
    omega
  exact ⟨hr, hend _ _ _ h hr⟩
 | fuel + 1, listed, a, w, h, hs, hc => ⟨fun hr => hend _ _ _ h hr, fun i hi => by
  refine wpOpIn_mono (fun a' w' h' => xA Inv hstep hend fuel _ a' w' h' (by simpa using hs) ?_) (hstep _ _ _ i h hi)
  have h1 := (mem_ready.1 hi).1
  have h2 : i < listed.size := by
   rcases Nat.lt_or_ge i listed.size with h2 | h2
   ·exact h2
   ·simp [Array.getElem?_eq_none h2] at h1
  have := qf listed.toList i (by simp [h2] at h1 ⊢; exact h1)
  simp only [Array.toList_setIfInBounds]
  omega⟩
end
def qR : List Edge → Nat → Bool
 | [], _ => false
 | e :: es, j => match Region.binds .any e, Nat.beq e.on j with | true, true => true | _, _ => qR es j
def Wu (o : Oper) (j : Nat) : Bool := qR o.after.toList j
theorem we {o : Oper} {j : Nat} (h : Wu o j = true) : ∃ e ∈ o.after, Region.binds .any e = true ∧ e.on = j := by
 unfold Wu at h
 have key : ∀ (l : List Edge), qR l j = true → ∃ e ∈ l, Region.binds .any e = true ∧ e.on = j := by
  intro l
  induction l with
  | nil => intro h; cases h
  | cons e l ih =>
   intro h
   simp only [qR] at h
   split at h
   ·rename_i h1 h2; exact ⟨e, List.mem_cons_self, h1, Nat.eq_of_beq_eq_true h2⟩
   ·obtain ⟨e', he', h'⟩ := ih h; exact ⟨e', List.mem_cons_of_mem _ he', h'⟩
 obtain ⟨e, he, h'⟩ := key _ h
 exact ⟨e, Array.mem_toList_iff.1 he, h'⟩
def Jld (pu : List (Nat × Nat × Value)) (o : Oper) : KK := (pu.filter fun p => Wu o p.1).map (·.2)
theorem Jbs {pu : List (Nat × Nat × Value)} {o : Oper} {i : Nat} {v : Value} (h : QN (Jld pu o) i = some v) : ∃ p ∈ pu, Wu o p.1 = true ∧ p.2 = (i, v) := by
 unfold Jld at h
 induction pu with
 | nil => cases h
 | cons p r ih =>
  rw [List.filter_cons] at h
  split at h
  ·rename_i hw
   simp only [List.map_cons, QN] at h
   by_cases e : i = p.2.1
   ·subst e; rw [Nat.beq_refl] at h; simp only [Option.some.injEq] at h
    exact ⟨p, List.mem_cons_self, hw, by rw [← h]⟩
   ·rw [show Nat.beq i p.2.1 = false from by rw [Bool.eq_false_iff]; exact fun hb => e (Nat.eq_of_beq_eq_true hb)] at h
    obtain ⟨q, hq, h1, h2⟩ := ih h; exact ⟨q, List.mem_cons_of_mem _ hq, h1, h2⟩
  ·obtain ⟨q, hq, h1, h2⟩ := ih h; exact ⟨q, List.mem_cons_of_mem _ hq, h1, h2⟩
theorem Jw {α : Type} {l : List α} {n : Nat} {x : α} (h : WM l n = some x) : x ∈ l := by rw [WN] at h; exact List.mem_of_getElem? h
inductive MLit (c : Cx) (d : List Deferred) (t m : Nat) (pu : List (Nat × Nat × Value)) (ins : List (Nat × Value × Value)) (mv : List (Nat × Nat)) : Nat → Oper → Prop
  | mk {ty : TypeId} {ps : String} {af : Array Edge} : MLit c d t m pu ins mv 0 ⟨some m, .makeMap t none, ty, ps, af, none⟩
  | pure {i s : Nat} {v : Value} {o : Oper} (h : (i, s, v) ∈ pu) (hd : o.dst = some s) (hg : o.guard = none) (hn : Kq o.op = true) (hr : JP c d (Jld pu o) [] (fun _ _ => True) o v) : MLit c d t m pu ins mv i o
  | ins {i j1 j2 ks vs : Nat} {k v : Value} {ty : TypeId} {ps : String} {af : Array Edge} (h : (i, k, v) ∈ ins) (h1 : (j1, ks, k) ∈ pu) (h2 : (j2, vs, v) ∈ pu)
      (hw0 : Wu ⟨none, .insert t (.tmp m) (.tmp ks) (.tmp vs), ty, ps, af, none⟩ 0 = true) (hw1 : Wu ⟨none, .insert t (.tmp m) (.tmp ks) (.tmp vs), ty, ps, af, none⟩ j1 = true)
      (hw2 : Wu ⟨none, .insert t (.tmp m) (.tmp ks) (.tmp vs), ty, ps, af, none⟩ j2 = true) : MLit c d t m pu ins mv i ⟨none, .insert t (.tmp m) (.tmp ks) (.tmp vs), ty, ps, af, none⟩
  | mv {i s x : Nat} {o : Oper} (h : (i, s) ∈ mv) (hd : o.dst = some s) (hg : o.guard = none) (hop : o.op = .move (.tmp x) ∨ o.op = .assign (.tmp x)) (hw : Wu o 0 = true) (hx : x = m ∨ ∃ j, (j, x) ∈ mv ∧ Wu o j = true) : MLit c d t m pu ins mv i o
structure PureE {α : Type} (P : Program) (f : FuncId) (args : Array Value) (V : α → Value) (LL : α → Jy) : Prop where
  run : ∀ w, Calls P f args w fun e w' => ∃ x, e = .returned (V x) ∧ Keep [] w w' ∧ (∀ p ∈ LL x, w.heap.size ≤ p.1 ∧ w'.heap[p.1]? = some p.2) ∧ (LL x).Pairwise fun p q => p.1 ≠ q.1
theorem St.freshs {c : Cx} {L : Jy} {X : XP} {w w' : World} (h : St c L X w) (k : Keep [] w w') : ∀ {LL : Jy}, (∀ p ∈ LL, w.heap.size ≤ p.1 ∧ w'.heap[p.1]? = some p.2) → (LL.Pairwise fun p q => p.1 ≠ q.1) → St c (LL ++ L) X w'
 | [], _, _ => h.more k
 | p :: LL, h1, h2 => by
  have ih := h.freshs k (fun q hq => h1 q (List.mem_cons_of_mem _ hq)) (List.pairwise_cons.1 h2).2
  obtain ⟨g1, g2⟩ := h1 p List.mem_cons_self
  refine ⟨ih.keep, fun q hq => ?_, List.pairwise_cons.2 ⟨fun q hq => ?_, ih.distinct⟩, ih.ext, ih.xlt, ?_⟩
  rotate_left 2
  ·obtain ⟨xs, e1, e2⟩ := h.x
   refine ⟨xs, fun i hi => ⟨(e1 i hi).1, Nat.lt_of_lt_of_le (e1 i hi).2.1 k.size, fun q hq => ?_⟩, fun w2 hw2 => e2 w2 fun i hi => (hw2 i hi).trans (k.block i (e1 i hi).2.1 (by simp))⟩
   have h3 := (e1 i hi).2.1
   rcases List.mem_append.1 hq with hq | hq
   ·have := (h1 q hq).1; omega
   ·exact (e1 i hi).2.2 q hq
  ·rcases List.mem_cons.1 hq with rfl | hq
   ·exact ⟨.inr (Nat.le_trans h.keep.size g1), fun hx => (by have := h.xlt _ hx; have := h.keep.size; omega), g2⟩
   ·exact ih.own q hq
  ·rcases List.mem_append.1 hq with hq | hq
   ·exact (List.pairwise_cons.1 h2).1 q hq
   ·have := J6 (h.own q hq).2.2
    omega
section
variable {c : Cx} {l : KK} {L : Jy} {X : XP} {Q : Exit → Act → World → Prop} {d : List Deferred}
structure MInv (c : Cx) (d : List Deferred) (l : KK) (L : Jy) (X : XP) (m : Nat) (pu : List (Nat × Nat × Value)) (ins : List (Nat × Value × Value)) (mv : List (Nat × Nat)) (N : Nat) (listed : Array Bool) (a : Act) (w : World) : Prop where
  lsz : listed.size = N
  size : a.tmps.size = c.n
  defers : a.defers = d
  base : ∀ i v, QN l i = some v → a.tmps[i]? = some v
  pure : ∀ p ∈ pu, listed.getD p.1 false = true → a.tmps[p.2.1]? = some p.2.2
  world : (listed.getD 0 false = false ∧ (∀ p ∈ ins, listed.getD p.1 false = false) ∧ (∀ p ∈ mv, listed.getD p.1 false = false) ∧ St c L X w) ∨
    ∃ r es, listed.getD 0 false = true ∧ a.tmps[m]? = some (.map (some r)) ∧ (∀ p ∈ mv, listed.getD p.1 false = true → a.tmps[p.2]? = some (.map (some r))) ∧ St c ((r, .map es es.size) :: L) X w ∧
      (es.toList.map WQ).Perm ((ins.filter fun p => listed.getD p.1 false).map (·.2)) ∧ es.toList.map (·.born) = List.range es.size
theorem Jdh (listed : Array Bool) (i j : Nat) (hi : i < listed.size) : (listed.setIfInBounds i true).getD j false = (if j = i then true else listed.getD j false) := by
 by_cases h : j = i
 ·subst h; simp [hi]
 ·rw [if_neg h]; exact getD_set_ne false (fun e => h e.symm)
theorem zc {ins : List (Nat × Value × Value)} {i : Nat} {k v : Value} {f : Nat → Bool} (hn : (ins.map (·.1)).Nodup) (h : (i, k, v) ∈ ins) (hf : f i = false) :
  (ins.filter fun p => if p.1 = i then true else f p.1).Perm ((i, k, v) :: ins.filter fun p => f p.1) := by
 induction ins with
 | nil => cases h
 | cons p r ih =>
  rw [List.map_cons, List.nodup_cons] at hn
  rcases List.mem_cons.1 h with rfl | h
  ·have h1 : (r.filter fun p => if p.1 = i then true else f p.1) = r.filter fun p => f p.1 := by
    apply List.filter_congr
    intro q hq
    have : q.1 ≠ i := fun e => hn.1 (by simpa [e] using List.mem_map_of_mem (f := (·.1)) hq)
    simp [this]
   rw [List.filter_cons, List.filter_cons, h1]
   simp [hf]
  ·have hpi : p.1 ≠ i := fun e => hn.1 (by rw [e]; simpa using List.mem_map_of_mem (f := (·.1)) h)
   simp only [List.filter_cons, hpi, if_false]
   cases hfp : f p.1 with
   | true => simpa using ((ih hn.2 h).cons p).trans (List.Perm.swap _ _ _)
   | false => simpa using ih hn.2 h
theorem Jbt {id : Nat} {ops : List Oper} {t kt et : TypeId} {dom : Value → Prop} {eq : Value → Value → Bool} (m : Nat) (pu : List (Nat × Nat × Value)) (ins : List (Nat × Value × Value)) (mv : List (Nat × Nat)) (l' : KK)
  (K : KeyL c.P kt dom eq) (ht : ZW c.P t = some (kt, et)) (hm : c.P.follows .mixedOrders = true)
  (hops : ∀ (i : Nat) (o : Oper), ops[i]? = some o → MLit c d t m pu ins mv i o) (hedge : (ops.zipIdx.all fun p => p.1.after.all fun e => Nat.blt e.on p.2) = true) (hlen : Nat.blt 0 ops.length = true)
  (hslots : (m :: (pu.map (·.2.1) ++ mv.map (·.2))).Nodup) (hlt : (m :: (pu.map (·.2.1) ++ mv.map (·.2))).all (Nat.blt · c.n) = true) (hbase : ∀ i v, QN l' i = some v → QN l i = some v ∧ i ∉ m :: (pu.map (·.2.1) ++ mv.map (·.2)))
  (hidx : (0 :: (pu.map (·.1) ++ ins.map (·.1) ++ mv.map (·.1))).Nodup)
  (hpull : (pu.map (·.1) ++ ins.map (·.1) ++ mv.map (·.1)).all (Nat.blt · ops.length) = true)
  (hdom : ∀ p ∈ ins, dom p.2.1) (hdist : ins.Pairwise fun p q => eq p.2.1 q.2.1 = false ∧ eq q.2.1 p.2.1 = false)
  (h : ∀ r es, (es.toList.map WQ).Perm (ins.map (·.2)) → es.toList.map (·.born) = List.range es.size → HQ c d (mv.map (fun p => (p.2, .map (some r))) ++ l') ((r, .map es es.size) :: L) X (Q .normal)) :
  HC c d l L X (.region id ops.toArray true) Q := fun a w hf hs => by
 refine wpIn_region_any hm ?_
 have hsl := List.nodup_cons.1 hslots
 have hsl2 := List.nodup_append.1 hsl.2
 have hix := List.nodup_cons.1 hidx
 have hix2 := List.nodup_append.1 hix.2
 have hix3 := List.nodup_append.1 hix2.1
 have hltm : ∀ s, s ∈ m :: (pu.map (·.2.1) ++ mv.map (·.2)) → s < c.n := fun s hs => by simpa using List.all_eq_true.1 hlt s hs
 have hmn : m < c.n := hltm m List.mem_cons_self
 have hpn : ∀ p ∈ pu, p.2.1 < c.n ∧ p.2.1 ≠ m := fun p hp => ⟨hltm _ (List.mem_cons_of_mem _ (List.mem_append_left _ (List.mem_map_of_mem hp))), fun e => hsl.1 (e ▸ List.mem_append_left _ (List.mem_map_of_mem hp))⟩
 have hvn : ∀ p ∈ mv, p.2 < c.n ∧ p.2 ≠ m := fun p hp => ⟨hltm _ (List.mem_cons_of_mem _ (List.mem_append_right _ (List.mem_map_of_mem hp))), fun e => hsl.1 (e ▸ List.mem_append_right _ (List.mem_map_of_mem hp))⟩
 have hpv : ∀ p ∈ pu, ∀ q ∈ mv, p.2.1 ≠ q.2 := fun p hp q hq => hsl2.2.2 _ (List.mem_map_of_mem hp) _ (List.mem_map_of_mem hq)
 have inj : ∀ {α : Type} (f : α → Nat) (l : List α), (l.map f).Nodup → ∀ x ∈ l, ∀ y ∈ l, f x = f y → x = y := by
  intro α f l
  induction l with
  | nil => intro _ x hx; cases hx
  | cons z r ih =>
   intro hn x hx y hy he
   rw [List.map_cons, List.nodup_cons] at hn
   rcases List.mem_cons.1 hx with h1 | h1 <;> rcases List.mem_cons.1 hy with h2 | h2
   rw [h1, h2]
   rw [← h1] at hn; exact absurd (he ▸ List.mem_map_of_mem h2) hn.1
   rw [← h2] at hn; exact absurd (he ▸ List.mem_map_of_mem h1) hn.1
   exact ih hn.2 x h1 y h2 he
 refine xA (MInv c d l' L X m pu ins mv ops.length) ?_ ?_ _ _ _ _ ?_ (by simp) ?_
 ·-- a step
  intro listed a w i inv hi
  obtain ⟨hun, o, ho, hall⟩ := mem_ready.1 hi
  have hisz : i < listed.size := by
   rcases Nat.lt_or_ge i listed.size with h2 | h2
   exact h2
   simp [Array.getElem?_eq_none h2] at hun
  have hun' := getD_both hun
  have hwait : ∀ j, Wu o j = true → listed.getD j false = true := fun j hj => by
   obtain ⟨e, he, hb, rfl⟩ := we hj
   exact hall e he hb
  have hset : ∀ j, (listed.setIfInBounds i true).getD j false = (if j = i then true else listed.getD j false) := fun j => Jdh listed i j hisz
  have putne : ∀ (s s' : Nat) (v : Value), s' ≠ s → (a.put (some s) v).tmps[s']? = a.tmps[s']? := fun s s' v hne => by
   simp only [Act.put, Array.getElem?_setIfInBounds]; rw [if_neg (fun e => hne e.symm)]
  have puteq : ∀ (s : Nat) (v : Value), s < c.n → (a.put (some s) v).tmps[s]? = some v := fun s v hlt => by
   simp [Act.put, inv.size, hlt]
  have hcert := hops i o (by simpa using ho)
  unfold wpOpIn
  rw [ho]
  simp only
  cases hcert with
  | mk =>
   rw [if_pos (by simp [Region.wanted])]
   refine ⟨KF, ?_⟩
   rw [Oper.semAt_eq _ _ _ (QT rfl)]
   rcases inv.world with ⟨h0, h1, h2, h3⟩ | ⟨r, es, h0, _⟩
   have hrun : (execOp a.eval ⟨some m, .makeMap t none, ‹_›, ‹_›, ‹_›, none⟩).run c.P w = .ok (.value (.map (some w.heap.size))) (w.alloc (.map #[] 0)) := by
    simp [execOp, Instr.makeMap, Sem.run_bind, Result.andThen]
   rw [hrun, Oper.uponIn_value]
   refine ⟨by simpa using inv.lsz, by simp [Act.put, inv.size], by simp [Act.put, inv.defers], fun j v hv => ?_, fun p hp hl => ?_, .inr ⟨w.heap.size, #[], ?_, puteq m _ hmn, fun p hp hl => ?_, h3.alloc _, ?_, rfl⟩⟩
   rw [putne m j _ (fun e => (hbase j v hv).2 (e ▸ List.mem_cons_self))]; exact inv.base j v hv
   rw [putne m _ _ (hpn p hp).2]
   rw [hset] at hl
   have : p.1 ≠ 0 := fun e => hix.1 (e ▸ List.mem_append_left _ (List.mem_append_left _ (List.mem_map_of_mem hp)))
   rw [if_neg this] at hl
   exact inv.pure p hp hl
   rw [hset]; simp
   rw [hset] at hl
   have : p.1 ≠ 0 := fun e => hix.1 (e ▸ List.mem_append_right _ (List.mem_map_of_mem hp))
   rw [if_neg this, h2 p hp] at hl; cases hl
   have : (ins.filter fun p => (listed.setIfInBounds 0 true).getD p.1 false) = [] := by
    rw [List.filter_eq_nil_iff]
    intro p hp
    rw [hset]
    have : p.1 ≠ 0 := fun e => hix.1 (e ▸ List.mem_append_left _ (List.mem_append_right _ (List.mem_map_of_mem hp)))
    rw [if_neg this, h1 p hp]; simp
   rw [this]; exact List.Perm.refl _
   rw [h0] at hun'; cases hun'
  | @pure _ s v _ hmem hd hg hn hr =>
   have hw : Region.wanted o (yielded ops.toArray a.tmps) = true := by simp [Region.wanted, hg]
   rw [if_pos hw]
   refine ⟨KF, ?_⟩
   rw [Oper.semAt_eq _ _ _ (QT hn), hr a w ⟨inv.size, inv.defers, fun j u hu => (by obtain ⟨p, hp, hpw, he⟩ := Jbs hu; have := inv.pure p hp (hwait p.1 hpw); rw [he] at this; exact this)⟩
    (by rcases inv.world with ⟨_, _, _, h3⟩ | ⟨_, _, _, _, _, h3, _⟩ <;> exact (h3.weakL (List.nil_sublist _)).weakX fun _ _ _ => trivial), Oper.uponIn_value, hd]
   have hs1 := hpn _ hmem
   simp only at hs1
   have h0i : (0 : Nat) ≠ i := fun e => hix.1 (e ▸ List.mem_append_left _ (List.mem_append_left _ (List.mem_map_of_mem hmem)))
   have hii : ∀ p ∈ ins, p.1 ≠ i := fun p hp e => hix3.2.2 i (List.mem_map_of_mem (f := (·.1)) hmem) p.1 (List.mem_map_of_mem hp) e.symm
   have hvi : ∀ p ∈ mv, p.1 ≠ i := fun p hp e => hix2.2.2 i (List.mem_append_left _ (List.mem_map_of_mem (f := (·.1)) hmem)) p.1 (List.mem_map_of_mem hp) e.symm
   have hfil : (ins.filter fun p => (listed.setIfInBounds i true).getD p.1 false) = ins.filter fun p => listed.getD p.1 false := by
    apply List.filter_congr; intro p hp; rw [hset, if_neg (hii p hp)]
   refine ⟨by simpa using inv.lsz, by simp [Act.put, inv.size], by simp [Act.put, inv.defers], fun j u hu => ?_, fun p hp hl => ?_, ?_⟩
   ·rw [putne s j _ (fun e => (hbase j u hu).2 (e ▸ List.mem_cons_of_mem _ (List.mem_append_left _ (List.mem_map_of_mem (f := (·.2.1)) hmem))))]; exact inv.base j u hu
   ·rw [hset] at hl
    by_cases e : p.1 = i
    ·have : p = (i, s, v) := inj (·.1) pu hix3.1 p hp _ hmem e
     subst this; exact puteq s v hs1.1
    ·rw [if_neg e] at hl
     rw [putne s _ _ (fun e' => e (by have := inj (·.2.1) pu hsl2.1 p hp _ hmem e'; rw [this]))]
     exact inv.pure p hp hl
   rcases inv.world with ⟨h0, h1, h2, h3⟩ | ⟨r, es, h0, h1, h2, h3, h4, h5⟩
   exact .inl ⟨by rw [hset, if_neg h0i]; exact h0, fun p hp => by rw [hset, if_neg (hii p hp)]; exact h1 p hp, fun p hp => by rw [hset, if_neg (hvi p hp)]; exact h2 p hp, h3⟩
   refine .inr ⟨r, es, by rw [hset, if_neg h0i]; exact h0, by rw [putne s m _ (fun e => hs1.2 e.symm)]; exact h1, fun p hp hl => ?_, h3, by rw [hfil]; exact h4, h5⟩
   rw [hset, if_neg (hvi p hp)] at hl
   rw [putne s _ _ (fun e => hpv _ hmem p hp e.symm)]
   exact h2 p hp hl
  | @ins _ j1 j2 ks vs k v _ _ _ hmem h1 h2 hw0 hw1 hw2 =>
   rw [if_pos (by simp [Region.wanted])]
   refine ⟨KF, ?_⟩
   rw [Oper.semAt_eq _ _ _ (QT rfl)]
   have hl0 := hwait 0 hw0
   have hk := inv.pure _ h1 (hwait j1 hw1)
   have hv := inv.pure _ h2 (hwait j2 hw2)
   simp only at hk hv
   rcases inv.world with ⟨h0, _⟩ | ⟨r, es, h0, g1, g2, g3, g4, g5⟩
   rw [h0] at hl0; cases hl0
   ·have hget := (g3.own _ List.mem_cons_self).2.2
    have hin : ∀ p ∈ es.toList.map WQ, ∃ q ∈ ins, q.2 = p ∧ listed.getD q.1 false = true := fun p hp => by
     have := g4.subset hp
     obtain ⟨q, hq, rfl⟩ := List.mem_map.1 this
     rw [List.mem_filter] at hq
     exact ⟨q, hq.1, rfl, hq.2⟩
    have hed : ∀ e ∈ es.toList, dom e.key := fun e he => by
     obtain ⟨q, hq, he', _⟩ := hin (WQ e) (List.mem_map_of_mem he)
     have := hdom q hq
     rw [he'] at this; exact this
    have hnone : Qp eq k (es.toList.map WQ) = none := Zm.2 fun p hp => by
     obtain ⟨q, hq, rfl, hql⟩ := hin p hp
     have hne : q ≠ (i, k, v) := fun e => by rw [e] at hql; rw [hun'] at hql; cases hql
     have : ∀ {l : List (Nat × Value × Value)}, l.Pairwise (fun p q => eq p.2.1 q.2.1 = false ∧ eq q.2.1 p.2.1 = false) → ∀ x ∈ l, ∀ y ∈ l, x ≠ y → eq x.2.1 y.2.1 = false := by
      intro l hpw
      induction hpw with
      | nil => intro x hx; cases hx
      | cons hz _ ih =>
       intro x hx y hy hxy
       rcases List.mem_cons.1 hx with e1 | e1 <;> rcases List.mem_cons.1 hy with e2 | e2
       exact absurd (e1.trans e2.symm) hxy
       rw [e1]; exact (hz y e2).1
       rw [e2]; exact (hz x e1).2
       exact ih x e1 y e2 hxy
     exact this hdist _ hmem q hq (fun e => hne e.symm)
    have hrun := ZX (P := c.P) (v := v) K ht hget (hdom _ hmem) hed hnone
    have ek : a.eval (.tmp ks) = k := by simp only [Act.eval, Array.getD_eq_getD_getElem?, hk]; rfl
    have ev : a.eval (.tmp vs) = v := by simp only [Act.eval, Array.getD_eq_getD_getElem?, hv]; rfl
    have em : a.eval (.tmp m) = .map (some r) := by simp only [Act.eval, Array.getD_eq_getD_getElem?, g1]; rfl
    have hrun2 : ∀ (ty : Nat) (ps : String) (af : Array Edge), (execOp a.eval ⟨none, .insert t (.tmp m) (.tmp ks) (.tmp vs), ty, ps, af, none⟩).run c.P w = .ok .skip (w.putObj r (.map (es.push { key := k, val := v, born := es.size }) (es.size + 1))) := fun ty ps af => by
     simp only [execOp, Sem.run_bind]; rw [ek, ev, em, hrun]; rfl
    rw [hrun2, Oper.uponIn_skip]
    have h0i : (0 : Nat) ≠ i := fun e => hix.1 (e ▸ List.mem_append_left _ (List.mem_append_right _ (List.mem_map_of_mem hmem)))
    have hpi : ∀ p ∈ pu, p.1 ≠ i := fun p hp e => hix3.2.2 p.1 (List.mem_map_of_mem hp) i (List.mem_map_of_mem (f := (·.1)) hmem) e
    have hvi : ∀ p ∈ mv, p.1 ≠ i := fun p hp e => hix2.2.2 i (List.mem_append_right _ (List.mem_map_of_mem (f := (·.1)) hmem)) p.1 (List.mem_map_of_mem hp) e.symm
    have hst := g3.set (k := 0) rfl (Keep.putObj r (.map (es.push { key := k, val := v, born := es.size }) (es.size + 1))) (World.putObj_heap_same (J6 hget))
    refine ⟨by simpa using inv.lsz, inv.size, inv.defers, inv.base, fun p hp hl => ?_, .inr ⟨r, es.push { key := k, val := v, born := es.size }, ?_, g1, fun p hp hl => ?_, ?_, ?_, ?_⟩⟩
    rw [hset, if_neg (hpi p hp)] at hl; exact inv.pure p hp hl
    rw [hset, if_neg h0i]; exact h0
    rw [hset, if_neg (hvi p hp)] at hl; exact g2 p hp hl
    simpa using hst
    have hfi := zc (f := fun j => listed.getD j false) hix3.2.1 hmem hun'
    have hfe : (ins.filter fun p => (listed.setIfInBounds i true).getD p.1 false) = ins.filter fun p => if p.1 = i then true else listed.getD p.1 false := by
     apply List.filter_congr; intro p _; rw [hset]
    rw [hfe]
    refine List.Perm.trans ?_ (hfi.map _).symm
    simp only [Array.toList_push, List.map_append, List.map_cons, List.map_nil, WQ]
    exact (List.perm_append_comm).trans ((g4.cons _))
    simp only [Array.toList_push, List.map_append, g5, List.map_cons, List.map_nil, Array.size_push, List.range_succ]
  | @mv _ s x _ hmem hd hg hop hw0 hx =>
   have hw : Region.wanted o (yielded ops.toArray a.tmps) = true := by simp [Region.wanted, hg]
   rw [if_pos hw]
   refine ⟨KF, ?_⟩
   have hn : Kq o.op = true := by rcases hop with e | e <;> rw [e] <;> rfl
   rw [Oper.semAt_eq _ _ _ (QT hn)]
   have hl0 := hwait 0 hw0
   rcases inv.world with ⟨h0, _⟩ | ⟨r, es, h0, g1, g2, g3, g4, g5⟩
   rw [h0] at hl0; cases hl0
   ·have hxv : a.tmps[x]? = some (.map (some r)) := by
     rcases hx with rfl | ⟨j, hj, hjw⟩
     exact g1
     exact g2 _ hj (hwait j hjw)
    have ex : a.eval (.tmp x) = .map (some r) := by simp only [Act.eval, Array.getD_eq_getD_getElem?, hxv]; rfl
    have hrun : (execOp a.eval o).run c.P w = .ok (.value (.map (some r))) w := by
     rcases hop with e | e <;> (simp only [execOp, e]; rw [ex]; rfl)
    rw [hrun, Oper.uponIn_value, hd]
    have hs1 := hvn _ hmem
    simp only at hs1
    have h0i : (0 : Nat) ≠ i := fun e => hix.1 (e ▸ List.mem_append_right _ (List.mem_map_of_mem hmem))
    have hii : ∀ p ∈ ins, p.1 ≠ i := fun p hp e => hix2.2.2 p.1 (List.mem_append_right _ (List.mem_map_of_mem hp)) i (List.mem_map_of_mem (f := (·.1)) hmem) e
    have hpi : ∀ p ∈ pu, p.1 ≠ i := fun p hp e => hix2.2.2 p.1 (List.mem_append_left _ (List.mem_map_of_mem hp)) i (List.mem_map_of_mem (f := (·.1)) hmem) e
    have hfil : (ins.filter fun p => (listed.setIfInBounds i true).getD p.1 false) = ins.filter fun p => listed.getD p.1 false := by
     apply List.filter_congr; intro p hp; rw [hset, if_neg (hii p hp)]
    refine ⟨by simpa using inv.lsz, by simp [Act.put, inv.size], by simp [Act.put, inv.defers], fun j u hu => ?_, fun p hp hl => ?_, .inr ⟨r, es, by rw [hset, if_neg h0i]; exact h0, by rw [putne s m _ (fun e => hs1.2 e.symm)]; exact g1, fun p hp hl => ?_, g3, by rw [hfil]; exact g4, g5⟩⟩
    ·rw [putne s j _ (fun e => (hbase j u hu).2 (e ▸ List.mem_cons_of_mem _ (List.mem_append_right _ (List.mem_map_of_mem (f := (·.2)) hmem))))]; exact inv.base j u hu
    rw [hset, if_neg (hpi p hp)] at hl
    rw [putne s _ _ (fun e => hpv p hp _ hmem e)]
    exact inv.pure p hp hl
    ·rw [hset] at hl
     by_cases e : p.1 = i
     ·have : p = (i, s) := inj (·.1) mv hix2.2.1 p hp _ hmem e
      subst this; exact puteq s _ hs1.1
     ·rw [if_neg e] at hl
      rw [putne s _ _ (fun e' => e (by have := inj (·.2) mv hsl2.2.1 p hp _ hmem e'; rw [this]))]
      exact g2 p hp hl
 ·-- the end: all has come up
  intro listed a w inv hr
  have hallset : ∀ i, i < ops.length → listed.getD i true = true := by
   intro i
   induction i using Nat.strongRecOn with
   | _ i ih =>
    intro hi
    cases hli : listed.getD i true with
    | true => rfl
    | false =>
     exfalso
     have : i ∈ Region.ready .any ops.toArray listed := mem_ready.2 ⟨hli, ops[i], by simp [hi], fun e he _ => by
      have h1 := List.all_eq_true.1 hedge (ops[i], i) (by rw [List.mem_zipIdx_iff_getElem?]; simp [hi])
      have h2 := Array.all_eq_true_iff_forall_mem.1 h1 e he
      have h3 : e.on < i := by simpa using h2
      have h4 := ih e.on h3 (by omega)
      have h5 : e.on < listed.size := by rw [inv.lsz]; omega
      simp [h5] at h4 ⊢; exact h4⟩
     rw [hr] at this; cases this
  have hall' : ∀ i, i < ops.length → listed.getD i false = true := fun i hi => by
   have h5 : i < listed.size := by rw [inv.lsz]; exact hi
   have h4 := hallset i hi
   simp [h5] at h4 ⊢; exact h4
  have hidx' : ∀ i, i ∈ pu.map (·.1) ++ ins.map (·.1) ++ mv.map (·.1) → i < ops.length := fun i hi => by simpa using List.all_eq_true.1 hpull i hi
  rcases inv.world with ⟨h0, _⟩ | ⟨r, es, h0, g1, g2, g3, g4, g5⟩
  rw [hall' 0 (by simpa using hlen)] at h0; cases h0
  have hfil : (ins.filter fun p => listed.getD p.1 false) = ins := by
   rw [List.filter_eq_self]
   intro p hp
   exact hall' p.1 (hidx' _ (List.mem_append_left _ (List.mem_append_right _ (List.mem_map_of_mem hp))))
  rw [hfil] at g4
  refine h r es g4 g5 a w ⟨inv.size, inv.defers, fun i v hv => ?_⟩ g3
  have : ∀ (mv' : List (Nat × Nat)), (∀ p ∈ mv', p ∈ mv) → QN (mv'.map (fun p => (p.2, Value.map (some r))) ++ l') i = some v → a.tmps[i]? = some v := by
   intro mv'
   induction mv' with
   | nil => intro _ hv; exact inv.base i v hv
   | cons p mv' ih =>
    intro hsub hv
    simp only [List.map_cons, List.cons_append, QN] at hv
    by_cases e : i = p.2
    subst e
    rw [Nat.beq_refl] at hv
    simp only [Option.some.injEq] at hv
    subst hv
    have hp := hsub p List.mem_cons_self
    exact g2 p hp (hall' p.1 (hidx' _ (List.mem_append_right _ (List.mem_map_of_mem hp))))
    rw [show Nat.beq i p.2 = false from by rw [Bool.eq_false_iff]; exact fun hb => e (Nat.eq_of_beq_eq_true hb)] at hv
    exact ih (fun q hq => hsub q (List.mem_cons_of_mem _ hq)) hv
  exact this mv (fun p hp => hp) hv
 refine ⟨by simp, hf.size, hf.defers, fun i v hv => hf.slots i v (hbase i v hv).1, fun p _ hl => ?_, .inl ⟨getD_replicate_false _ _, fun p _ => getD_replicate_false _ _, fun p _ => getD_replicate_false _ _, hs.drew⟩⟩
 rw [getD_replicate_false] at hl; cases hl
 ·simp
theorem Qh {α : Type} {ops : Array Oper} {rest : List Oper} {i : Nat} {ty : TypeId} {ps : String} {af : Array Edge} {gd : Option (Nat × Bool)} {f : Operand} {args : Array Operand} {at_ : Array TypeId} {g : FuncId} {vs : List Value} {V : α → Value} {LL : α → Jy}
  (hg : Kx l ops ⟨some i, .call ⟨.value f, args, at_⟩, ty, ps, af, gd⟩ = some true) (hi : Nat.ble (i + 1) c.n = true) (hca : Qe l f args = some (g, vs)) (eg : Enters c.P g)
  (hp : PureE c.P g vs.toArray V LL) (h : ∀ x, HL c d ((i, V x) :: l) (LL x ++ L) X ops rest Q) : HL c d l L X ops (⟨some i, .call ⟨.value f, args, at_⟩, ty, ps, af, gd⟩ :: rest) Q :=
 Xl (V := V) (L' := fun x => LL x ++ L) (X' := fun _ => X) hg hi hca eg (fun w hs => (hp.run w).mono fun _ _ ⟨x, he, hk, h1, h2⟩ => ⟨x, he, hs.freshs hk h1 h2⟩) h
theorem KZ {α : Type} {P : Program} {f : FuncId} {fn : Func} {code : Code} {vs : List Value} {V : α → Value} {LL : α → Jy} (hf : P.funcs[f]? = some fn) (hb : fn.body = some code) (hlen : Nat.ble vs.length fn.ntmps = true)
  (h : ∀ w, HC ⟨P, none, w, [], [], [], fn.ntmps⟩ [] (Vr 0 vs) [] (fun _ _ => True) code (bodyPostM (FW none) 0 P fn (fun e w' => ∃ x, e = .returned (V x) ∧ St ⟨P, none, w, [], [], [], fn.ntmps⟩ (LL x) (fun _ _ => True) w'))) : PureE P f vs.toArray V LL := ⟨fun w =>
 (QP ⟨P, none, w, [], [], [], fn.ntmps⟩ hf hb rfl rfl rfl hlen (St.start P none w _) (h w)).mono fun _ _ ⟨x, he, hs⟩ => ⟨x, he, hs.keep, fun p hp => ⟨((hs.own p hp).1).elim (fun h => by cases h) id, (hs.own p hp).2.2⟩, hs.distinct⟩⟩
end
def ZY (P : Program) (t : TypeId) (n : Nat) : Bool :=
 match P.underlying t with
 | some (.struct fs) => fs.toList.all fun f => (match P.underlying f.type with | some (.int _) => true | _ => false) && Nat.blt f.offset n
 | _ => false
theorem Yk {P : Program} {t : TypeId} {cs : Array Value} (hB : ZY P t cs.size = true) (hc : ∀ v ∈ cs.toList, ∃ k n, v = .int k n) (b : Bool) (n : Nat) (w : World) : (Instr.checkKey b (n + 2) t (.agg cs)).run P w = .ok () w := by
 unfold ZY at hB
 split at hB
 ·rename_i fs hu
  rw [Instr.checkKey]
  simp only [Sem.run_bind, KO hu, Result.andThen]
  rw [← Array.forIn_toList]
  generalize fs.toList = l at hB
  clear hu
  induction l with
  | nil => rfl
  | cons f l ih =>
   simp only [List.all_cons, Bool.and_eq_true] at hB
   obtain ⟨⟨h1, h2⟩, h3⟩ := hB
   have ih' := ih h3
   split at h1
   ·rename_i k hk
    have hoff : f.offset < cs.size := by simpa using h2
    have hel : cs[f.offset]? = some cs[f.offset] := by simp [hoff]
    obtain ⟨k', m, hv⟩ := hc cs[f.offset] (by simp)
    have hp : (part f.type cs f.offset).run P w = .ok (.int k' m) w := by
     simp [part, isAgg, KO hk, Sem.run_bind, Result.andThen, hel, hv]
    have hck : (Instr.checkKey b (n + 1) f.type (.int k' m)).run P w = .ok () w := by
     simp [Instr.checkKey, Sem.run_bind, KO hk, Result.andThen]
    simp only [List.forIn_cons, Sem.run_bind]
    by_cases hn : f.name ≠ "_"
    ·simp only [hn, ne_eq, not_false_eq_true, if_true, Sem.run_bind, hp, Result.andThen, hck, Sem.run_pure]
     exact ih'
    ·simp only [hn, if_false, Sem.run_bind, Sem.run_pure, Result.andThen]
     exact ih'
   ·cases h1
 ·cases hB
theorem VX {ι : Type} {P : Program} {f : FuncId} {fn : Func} {code : Code} {caps : List Value} {Rl : Jy} {p0 : ι} {nx : ι → List Value → ι → Prop} {fin : ι → Prop} (hf : P.funcs[f]? = some fn) (hb : fn.body = some code) (hlen : Nat.ble (caps.length + 1) fn.ntmps = true)
  (h : ∀ (q : Nat) (xids : List Nat) (w2 : World) (XI : ι → XP) (XF : XP),
   (∀ i v i', nx i v i' → ∀ xs w, (∀ k ∈ xs, k < w.heap.size ∧ (k ∈ xids ∨ w2.heap.size ≤ k)) → Keep ([] ++ xids) w2 w → Xi xs (XI i) w → YS P q v.toArray xs w (XI i') XF) →
   HC ⟨P, none, w2, [], xids, Rl, fn.ntmps⟩ [] (Vr 0 (.func (.yield q) #[] #[] :: caps)) [] (XI p0) code
    (bodyPostM (FW none) 0 P fn (fun e w' => (∃ v, e = .returned v) ∧ Keep ([] ++ xids) w2 w' ∧ ((∃ i xs, fin i ∧ XI i xs w') ∨ ∃ xs, XF xs w')))) : jJ P f caps Rl p0 nx fin :=
 fun q xids w2 XI XF hR hlt h0 hY =>
  QP ⟨P, none, w2, [], xids, Rl, fn.ntmps⟩ hf hb rfl rfl rfl hlen
   ⟨Keep.refl _ _, by simp, by simp, fun p hp => ⟨by simp, (hR p hp).1, (hR p hp).2⟩, hlt, xids, fun k hk => ⟨.inl hk, hlt k hk, by simp⟩, h0⟩ (h q xids w2 XI XF hY)
theorem Kv {c : Cx} {d : List Deferred} {l : KK} {L L' : Jy} {X : XP} {ops : Array Oper} {rest : List Oper} {Q : Exit → Act → World → Prop} (hp : L.Perm L') (h : HL c d l L' X ops rest Q) : HL c d l L X ops rest Q :=
 fun a w hf hs => h a w hf (hs.perm hp)
theorem Wm {c : Cx} {d : List Deferred} {l : KK} {L L' : Jy} {X : XP} {K : Act → World → Prop} (hp : L.Perm L') (h : HQ c d l L' X K) : HQ c d l L X K :=
 fun a w hf hs => h a w hf (hs.perm hp)
abbrev QH : Type := Option (Nat × Nat × List Value)
def JO (n : Nat) : QH → Value
 | none => .slice none 0 0
 | some (r, cap, _) => .slice (some ⟨r, 0, none⟩) n cap
def Kk (e : TypeId) (xs : List Value) : QH → Jy
 | none => []
 | some (r, _, sp) => [(r, .cells (xs ++ sp).toArray e (0, 0))]
def rowOk (sz n : Nat) (xs : List Value) : QH → Prop
 | none => n = 0 ∧ xs = []
 | some (_, cap, sp) => xs.length = n * sz ∧ n * sz + sp.length = cap * sz
theorem rowOk.len {sz n : Nat} {xs : List Value} {row : QH} (h : rowOk sz n xs row) : xs.length = n * sz := by
 cases row with
 | none => obtain ⟨rfl, rfl⟩ := h; simp
 | some p => obtain ⟨r, cap, sp⟩ := p; exact h.1
theorem rowOk.same {sz n : Nat} {xs ys : List Value} {row : QH} (h : rowOk sz n xs row) (hl : ys.length = xs.length) : rowOk sz n ys row := by
 cases row with
 | none => obtain ⟨h1, rfl⟩ := h; exact ⟨h1, by simpa using hl⟩
 | some p => obtain ⟨r, cap, sp⟩ := p; exact ⟨hl.trans h.1, h.2⟩
section
variable {c : Cx} {l : KK} {L : Jy} {X : XP} {Q : Exit → Act → World → Prop} {d : List Deferred}
variable {ops : Array Oper} {rest : List Oper} {i : Nat} {v : Value} {t : TypeId} {ps : String} {af : Array Edge} {gd : Option (Nat × Bool)} {ty : TypeId}
theorem Kh {x y : Operand} {e sz b r2 off2 m c2 e2 n : Nat} {z : Value} {fr2 : Nat × Nat} {cs2 : Array Value} {news xs : List Value} {L0 : Jy} {row : QH}
  (hp : L.Perm (Kk e xs row ++ L0))
  (hg : Kx l ops ⟨some i, .call ⟨.builtin .append, #[x, y], #[t, t]⟩, ty, ps, af, gd⟩ = some true) (hi : Nat.ble (i + 1) c.n = true)
  (hx : Kz l x = some (JO n row)) (hy : Kz l y = some (.slice (some ⟨r2, off2, none⟩) m c2)) (hk2 : known c L0 r2 (.cells cs2 e2 fr2))
  (ht : KI c.P t = some e) (hz : Qv c.P e = some z) (hs : Qd c.P e = some sz) (hb : qP c.P e = some b) (hzs : z.cells.size = sz) (hsz : 0 < sz)
  (hn : (cs2.toList.drop off2).take (m * sz) = news) (hln : news.length = m * sz) (hone : news.all QX = true) (hm : 0 < m)
  (ho : rowOk sz n xs row) (h63 : n + m ≤ 9223372036854775807) (h47 : (n + m) * b ≤ 140737488355328)
  (h : ∀ r' cap' spare, rowOk sz (n + m) (xs ++ news) (some (r', cap', spare)) → HL c d ((i, .slice (some ⟨r', 0, none⟩) (n + m) cap') :: l) ((r', .cells (xs ++ news ++ spare).toArray e (0, 0)) :: L0) X ops rest Q) :
  HL c d l L X ops (⟨some i, .call ⟨.builtin .append, #[x, y], #[t, t]⟩, ty, ps, af, gd⟩ :: rest) Q := by
 have hlen := ho.len
 have fin : ∀ r' cap' spare, (n + m) * sz + spare.length = cap' * sz → HL c d ((i, .slice (some ⟨r', 0, none⟩) (n + m) cap') :: l) ((r', .cells (xs ++ news ++ spare).toArray e (0, 0)) :: L0) X ops rest Q :=
  fun r' cap' spare hsp => h r' cap' spare ⟨by rw [List.length_append, hlen, hln, Nat.add_mul], hsp⟩
 refine Kv hp ?_
 cases row with
 | none =>
  obtain ⟨rfl, rfl⟩ := ho
  exact qd hg hi hx hy hk2 ht hz hs hb hzs hsz hn hln hone hm SlOwn.nil h63 h47 fin
 | some p =>
  obtain ⟨r, cap, sp⟩ := p
  refine qd hg hi hx hy (hk2.imp (List.mem_cons_of_mem _) id) ht hz hs hb hzs hsz hn hln hone hm (SlOwn.own (k := 0) rfl ?_ ho.1 ?_ rfl) h63 h47 fin
  ·simp only [List.toList_toArray]
   rw [← ho.1]; simp
  ·simp only [List.size_toArray, List.length_append]; rw [ho.1]; exact ho.2
end
section
variable {c : Cx} {l : KK} {L : Jy} {X : XP} {d : List Deferred}
variable {i : Nat} {v : Value} {t : TypeId} {ps : String} {af : Array Edge} {gd : Option (Nat × Bool)} {ty : TypeId}
theorem KD {x : Operand} {p : Option Addr} {n cap : Nat} {e : TypeId} (hx : Kz l x = some (.slice p n cap)) (ht : KI c.P t = some e) :
  JP c d l L X ⟨some i, .call ⟨.builtin .len, #[x], #[t]⟩, ty, ps, af, gd⟩ (.int .i64 n) := fun a w hf _ => by
 have ex := hf.eval hx
 simp [execOp, resolve, Sem.run_bind, ex, Result.andThen, invoke, builtin, Builtin.len_, KO (Kj ht), goInt]
def jK (P : Program) (t : TypeId) : Bool := match P.underlying t with | some .string => true | _ => false
theorem QJ {P : Program} {t : TypeId} (h : jK P t = true) : P.underlying t = some .string := by
 unfold jK at h; split at h <;> simp_all
theorem Jdi {x : Operand} {s : ByteArray} {n : Nat} (hx : Kz l x = some (.string s)) (ht : jK c.P t = true) (hn : s.size = n) :
  JP c d l L X ⟨some i, .call ⟨.builtin .len, #[x], #[t]⟩, ty, ps, af, gd⟩ (.int .i64 n) := fun a w hf _ => by
 have ex := hf.eval hx
 simp [execOp, resolve, Sem.run_bind, ex, Result.andThen, invoke, builtin, Builtin.len_, KO (QJ ht), goInt, hn]
theorem JQ {fn : Fn} {first caps : Array Operand} {fs cs : List Value} (h1 : evs l first.toList = some fs) (h2 : evs l caps.toList = some cs) :
  JP c d l L X ⟨some i, .makeFunc fn first caps, ty, ps, af, gd⟩ (.func fn fs.toArray cs.toArray) := fun a w hf _ => by
 have e1 : first.map a.eval = fs.toArray := by apply Array.toList_inj.1; rw [Array.toList_map]; simpa using hf.evals h1
 have e2 : caps.map a.eval = cs.toArray := by apply Array.toList_inj.1; rw [Array.toList_map]; simpa using hf.evals h2
 simp only [execOp, e1, e2, Sem.run_bind]
 rfl
end
section
variable {c : Cx} {l : KK} {L : Jy} {X : XP} {d : List Deferred}
variable {i : Nat} {v : Value} {t : TypeId} {ps : String} {af : Array Edge} {gd : Option (Nat × Bool)} {ty : TypeId}
theorem VY {x : Operand} {row : QH} {n : Nat} {e : TypeId} (hx : Kz l x = some (JO n row)) (hok : row = none → n = 0) (ht : KI c.P t = some e) :
  JP c d l L X ⟨some i, .call ⟨.builtin .len, #[x], #[t]⟩, ty, ps, af, gd⟩ (.int .i64 n) := by
 cases row with
 | none => rw [hok rfl] at hx ⊢; exact KD hx ht
 | some p => obtain ⟨r, cap, sp⟩ := p; exact KD hx ht
end
theorem rowOk.zero {sz n : Nat} {xs : List Value} {row : QH} (h : rowOk sz n xs row) : row = none → n = 0 := fun e => by subst e; exact h.1
structure PureR (P : Program) (f : FuncId) (args : Array Value) (v : Value) (Rl : Jy) : Prop where
  run : ∀ w, YI Rl w → Calls P f args w fun e w' => e = .returned v ∧ Keep [] w w'
section
variable {c : Cx} {l : KK} {L : Jy} {X : XP} {Q : Exit → Act → World → Prop} {d : List Deferred}
variable {ops : Array Oper} {rest : List Oper} {i : Nat} {v : Value} {t : TypeId} {ps : String} {af : Array Edge} {gd : Option (Nat × Bool)} {ty : TypeId}
theorem J4 {f : Operand} {args : Array Operand} {at_ : Array TypeId} {g : FuncId} {vs : List Value} {Rl : Jy}
  (hg : Kx l ops ⟨some i, .call ⟨.value f, args, at_⟩, ty, ps, af, gd⟩ = some true) (hi : Nat.ble (i + 1) c.n = true) (hca : Qe l f args = some (g, vs)) (eg : Enters c.P g)
  (hp : PureR c.P g vs.toArray v Rl) (hk : ∀ p ∈ Rl, known c L p.1 p.2) (h : HL c d ((i, v) :: l) L X ops rest Q) : HL c d l L X ops (⟨some i, .call ⟨.value f, args, at_⟩, ty, ps, af, gd⟩ :: rest) Q :=
 Xl (α := Unit) (V := fun _ => v) (L' := fun _ => L) (X' := fun _ => X) hg hi hca eg (fun w hs => (hp.run w fun p hp => hs.known (hk p hp)).mono fun _ _ ⟨he, hk⟩ => ⟨(), he, hs.more hk⟩) (fun _ => h)
end
theorem Jz {P : Program} {f : FuncId} {fn : Func} {code : Code} {vs : List Value} {v : Value} {Rl : Jy} (hf : P.funcs[f]? = some fn) (hb : fn.body = some code) (hlen : Nat.ble vs.length fn.ntmps = true)
  (h : ∀ w, HC ⟨P, none, w, [], [], Rl, fn.ntmps⟩ [] (Vr 0 vs) [] (fun _ _ => True) code (bodyPostM (FW none) 0 P fn (fun e w' => e = .returned v ∧ Keep [] w w'))) : PureR P f vs.toArray v Rl := ⟨fun w hR =>
 QP ⟨P, none, w, [], [], Rl, fn.ntmps⟩ hf hb rfl rfl rfl hlen
  ⟨Keep.refl _ _, by simp, by simp, fun p hp => ⟨by simp, by simp, hR p hp⟩, by simp, [], by simp, fun _ _ => trivial⟩ (h w)⟩
theorem VZ {c : Cx} {l : KK} {L : Jy} {σ τ : Type} {Xb : XP} {I : σ → Prop} {LI : σ → Jy} {E : Code → τ → Prop} {LE : τ → Jy} (s : σ) (hI : I s) (hL : L = LI s) :
  HQ c [] l L Xb (Xn c Xb I LI E LE .normal) := fun _ _ _ hs => ⟨s, hI, hL ▸ hs⟩
theorem YK {c : Cx} {l : KK} {L : Jy} {σ τ : Type} {Xb : XP} {I : σ → Prop} {LI : σ → Jy} {E : Code → τ → Prop} {LE : τ → Jy} (s : τ) (hI : E .ret s) (hL : L = LE s) :
  HQ c [] l L Xb (Xn c Xb I LI E LE .ret) := fun _ _ _ hs => ⟨s, hI, hL ▸ hs⟩
theorem qg {c : Cx} {l : KK} {L : Jy} {σ τ : Type} {Xb : XP} {I : σ → Prop} {LI : σ → Jy} {E : Code → τ → Prop} {LE : τ → Jy} {id : Nat} (s : τ) (hI : E (.exit id) s) (hL : L = LE s) :
  HQ c [] l L Xb (Xn c Xb I LI E LE (.exit id)) := fun _ _ _ hs => ⟨s, hI, hL ▸ hs⟩
section
variable {c : Cx} {l : KK} {L : Jy} {X : XP} {Q : Exit → Act → World → Prop} {d : List Deferred}
variable {i : Nat} {v : Value} {t : TypeId} {ps : String} {af : Array Edge} {gd : Option (Nat × Bool)} {ty t2 : TypeId}
theorem xB {x y : Operand} {k yk : IntKind} {a z b : Int} {n : Nat} (hx : Kz l x = some (.int k a)) (hy : Kz l y = some (.int yk z)) (hz : z = (n : Int)) (hn : n ≤ k.bits) (ha : 0 ≤ a) (hb : a / (2 ^ n : Nat) = b) :
  JP c d l L X ⟨some i, .binOp .shr t x y t2, ty, ps, af, gd⟩ (.int k b) := fun a' w hf _ => by
 subst hz
 have e1 : ¬ ((n : Int) < 0) := by omega
 have e2 : Int.fdiv a (2 ^ n : Int) = a / (2 ^ n : Nat) := by
  rw [Int.fdiv_eq_ediv_of_nonneg _ (by exact Int.le_of_lt (Int.pow_pos (by decide)))]; simp
 simp only [execOp]
 rw [hf.eval hx, hf.eval hy]
 subst hb
 simp [binOp, eqGuard, Op.shift, Sem.run_bind, Result.andThen, e1, Nat.min_eq_left hn, e2]
theorem xC {x y : Operand} {k yk : IntKind} {a z b : Int} {n : Nat} (hx : Kz l x = some (.int k a)) (hy : Kz l y = some (.int yk z)) (hz : z = (n : Int)) (hn : n ≤ k.bits) (hb : k.wrap (a * (2 ^ n : Nat)) = b) :
  JP c d l L X ⟨some i, .binOp .shl t x y t2, ty, ps, af, gd⟩ (.int k b) := fun a' w hf _ => by
 subst hz
 have e1 : ¬ ((n : Int) < 0) := by omega
 subst hb
 simp only [execOp]
 rw [hf.eval hx, hf.eval hy]
 simp [binOp, eqGuard, Op.shift, Sem.run_bind, Result.andThen, e1, Nat.min_eq_left hn]
def qS : BinOp → Option (Nat → Nat → Nat)
 | .and => some Nat.land
 | .or => some Nat.lor
 | .xor => some Nat.xor
 | _ => none
theorem wg {op : BinOp} {x y : Operand} {m n : Nat} {f : Nat → Nat → Nat} {b : Int} (hf : qS op = some f) (hx : Kz l x = some (.int .u64 (m : Int))) (hy : Kz l y = some (.int .u64 (n : Int))) (hm : m < 18446744073709551616) (hn : n < 18446744073709551616) (hb : ((f m n : Nat) : Int) = b) :
  JP c d l L X ⟨some i, .binOp op t x y t2, ty, ps, af, gd⟩ (.int .u64 b) := fun a' w hfr _ => by
 subst hb
 have e1 : (BitVec.ofInt 64 (m : Int)).toNat = m := by simp [BitVec.toNat_ofInt]; omega
 have e2 : (BitVec.ofInt 64 (n : Int)).toNat = n := by simp [BitVec.toNat_ofInt]; omega
 have hm' : m < 2 ^ 64 := hm
 have hn' : n < 2 ^ 64 := hn
 have wr : ∀ q : Nat, q < 2 ^ 64 → IntKind.u64.wrap (q : Int) = q := fun q hq => wrap_u64 (by omega) (by omega)
 simp only [execOp]
 rw [hfr.eval hx, hfr.eval hy]
 cases op <;> simp only [qS, Option.some.injEq, reduceCtorEq] at hf
 all_goals subst hf
 ·have := wr (m &&& n) (Nat.lt_of_le_of_lt Nat.and_le_left hm')
  have e3 : (BitVec.ofInt 64 (m : Int) &&& BitVec.ofInt 64 (n : Int)).toNat = m &&& n := by rw [BitVec.toNat_and, e1, e2]
  show Sem.run c.P (pure (Next.value (Value.int .u64 (IntKind.u64.wrap (((BitVec.ofInt 64 (m : Int) &&& BitVec.ofInt 64 (n : Int)).toNat : Nat) : Int))))) w = _
  rw [e3, this]; rfl
 ·have := wr (m ||| n) (Nat.or_lt_two_pow hm' hn')
  have e3 : (BitVec.ofInt 64 (m : Int) ||| BitVec.ofInt 64 (n : Int)).toNat = m ||| n := by rw [BitVec.toNat_or, e1, e2]
  show Sem.run c.P (pure (Next.value (Value.int .u64 (IntKind.u64.wrap (((BitVec.ofInt 64 (m : Int) ||| BitVec.ofInt 64 (n : Int)).toNat : Nat) : Int))))) w = _
  rw [e3, this]; rfl
 ·have := wr (m ^^^ n) (Nat.xor_lt_two_pow hm' hn')
  have e3 : (BitVec.ofInt 64 (m : Int) ^^^ BitVec.ofInt 64 (n : Int)).toNat = m ^^^ n := by rw [BitVec.toNat_xor, e1, e2]
  show Sem.run c.P (pure (Next.value (Value.int .u64 (IntKind.u64.wrap (((BitVec.ofInt 64 (m : Int) ^^^ BitVec.ofInt 64 (n : Int)).toNat : Nat) : Int))))) w = _
  rw [e3, this]; rfl
def bs (l : List UInt8) : ByteArray := ⟨l.toArray⟩
theorem WR (a : List UInt8) : (bs a).size = a.length := by simp [bs, ByteArray.size]
theorem bs_data (s : ByteArray) : bs s.data.toList = s := by simp [bs]
theorem Jbu (a b : List UInt8) : bs a ++ bs b = bs (a ++ b) := by
 apply ByteArray.ext; simp [bs]
theorem X2 (a : List UInt8) : (bs a).toList = a := by
 rw [ByteArray.toList_eq]; rfl
theorem Jhr (a : List UInt8) (b : UInt8) : (bs a).push b = bs (a ++ [b]) := by
 apply ByteArray.ext; simp [bs, ByteArray.push]
theorem Jle {a b : List UInt8} : bs a = bs b ↔ a = b := by
 constructor
 ·intro h; have := congrArg ByteArray.toList h; rwa [X2, X2] at this
 ·intro h; rw [h]
theorem ja {x y : Operand} {a b : List UInt8} (hx : Kz l x = some (.string (bs a))) (hy : Kz l y = some (.string (bs b))) (h : a.length + b.length ≤ 9223372036854775807) :
  JP c d l L X ⟨some i, .binOp .add t x y t2, ty, ps, af, gd⟩ (.string (bs (a ++ b))) := fun a' w hf _ => by
 have e1 : ¬ (((bs a).size + (bs b).size : Nat) : Int) > IntKind.i64.max := by
  rw [WR, WR]
  show ¬ (_ > (9223372036854775807 : Int))
  omega
 simp only [execOp]
 rw [hf.eval hx, hf.eval hy]
 simp only [binOp, eqGuard, Op.stringOp, Sem.run_bind]
 simp only [e1, if_false, Jbu]
 rfl
theorem qT (a b : List UInt8) : ((bs a).toList == (bs b).toList) = decide (a = b) := by
 rw [X2, X2]
 by_cases h : a = b <;> simp [h]
theorem Q3 {x y : Operand} {a b : List UInt8} (hx : Kz l x = some (.string (bs a))) (hy : Kz l y = some (.string (bs b))) :
  JP c d l L X ⟨some i, .binOp .eql t x y t2, ty, ps, af, gd⟩ (.bool (decide (a = b))) := fun a' w hf _ => by
 simp only [execOp]
 rw [hf.eval hx, hf.eval hy]
 simp only [binOp, eqGuard, Op.stringOp, Sem.run_bind, qT]
 rfl
theorem ZH {x y : Operand} {a b : List UInt8} (hx : Kz l x = some (.string (bs a))) (hy : Kz l y = some (.string (bs b))) :
  JP c d l L X ⟨some i, .binOp .neq t x y t2, ty, ps, af, gd⟩ (.bool (!decide (a = b))) := fun a' w hf _ => by
 simp only [execOp]
 rw [hf.eval hx, hf.eval hy]
 simp only [binOp, eqGuard, Op.stringOp, Sem.run_bind, qT]
 rfl
theorem JI {x : Operand} {a : List UInt8} (hx : Kz l x = some (.string (bs a))) (ht : jK c.P t = true) :
  JP c d l L X ⟨some i, .call ⟨.builtin .len, #[x], #[t]⟩, ty, ps, af, gd⟩ (.int .i64 (a.length : Nat)) := Jdi hx ht (WR a)
theorem Kp {x y : Operand} {j : Nat} {k : IntKind} {z : Int} {a : List UInt8} {n : Int} (hx : Kz l x = some (.string (bs a))) (hy : Kz l y = some (.int k z)) (hu : jK c.P t = true) (hz : z = (j : Int)) (hj : j < a.length) (hn : ((a.getD j 0).toNat : Int) = n) :
  JP c d l L X ⟨some i, .index t x y, ty, ps, af, gd⟩ (.int .u8 n) := by
 subst hn
 refine yV hx hy (QJ hu) hz ?_
 show (bs a)[j]? = some (a.getD j 0)
 have h1 : j < (bs a).size := by rw [WR]; exact hj
 rw [getElem?_pos (bs a) j h1]
 have h2 : (bs a)[j] = a.getD j 0 := by
  show (bs a).data[j] = _
  simp only [bs, List.getElem_toArray, List.getD_eq_getElem?_getD, List.getElem?_eq_getElem hj, Option.getD_some]
 exact congrArg some h2
def Jdj : Option Int → Int
 | none => 0
 | some z => z
theorem jb (a : List UInt8) (lo hi : Nat) : (bs a).extract lo hi = bs ((a.take hi).drop lo) := by
 apply ByteArray.ext
 simp only [bs, ByteArray.data_extract, List.extract_toArray, List.extract_eq_take_drop]
 rw [List.drop_take]
theorem Qx {x : Operand} {lo hi : Option Operand} {a r : List UInt8} {m n : Nat} {kl kh : Option (IntKind × Int)} (hx : Kz l x = some (.string (bs a))) (ht : jK c.P t = true)
  (hlo : lo.map (Kz l) = kl.map fun p => some (Value.int p.1 p.2)) (hhi : hi.map (Kz l) = kh.map fun p => some (Value.int p.1 p.2)) (hm : Jdj (kl.map (·.2)) = (m : Int)) (hn : (match kh with | none => (a.length : Int) | some p => p.2) = (n : Int)) (h1 : m ≤ n) (h2 : n ≤ a.length) (hr : (a.take n).drop m = r) :
  JP c d l L X ⟨some i, .slice t x lo hi none, ty, ps, af, gd⟩ (.string (bs r)) := fun a' w hf _ => by
 subst hr
 rw [← jb]
 have ex := hf.eval hx
 have e1 : lo.map a'.eval = kl.map fun p => Value.int p.1 p.2 := by
  cases lo with
  | none => cases kl with
   | none => rfl
   | some p => simp at hlo
  | some o => cases kl with
   | none => simp at hlo
   | some p => simp only [Option.map_some, Option.some.injEq] at hlo ⊢; exact hf.eval hlo
 have e2 : hi.map a'.eval = kh.map fun p => Value.int p.1 p.2 := by
  cases hi with
  | none => cases kh with
   | none => rfl
   | some p => simp at hhi
  | some o => cases kh with
   | none => simp at hhi
   | some p => simp only [Option.map_some, Option.some.injEq] at hhi ⊢; exact hf.eval hhi
 simp only [execOp, ex, e1, e2, Option.map_none]
 have hsz := WR a
 cases kl with
 | none =>
  simp only [Option.map_none, Jdj] at hm
  have hm0 : m = 0 := by omega
  subst hm0
  cases kh with
  | none =>
   simp only at hn
   have : n = a.length := by omega
   subst this
   simp [Instr.sliceAt, Instr.slice, Sem.run_bind, KO (QJ ht), Result.andThen, Instr.sliceBounds, hsz, jb]
  | some p =>
   simp only at hn
   simp [Instr.sliceAt, Instr.slice, Sem.run_bind, KO (QJ ht), Result.andThen, Instr.sliceBounds, hsz, Instr.sliceBound, asIntOf, hn, h2]
 | some q =>
  simp only [Option.map_some, Jdj] at hm
  cases kh with
  | none =>
   simp only at hn
   have : n = a.length := by omega
   subst this
   simp [Instr.sliceAt, Instr.slice, Sem.run_bind, KO (QJ ht), Result.andThen, Instr.sliceBounds, hsz, Instr.sliceBound, asIntOf, hm, h1]
  | some p =>
   simp only at hn
   simp [Instr.sliceAt, Instr.slice, Sem.run_bind, KO (QJ ht), Result.andThen, Instr.sliceBounds, hsz, Instr.sliceBound, asIntOf, hn, h2, hm, h1]
end
def YL : Value → Value → Bool
 | .int _ a, .int _ b => a == b
 | .string a, .string b => a.toList == b.toList
 | .bool a, .bool b => a == b
 | _, _ => false
def Vt (P : Program) (e : TypeId) (v : Value) : Bool :=
 match P.underlying e, v with
 | some (.int k), .int k' _ => decide (k' = k)
 | some .string, .string _ => true
 | some .bool, .bool _ => true
 | _, _ => false
def KP : List Value → List Value → Bool
 | x :: xs, y :: ys => YL x y && KP xs ys
 | _, _ => true
theorem qU {P : Program} {e : TypeId} {a b : Value} (ha : Vt P e a = true) (hb : Vt P e b = true) (d : Nat) (w : World) : (Op.equalIn (d + 1) e a b).run P w = .ok (YL a b) w := by
 unfold Vt at ha hb
 cases hu : P.underlying e with
 | none => simp [hu] at ha
 | some D =>
  simp only [hu] at ha hb
  cases D <;> try (simp only [Bool.false_eq_true] at ha; done)
  all_goals (cases a <;> try (simp only [Bool.false_eq_true] at ha; done))
  all_goals (cases b <;> try (simp only [Bool.false_eq_true] at hb; done))
  ·exact run_equalIn_bool' w d e _ _ hu
  ·simp only [decide_eq_true_eq] at ha hb; subst ha; subst hb; exact run_equalIn_int w d e _ _ _ _ hu
  ·exact run_equalIn_string w d e _ _ hu
theorem X3 {P : Program} {e : TypeId} (he : VD P e = some false) {cs : Array Value} {j : Nat} {v : Value} (h : cs[j]? = some v) (w : World) : (part e cs j).run P w = .ok v w := by
 unfold part
 simp [Sem.run_bind, ZF he, Result.andThen, h]
theorem YM {P : Program} {t e n : Nat} {xs ys : List Value} (ht : Zj P t = some (n, e)) (he : VD P e = some false) (hs : Qd P e = some 1) (hx : xs.length = n) (hy : ys.length = n) (h1 : xs.all (Vt P e) = true) (h2 : ys.all (Vt P e) = true) (d : Nat) (w : World) :
  (Op.equalIn (d + 2) t (.agg xs.toArray) (.agg ys.toArray)).run P w = .ok (KP xs ys) w := by
 have hu := qO ht
 obtain ⟨inf, hinf, hsz⟩ : ∃ inf, P.info? e = some inf ∧ inf.size = 1 := by
  unfold Qd at hs
  split at hs
  ·rename_i i hi; exact ⟨i, hi, by simpa using hs⟩
  ·cases hs
 have hc : P.cellsOf e = 1 := by simp [Program.cellsOf, hinf, hsz]
 rw [run_equalIn_array w (d + 1) xs.toArray ys.toArray hu hinf, hc]
 have key : ∀ (m s : Nat) (xs' ys' : List Value), xs.drop s = xs' → ys.drop s = ys' → xs'.length = m → ys'.length = m →
   (Op.eqItems (d + 1) e 1 xs.toArray ys.toArray (List.range' s m)).run P w = .ok (KP xs' ys') w := by
  intro m
  induction m with
  | zero =>
   intro s xs' ys' _ _ h3 h4
   have : xs' = [] := List.eq_nil_of_length_eq_zero h3
   subst this
   simp [KP, Op.eqItems, Sem.run_pure]
  | succ m ih =>
   intro s xs' ys' h1' h2' h3 h4
   cases xs' with
   | nil => simp at h3
   | cons a xs' =>
    cases ys' with
    | nil => simp at h4
    | cons b ys' =>
     have ga : xs[s]? = some a := by have := congrArg (·[0]?) h1'; simpa using this
     have gb : ys[s]? = some b := by have := congrArg (·[0]?) h2'; simpa using this
     have ha : Vt P e a = true := List.all_eq_true.1 h1 a (List.mem_of_getElem? ga)
     have hb : Vt P e b = true := List.all_eq_true.1 h2 b (List.mem_of_getElem? gb)
     rw [List.range'_succ]
     simp only [Op.eqItems, Nat.mul_one, Sem.run_bind, X3 he (show xs.toArray[s]? = some a by simpa using ga), X3 he (show ys.toArray[s]? = some b by simpa using gb), Result.andThen, qU ha hb]
     have := ih (s + 1) xs' ys' (by rw [← List.tail_drop, h1']; rfl) (by rw [← List.tail_drop, h2']; rfl) (by simpa using h3) (by simpa using h4)
     cases hab : YL a b with
     | false => simp [KP, hab]
     | true => simpa [KP, hab] using this
 rw [List.range_eq_range']
 exact key n 0 xs ys rfl rfl hx hy
section
variable {c : Cx} {l : KK} {L : Jy} {X : XP} {Q : Exit → Act → World → Prop} {d : List Deferred}
variable {i : Nat} {v : Value} {t : TypeId} {ps : String} {af : Array Edge} {gd : Option (Nat × Bool)} {ty t2 : TypeId}
theorem X4 {x y : Operand} {e n : Nat} {xs ys : List Value} (hx : Kz l x = some (.agg xs.toArray)) (hy : Kz l y = some (.agg ys.toArray)) (ht : Zj c.P t = some (n, e)) (he : VD c.P e = some false) (hs : Qd c.P e = some 1) (hgt : c.P.eqGuardType c.P.depth t = false) (hlx : xs.length = n) (hly : ys.length = n) (h1 : xs.all (Vt c.P e) = true) (h2 : ys.all (Vt c.P e) = true) :
  JP c d l L X ⟨some i, .binOp .eql t x y t2, ty, ps, af, gd⟩ (.bool (KP xs ys)) := fun a' w hf _ => by
 have hr := YM ht he hs hlx hly h1 h2 9998 w
 simp only [execOp]
 rw [hf.eval hx, hf.eval hy]
 simp [binOp, eqGuard, Op.equal, Op.maxDepth, Sem.run_bind, Result.andThen, run_program, hgt, hr]
theorem Jhs {x y : Operand} {e n : Nat} {xs ys : List Value} (hx : Kz l x = some (.agg xs.toArray)) (hy : Kz l y = some (.agg ys.toArray)) (ht : Zj c.P t = some (n, e)) (he : VD c.P e = some false) (hs : Qd c.P e = some 1) (hgt : c.P.eqGuardType c.P.depth t = false) (hlx : xs.length = n) (hly : ys.length = n) (h1 : xs.all (Vt c.P e) = true) (h2 : ys.all (Vt c.P e) = true) :
  JP c d l L X ⟨some i, .binOp .neq t x y t2, ty, ps, af, gd⟩ (.bool (!KP xs ys)) := fun a' w hf _ => by
 have hr := YM ht he hs hlx hly h1 h2 9998 w
 simp only [execOp]
 rw [hf.eval hx, hf.eval hy]
 simp [binOp, eqGuard, Op.equal, Op.maxDepth, Sem.run_bind, Result.andThen, run_program, hgt, hr]
def bV (b : UInt8) : Value := .int .u8 (b.toNat : Int)
theorem xD {n : Nat} (h : n < 256) : Value.int .u8 (n : Int) = bV (UInt8.ofNat n) := by
 unfold bV
 rw [UInt8.toNat_ofNat', Nat.mod_eq_of_lt h]
theorem YN : ∀ (b a : List UInt8), (b.map fun x => ((x.toNat : Nat) : Int)).foldl (fun (r : ByteArray) (n : Int) => r.push (UInt8.ofNat n.toNat)) (bs a) = bs (a ++ b)
 | [], a => by simp
 | x :: b, a => by
  simp only [List.map_cons, List.foldl_cons, Int.toNat_natCast, UInt8.ofNat_toNat, Jhr]
  rw [YN b]
  simp
theorem wh {P : Program} {w : World} {r : Nat} {cs : Array Value} {e : TypeId} {fr : Nat × Nat} {xs : List Value} (h : w.heap[r]? = some (.cells cs e fr)) (hx : cs.toList.take xs.length = xs) : (loadCells ⟨r, 0, none⟩ xs.length).run P w = .ok xs.toArray w :=
 run_loadCells_list w ⟨r, 0, none⟩ xs fun j v hj => by
  have hlt := (List.getElem?_eq_some_iff.1 hj).1
  have hj2 : cs[j]? = some v := by
   rw [← hx, List.getElem?_take, if_pos hlt] at hj
   simpa using hj
  rw [Yj, Nat.zero_add, Ve h]; exact hj2
theorem Q9 {x : Operand} {row : QH} {b : List UInt8} {e src dst : TypeId} (hx : Kz l x = some (JO b.length row)) (hok : rowOk 1 b.length (b.map bV) row) (hk : ∀ p ∈ Kk e (b.map bV) row, known c L p.1 p.2)
  (hs : KI c.P src = some e) (he : c.P.underlying e = some (.int .u8)) (hd : jK c.P dst = true) :
  JP c d l L X ⟨some i, .convert src dst x, ty, ps, af, gd⟩ (.string (bs b)) := fun a' w hf hst => by
 simp only [execOp]
 rw [hf.eval hx]
 cases row with
 | none =>
  obtain ⟨h1, _⟩ := hok
  have : b = [] := List.eq_nil_of_length_eq_zero h1
  subst this
  simp only [JO, List.length_nil, Sem.run_bind]
  rw [run_convert_bytes_string w src dst e none 0 0 (Kj hs) he (QJ hd)]
  rfl
 | some p =>
  obtain ⟨r, cap, sp⟩ := p
  have hget := hst.known (hk _ List.mem_cons_self)
  have hl := wh (P := c.P) (xs := b.map bV) hget (by simp)
  rw [List.length_map] at hl
  simp only [JO, Sem.run_bind]
  rw [run_convert_bytes_string w src dst e _ _ _ (Kj hs) he (QJ hd)]
  rw [run_bytesToString w _ _ _ (b.map fun x => ((x.toNat : Nat) : Int)) (by rw [hl]; simp [bV, Function.comp_def])]
  have := YN b []
  rw [show (bs [] : ByteArray) = ByteArray.empty from rfl] at this
  rw [this]
  rfl
end
theorem Jlf (off : Nat) : frB (0, 0) off = false := by simp [frB, Nat.blt, Nat.ble]
theorem Jlg {xs : List Value} {off : Nat} {v : Value} (h : xs[off]? = some v) : WM xs.toArray.toList off = some v := by rw [WN]; simpa using h
section
variable {c : Cx} {l : KK} {L : Jy} {X : XP} {Q : Exit → Act → World → Prop} {d : List Deferred}
variable {ops : Array Oper} {rest : List Oper} {i : Nat} {v : Value} {t : TypeId} {ps : String} {af : Array Edge} {gd : Option (Nat × Bool)} {ty : TypeId}
theorem Jm {x : Operand} {r n : Nat} {xs : List Value} {e : TypeId} {fr : Nat × Nat} (hx : Kz l x = some (.pointer (some ⟨r, 0, none⟩))) (hk : known c L r (.cells xs.toArray e fr)) (ht : VD c.P t = some true) (hn : Qd c.P t = some n) (hl : xs.length = n) :
  JP c d l L X ⟨some i, .load t x, ty, ps, af, gd⟩ (.agg xs.toArray) :=
 JT (vs := xs) hx hk ht hn (by simp [← hl]) hl
theorem Yl {x : Operand} {r off : Nat} {xs : List Value} {e : TypeId} {fr : Nat × Nat} (hx : Kz l x = some (.pointer (some ⟨r, off, none⟩))) (hk : known c L r (.cells xs.toArray e fr)) (ht : VD c.P t = some false) (hv : xs[off]? = some v) :
  JP c d l L X ⟨some i, .load t x, ty, ps, af, gd⟩ v := Jc hx hk ht (Jlg hv)
theorem Js {x y : Operand} {k r n : Nat} {cs : Array Value} {ys : List Value} {e : TypeId} {L' : Jy} (hg : Kx l ops ⟨none, .store t x y, ty, ps, af, gd⟩ = some true)
  (hx : Kz l x = some (.pointer (some ⟨r, 0, none⟩))) (hk : L[k]? = some (r, .cells cs e (0, 0))) (hy : Kz l y = some (.agg ys.toArray)) (ht : Qd c.P t = some n) (hn : ys.length = n) (hs : cs.size = n) (ho : ys.all QX = true) (hL : L.set k (r, .cells ys.toArray e (0, 0)) = L')
  (h : HL c d l L' X ops rest Q) : HL c d l L X ops (⟨none, .store t x y, ty, ps, af, gd⟩ :: rest) Q :=
 Jv (n := n) (cs' := ys.toArray) (vs := ys.toArray) hg hx hk hy ht (by simpa using hn) (by simpa using ho) (by omega) (by
  apply Array.toList_inj.1
  simp [← hs]) hL h
theorem WS {x y : Operand} {k r off : Nat} {xs ys : List Value} {e : TypeId} {L' : Jy} (hg : Kx l ops ⟨none, .store t x y, ty, ps, af, gd⟩ = some true)
  (hx : Kz l x = some (.pointer (some ⟨r, off, none⟩))) (hk : L[k]? = some (r, .cells xs.toArray e (0, 0))) (hy : Kz l y = some v) (ht : Qd c.P t = some 1) (ho : QX v = true) (hlt : off < xs.length) (hys : xs.set off v = ys) (hL : L.set k (r, .cells ys.toArray e (0, 0)) = L')
  (h : HL c d l L' X ops rest Q) : HL c d l L X ops (⟨none, .store t x y, ty, ps, af, gd⟩ :: rest) Q :=
 Ju (cs' := ys.toArray) hg hx hk hy ht ho (by simp [hlt]) (Jlf off) (by rw [← hys]; simp) hL h
end
def actAt (c : Cx) (o : Oper) (a : Act) (w : World) (R : Value → World → Prop) : Prop :=
 match (execOp a.eval o).run c.P w with
 | .ok (.value v) w' => R v w'
 | .ok .skip w' => R undef w'
 | .ok (.enter f args) w' => Calls c.P f args w' fun e w2 => ∃ v, e = .returned v ∧ R v w2
 | _ => False
theorem actAt.mono {c : Cx} {o : Oper} {a : Act} {w : World} {R R' : Value → World → Prop} (h : actAt c o a w R) (hR : ∀ v w', R v w' → R' v w') : actAt c o a w R' := by
 unfold actAt at *
 revert h
 cases (execOp a.eval o).run c.P w with
 | halt x w2 => exact id
 | ok x w2 =>
  cases x <;> simp only <;> try exact id
  case value v => exact hR _ _
  case skip => exact hR _ _
  case enter f args => exact fun h => h.mono fun _ _ ⟨v, e, hv⟩ => ⟨v, e, hR _ _ hv⟩
theorem actAt.same {c : Cx} {o : Oper} {a a' : Act} {w : World} {R : Value → World → Prop} (h : actAt c o a w R) (he : execOp a'.eval o = execOp a.eval o) : actAt c o a' w R := by
 unfold actAt at *; rw [he]; exact h
theorem X5 {c : Cx} {o : Oper} {a : Act} {w w' : World} {v : Value} {R : Value → World → Prop} (h : (execOp a.eval o).run c.P w = .ok (.value v) w') (hR : R v w') : actAt c o a w R := by
 unfold actAt; rw [h]; exact hR
theorem wi {c : Cx} {o : Oper} {a : Act} {w w' : World} {R : Value → World → Prop} (h : (execOp a.eval o).run c.P w = .ok .skip w') (hR : R undef w') : actAt c o a w R := by
 unfold actAt; rw [h]; exact hR
theorem YO {c : Cx} {ops : Array Oper} {i : Nat} {o : Oper} {a : Act} {w : World} {R : Value → World → Prop} {K' : Act → World → Prop} {Q' : Exit → Act → World → Prop} (ho : ops[i]? = some o) (hnd : Kq o.op = true)
  (hw : Region.wanted o (yielded ops a.tmps) = true) (h : actAt c o a w R) (hK : ∀ v w', R v w' → K' (a.put o.dst v) w') : wpOpIn (FW c.ro) 0 c.P ops Q' i K' a w := by
 unfold wpOpIn
 simp only [ho]
 rw [if_pos hw]
 refine ⟨KF, ?_⟩
 rw [Oper.semAt_eq _ _ _ (QT hnd)]
 unfold actAt at h
 revert h
 cases (execOp a.eval o).run c.P w with
 | halt x w2 => exact fun h => h.elim
 | ok x w2 =>
  cases x <;> simp only [Oper.uponIn] <;> try exact fun h => h.elim
  case value v => exact hK _ _
  case skip => exact hK _ _
  case enter f args =>
   intro h
   refine ⟨fun hdep => (by cases hdep), ?_⟩
   have hc := callsIn_wide (n := 0) |>.2 h
   refine CallsIn.mono (show CallsIn (FW c.ro) 0 c.P f args w2 _ from hc) ?_
   rintro e w' ⟨v, rfl, hv⟩
   exact hK _ _ hv
structure AE where
  α : Type
  V : α → Value
  G : α → Jy → Jy
  grow : Bool
  hg : grow = true → ∀ (x : α) (E : Jy), List.Sublist E (G x E)
inductive Kd
  | quiet
  | pure
  | act (e : AE)
abbrev yQ := Nat → Kd
section
variable {c : Cx} {X : XP} {S : Jy} {ops : Array Oper} {md : Region.Mode}
def c0 (c : Cx) (w : World) : Cx := ⟨c.P, c.ro, w, [], [], [], c.n⟩
def XT : XP := fun _ _ => True
def YQ (c : Cx) (E : Jy) (X : XP) (ops : Array Oper) (o : Oper) (v : Value) (a : Act) : Prop :=
 (Region.wanted o (yielded ops a.tmps) = true ∧ ∀ w, St c E X w → actAt c o a w fun u w' => u = v ∧ Keep [] w w') ∨ (Region.wanted o (yielded ops a.tmps) = false ∧ v = undef)
def SubS (S E : Jy) : Prop := ∀ p ∈ S, p ∈ E
def YP (c : Cx) (X : XP) (S : Jy) (ops : Array Oper) (o : Oper) (v : Value) (a : Act) : Prop :=
 (Region.wanted o (yielded ops a.tmps) = true ∧ ∀ E, SubS S E → ∀ w, St c E X w → actAt c o a w fun u w' => u = v ∧ Keep [] w w') ∨ (Region.wanted o (yielded ops a.tmps) = false ∧ v = undef)
def YA (c : Cx) (E : Jy) (X : XP) (ops : Array Oper) (o : Oper) (e : AE) (a : Act) : Prop :=
 Region.wanted o (yielded ops a.tmps) = true ∧ ∀ w, St c E X w → actAt c o a w fun u w' => ∃ x, u = e.V x ∧ St c (e.G x E) X w'
theorem YP.quiet {E : Jy} {o : Oper} {v : Value} {a : Act} (h : YP c X S ops o v a) (hE : SubS S E) : YQ c E X ops o v a := h.imp (fun ⟨h1, h2⟩ => ⟨h1, h2 E hE⟩) id
def stA (c : Cx) (X : XP) (S : Jy) (ops : Array Oper) (tb : yQ) (i : Nat) (K : Jy → Act → Prop) (E : Jy) (a : Act) : Prop :=
 ∃ o, ops[i]? = some o ∧ match tb i with
  | .quiet => ∃ v, YQ c E X ops o v a ∧ K E (a.put o.dst v)
  | .pure => ∃ v, YP c X S ops o v a ∧ K E (a.put o.dst v)
  | .act e => (YA c E X ops o e a ∧ ∀ x, SubS S (e.G x E) ∧ K (e.G x E) (a.put o.dst (e.V x))) ∨ (Region.wanted o (yielded ops a.tmps) = false ∧ K E (a.put o.dst undef))
def qV (c : Cx) (X : XP) (S : Jy) (ops : Array Oper) (md : Region.Mode) (tb : yQ) (m : Nat) (T : Jy → Array Bool → Act → Prop) : Nat → Array Bool → Jy → Act → Prop
 | 0, listed, E, a => T E listed a
 | f + 1, listed, E, a => Region.ready md ops listed ≠ [] ∧ ∀ i ∈ Region.ready md ops listed, i < m ∧ stA c X S ops tb i (fun E' a' => qV c X S ops md tb m T f (listed.setIfInBounds i true) E' a') E a
theorem YQ.same {E : Jy} {o : Oper} {v : Value} {a a' : Act} (hy : YQ c E X ops o v a) (he : execOp a'.eval o = execOp a.eval o) (hw : Region.wanted o (yielded ops a'.tmps) = Region.wanted o (yielded ops a.tmps)) : YQ c E X ops o v a' := by
 unfold YQ at *; rw [hw]; exact hy.imp (fun ⟨h1, h2⟩ => ⟨h1, fun w hs => (h2 w hs).same he⟩) id
theorem YP.same {o : Oper} {v : Value} {a a' : Act} (hy : YP c X S ops o v a) (he : execOp a'.eval o = execOp a.eval o) (hw : Region.wanted o (yielded ops a'.tmps) = Region.wanted o (yielded ops a.tmps)) : YP c X S ops o v a' := by
 unfold YP at *; rw [hw]; exact hy.imp (fun ⟨h1, h2⟩ => ⟨h1, fun E hE w hs => (h2 E hE w hs).same he⟩) id
theorem YA.same {E : Jy} {o : Oper} {e : AE} {a a' : Act} (hy : YA c E X ops o e a) (he : execOp a'.eval o = execOp a.eval o) (hw : Region.wanted o (yielded ops a'.tmps) = Region.wanted o (yielded ops a.tmps)) : YA c E X ops o e a' := by
 unfold YA at *; rw [hw]; exact ⟨hy.1, fun w hs => (hy.2 w hs).same he⟩
theorem YQ.weak {o : Oper} {v : Value} {a : Act} {E E' : Jy} (hy : YQ c E X ops o v a) (hs : E.Sublist E') : YQ c E' X ops o v a :=
 hy.imp (fun ⟨h1, h2⟩ => ⟨h1, fun w hw => h2 w (hw.weakL hs)⟩) id
theorem Jlh {tb : yQ} {i : Nat} {K : Jy → Act → Prop} {K' : Act → World → Prop} {Q' : Exit → Act → World → Prop} {E : Jy} {a : Act} {w : World} (hnd : ∀ (j : Nat) (o : Oper), ops[j]? = some o → Kq o.op = true)
  (hs : St c E X w) (hE : SubS S E) (h : ∀ E a w', SubS S E → St c E X w' → K E a → K' a w') (hh : stA c X S ops tb i K E a) : wpOpIn (FW c.ro) 0 c.P ops Q' i K' a w := by
 obtain ⟨o, ho, hm⟩ := hh
 have no : ∀ E, SubS S E → Region.wanted o (yielded ops a.tmps) = false → St c E X w → K E (a.put o.dst undef) → wpOpIn (FW c.ro) 0 c.P ops Q' i K' a w := fun E hE hw hs hk => by
  unfold wpOpIn
  simp only [ho]
  rw [if_neg (by rw [hw]; simp)]
  exact ⟨KF, h E _ w hE hs hk⟩
 have yes : ∀ v, YQ c E X ops o v a → K E (a.put o.dst v) → wpOpIn (FW c.ro) 0 c.P ops Q' i K' a w := fun v hy hk => by
  rcases hy with ⟨hw, hq⟩ | ⟨hw, rfl⟩
  ·exact YO ho (hnd i o ho) hw (hq w hs) fun u w' ⟨e, hk'⟩ => h E _ w' hE (hs.more hk') (e ▸ hk)
  ·exact no E hE hw hs hk
 cases ha : tb i with
 | quiet => rw [ha] at hm; obtain ⟨v, h1, h2⟩ := hm; exact yes v h1 h2
 | pure => rw [ha] at hm; obtain ⟨v, h1, h2⟩ := hm; exact yes v (h1.quiet hE) h2
 | act e =>
  rw [ha] at hm
  rcases hm with ⟨⟨hw, hr⟩, h2⟩ | ⟨hw, h2⟩
  ·exact YO ho (hnd i o ho) hw (hr w hs) fun u w' ⟨x, e', hs'⟩ => h _ _ w' (h2 x).1 hs' (e' ▸ (h2 x).2)
  ·exact no E hE hw hs h2
theorem xE {tb : yQ} {m g : Nat} {T : Jy → Array Bool → Act → Prop} {Q' : Exit → Act → World → Prop} (hnd : ∀ (j : Nat) (o : Oper), ops[j]? = some o → Kq o.op = true)
  (hT : ∀ E listed a w, SubS S E → St c E X w → T E listed a → wpAnyIn (FW c.ro) 0 c.P md ops Q' g listed a w) :
  ∀ (f : Nat) (listed : Array Bool) (E : Jy) (a : Act) (w : World), SubS S E → St c E X w → qV c X S ops md tb m T f listed E a → wpAnyIn (FW c.ro) 0 c.P md ops Q' (f + g) listed a w
 | 0, listed, E, a, w, hE, hw, h => by rw [Nat.zero_add]; exact hT _ _ _ _ hE hw h
 | f + 1, listed, E, a, w, hE, hw, h => by
  rw [show f + 1 + g = (f + g) + 1 from by omega]
  exact ⟨fun h0 => absurd h0 h.1, fun i hi => Jlh hnd hw hE (fun E' a' w' hE' hw' h' => xE hnd hT f _ E' a' w' hE' hw' h') (h.2 i hi).2⟩
def Jdk (md : Region.Mode) (ops : Array Oper) (tb : yQ) (m i : Nat) : Prop :=
 tb i = .quiet → ∀ j e, j < m → tb j = .act e → e.grow = false → ∀ listed, i ∈ Region.ready md ops listed → j ∈ Region.ready md ops listed → False
theorem zd {tb : yQ} {m i : Nat} {oi : Oper} {v : Value} {T : Jy → Array Bool → Act → Prop} (hi : ops[i]? = some oi) (hai : tb i = .quiet ∨ tb i = .pure) (hsel : ∀ (j : Nat) (o : Oper) cs b, ops[j]? = some o → o.op ≠ .select cs b)
  (hbd : Jdk md ops tb m i)
  (hlt : ∀ listed, HeadInv md ops m listed → listed.getD i true = false → ∀ j ∈ Region.ready md ops listed, j < m)
  (hT : ∀ E listed a, T E listed a → ∀ j ∈ Region.ready md ops listed, m ≤ j) :
  ∀ (f : Nat) (listed : Array Bool) (E : Jy) (a : Act), HeadInv md ops m listed →
   (∀ j oj, ops[j]? = some oj → j ≠ i → listed.getD j true = false → (∀ e ∈ oj.after, Region.binds md e = true → e.on ≠ i) → oi.apart ops oj = true) →
   SubS S E → i ∈ Region.ready md ops listed → (YQ c E X ops oi v a ∧ (tb i = .pure → YP c X S ops oi v a)) →
   qV c X S ops md tb m T f (listed.setIfInBounds i true) E (a.put oi.dst v) → qV c X S ops md tb m T (f + 1) listed E a := by
 have self : ∀ {K : Jy → Act → Prop} {E : Jy} {a : Act}, (YQ c E X ops oi v a ∧ (tb i = .pure → YP c X S ops oi v a)) → K E (a.put oi.dst v) → stA c X S ops tb i K E a := by
  intro K E a hy H
  refine ⟨oi, hi, ?_⟩
  rcases hai with h | h <;> rw [h]
  ·exact ⟨v, hy.1, H⟩
  ·exact ⟨v, hy.2 h, H⟩
 intro f
 induction f with
 | zero =>
  intro listed E a inv _ hSE hr hy H
  refine ⟨fun h => (by rw [h] at hr; cases hr), fun j hj => ⟨hlt _ inv (mem_ready.1 hr).1 j hj, ?_⟩⟩
  by_cases hji : j = i
  ·subst hji; exact self hy H
  ·have h1 := hT _ _ _ H j (ready_mono hj hji)
   have h2 := hlt _ inv (mem_ready.1 hr).1 j hj
   omega
 | succ f ih =>
  intro listed E a inv hfree hSE hr hy H
  refine ⟨fun h => (by rw [h] at hr; cases hr), fun j hj => ?_⟩
  have hjm := hlt _ inv (mem_ready.1 hr).1 j hj
  refine ⟨hjm, ?_⟩
  by_cases hji : j = i
  ·subst hji; exact self hy H
  ·obtain ⟨oj, hoj, hm⟩ := (H.2 j (ready_mono hj hji)).2
   obtain ⟨hjun, oj', hoj', hall⟩ := mem_ready.1 hj
   rw [hoj] at hoj'
   cases hoj'
   have hnot : ∀ e ∈ oj.after, Region.binds md e = true → e.on ≠ i := fun e he hb heq => by
    have h2 := hall e he hb
    rw [heq, getD_both (mem_ready.1 hr).1] at h2
    cases h2
   obtain ⟨h1, h2, h3⟩ := Oper.apart_spec (hfree j oj hoj hji hjun hnot)
   have hfree' : ∀ k ok, ops[k]? = some ok → k ≠ i → (listed.setIfInBounds j true).getD k true = false →
     (∀ e ∈ ok.after, Region.binds md e = true → e.on ≠ i) → oi.apart ops ok = true := fun k ok hk hki hun hno => by
    refine hfree k ok hk hki ?_ hno
    by_cases hjk : j = k
    ·subst hjk; exact hjun
    ·rw [getD_set_ne true hjk] at hun; exact hun
   have back1 := fun u => (execOp_put oj (fun cs b => hsel j oj cs b hoj) a oi.dst u h1)
   have back2 := fun u => (wanted_put oj a oi.dst u h1)
   have forth1 := fun u => (execOp_put oi (fun cs b => hsel i oi cs b hi) a oj.dst u h3)
   have forth2 := fun u => (wanted_put oi a oj.dst u h3)
   have go : ∀ E' u, SubS S E' → (E.Sublist E' ∨ tb i = .pure) → qV c X S ops md tb m T f ((listed.setIfInBounds i true).setIfInBounds j true) E' ((a.put oi.dst v).put oj.dst u) →
     qV c X S ops md tb m T (f + 1) (listed.setIfInBounds j true) E' (a.put oj.dst u) := fun E' u hSE' hsub hK => by
    refine ih (listed.setIfInBounds j true) E' (a.put oj.dst u) (inv.set hj hjm) hfree' hSE' (ready_mono hr (Ne.symm hji)) ⟨?_, fun hp => (hy.2 hp).same (forth1 u) (forth2 u)⟩ ?_
    ·rcases hsub with hsub | hp
     ·exact (hy.1.weak hsub).same (forth1 u) (forth2 u)
     ·exact ((hy.2 hp).same (forth1 u) (forth2 u)).quiet hSE'
    ·rw [Array.setIfInBounds_comm _ _ hji, ← Act.put_comm a v u h2]
     exact hK
   refine ⟨oj, hoj, ?_⟩
   cases ha : tb j with
   | quiet => rw [ha] at hm; obtain ⟨u, g1, g2⟩ := hm; exact ⟨u, g1.same (back1 v).symm (back2 v).symm, go E u hSE (.inl (List.Sublist.refl _)) g2⟩
   | pure => rw [ha] at hm; obtain ⟨u, g1, g2⟩ := hm; exact ⟨u, g1.same (back1 v).symm (back2 v).symm, go E u hSE (.inl (List.Sublist.refl _)) g2⟩
   | act e =>
    rw [ha] at hm
    rcases hm with ⟨g1, g2⟩ | ⟨g1, g2⟩
    ·refine .inl ⟨g1.same (back1 v).symm (back2 v).symm, fun x => ⟨(g2 x).1, go _ _ (g2 x).1 ?_ (g2 x).2⟩⟩
     cases hgr : e.grow with
     | true => exact .inl (e.hg hgr x E)
     | false =>
      rcases hai with hq | hp
      ·exact (hbd hq j e hjm ha hgr listed hr hj).elim
      ·exact .inr hp
    ·exact .inr ⟨(back2 v).symm.trans g1, go E undef hSE (.inl (List.Sublist.refl _)) g2⟩
def Zx (c : Cx) (X : XP) (S : Jy) (ops : Array Oper) (tb : yQ) (T : Jy → Act → Prop) : List Oper → Nat → Jy → Act → Prop
 | [], _, E, a => T E a
 | o :: rest, k, E, a => match tb k with
  | .quiet => ∃ v, YQ c E X ops o v a ∧ Zx c X S ops tb T rest (k + 1) E (a.put o.dst v)
  | .pure => ∃ v, YP c X S ops o v a ∧ Zx c X S ops tb T rest (k + 1) E (a.put o.dst v)
  | .act e => (YA c E X ops o e a ∧ ∀ x, SubS S (e.G x E) ∧ Zx c X S ops tb T rest (k + 1) (e.G x E) (a.put o.dst (e.V x))) ∨ (Region.wanted o (yielded ops a.tmps) = false ∧ Zx c X S ops tb T rest (k + 1) E (a.put o.dst undef))
def Kd.isAct : Kd → Bool
 | .act _ => true
 | _ => false
def Kd.isQuiet : Kd → Bool
 | .quiet => true
 | _ => false
def Kd.turns : Kd → Bool
 | .act e => !e.grow
 | _ => false
def Jdl (md : Region.Mode) (ops : Array Oper) (tb : yQ) (g : Nat) : Nat → Nat → Array Bool → Bool
 | 0, k, listed => Region.seqB md ops g k listed
 | f + 1, k, listed => (if (tb k).isAct then decide (Region.ready md ops listed = [k]) else (Region.ready md ops listed).contains k && Region.free md ops listed k) && Jdl md ops tb g f (k + 1) (listed.setIfInBounds k true)
theorem wj {tb : yQ} {m g : Nat} {T : Jy → Act → Prop} (hsel : Region.noSelect ops = true) (hbd : ∀ i, i < m → Jdk md ops tb m i) (hlt : ∀ i, i < m → ∀ listed, HeadInv md ops m listed → listed.getD i true = false → ∀ j ∈ Region.ready md ops listed, j < m)
  (hseq : ∀ listed, Region.seqB md ops g m listed = true → ∀ j ∈ Region.ready md ops listed, m ≤ j) :
  ∀ (l : List Oper) (k : Nat) (listed : Array Bool) (E : Jy) (a : Act), (∀ j, j < l.length → l[j]? = ops[k + j]?) → k + l.length = m → HeadInv md ops m listed → SubS S E →
  Jdl md ops tb g l.length k listed = true → Zx c X S ops tb T l k E a →
  qV c X S ops md tb m (fun E' listed' a' => Region.seqB md ops g m listed' = true ∧ T E' a') l.length listed E a
 | [], k, listed, E, a, _, hk, _, _, hB, h => by
  have : k = m := by simpa using hk
  subst this
  exact ⟨by simpa [Jdl] using hB, h⟩
 | o :: l, k, listed, E, a, hl, hk, inv, hSE, hB, h => by
  have h0 : ops[k]? = some o := by simpa using (hl 0 (by simp)).symm
  simp only [List.length_cons, Jdl, Bool.and_eq_true] at hB
  obtain ⟨hr, hB'⟩ := hB
  have hkm : k < m := by simp only [List.length_cons] at hk; omega
  have next : ∀ E' a', SubS S E' → k ∈ Region.ready md ops listed → Zx c X S ops tb T l (k + 1) E' a' → qV c X S ops md tb m (fun E' listed' a' => Region.seqB md ops g m listed' = true ∧ T E' a') l.length (listed.setIfInBounds k true) E' a' := fun E' a' hSE' hr' hw =>
   wj hsel hbd hlt hseq l (k + 1) _ E' a' (fun j hj => by have := hl (j + 1) (by simp; omega); simpa [Nat.add_assoc, Nat.add_comm 1 j] using this) (by simp only [List.length_cons] at hk; omega) (inv.set hr' hkm) hSE' hB' hw
  unfold Zx at h
  have quiet : (tb k).isAct = false → ∀ v, (tb k = .quiet ∨ tb k = .pure) → (YQ c E X ops o v a ∧ (tb k = .pure → YP c X S ops o v a)) → Zx c X S ops tb T l (k + 1) E (a.put o.dst v) →
    qV c X S ops md tb m (fun E' listed' a' => Region.seqB md ops g m listed' = true ∧ T E' a') (l.length + 1) listed E a := fun hna v hai hy hw => by
   rw [hna] at hr
   simp only [Bool.false_eq_true, if_false, Bool.and_eq_true] at hr
   have hr' : k ∈ Region.ready md ops listed := by simpa using hr.1
   exact zd h0 hai (Region.noSelect_spec hsel) (hbd k hkm) (hlt k hkm) (fun E' listed' a' hL => hseq _ hL.1) l.length listed E a inv (Region.free_spec h0 hr.2) hSE hr' hy (next _ _ hSE hr' hw)
  cases ha : tb k with
  | quiet => rw [ha] at h; obtain ⟨v, hy, hw⟩ := h; exact quiet (by rw [ha]; rfl) v (.inl ha) ⟨hy, fun e => by rw [ha] at e; cases e⟩ hw
  | pure => rw [ha] at h; obtain ⟨v, hy, hw⟩ := h; exact quiet (by rw [ha]; rfl) v (.inr ha) ⟨hy.quiet hSE, fun _ => hy⟩ hw
  | act e =>
   rw [ha] at h hr
   simp only [Kd.isAct, if_true, decide_eq_true_eq] at hr
   have hr' : k ∈ Region.ready md ops listed := by rw [hr]; exact List.mem_cons_self
   refine ⟨fun e => (by rw [e] at hr'; cases hr'), fun i hi => ?_⟩
   rw [hr] at hi
   have hik : i = k := by simpa using hi
   subst hik
   refine ⟨hkm, o, h0, ?_⟩
   rw [ha]
   rcases h with ⟨h1, h2⟩ | ⟨h1, h2⟩
   ·exact .inl ⟨h1, fun x => ⟨(h2 x).1, next _ _ (h2 x).1 hr' (h2 x).2⟩⟩
   ·exact .inr ⟨h1, next _ _ hSE hr' h2⟩
def Jdm : List (Nat × Kd) → yQ
 | [], _ => .quiet
 | (j, p) :: r, k => match Nat.beq k j with | true => p | false => Jdm r k
def onB (md : Region.Mode) (ops : Array Oper) (j i : Nat) : Bool := match ops[j]? with | some o => o.after.any fun e => Region.binds md e && e.on == i | none => false
def Jdn (md : Region.Mode) (ops : Array Oper) (tb : yQ) (m : Nat) : Bool :=
 (List.range m).all fun j => if (tb j).turns then (List.range m).all fun i => !(tb i).isQuiet || onB md ops j i || onB md ops i j else true
theorem qW {j i : Nat} {listed : Array Bool} (h : onB md ops j i = true) (hj : j ∈ Region.ready md ops listed) (hi : i ∈ Region.ready md ops listed) : False := by
 unfold onB at h
 obtain ⟨hjun, oj, hoj, hall⟩ := mem_ready.1 hj
 rw [hoj] at h
 simp only [Array.any_eq_true'] at h
 obtain ⟨e, he, hb⟩ := h
 simp only [Bool.and_eq_true, beq_iff_eq] at hb
 have h2 := hall e he hb.1
 rw [hb.2, getD_both (mem_ready.1 hi).1] at h2
 cases h2
theorem wk {tb : yQ} {m : Nat} (h : Jdn md ops tb m = true) {i : Nat} (hi : i < m) : Jdk md ops tb m i := fun hq j e hj he hg listed hir hjr => by
 have h1 := List.all_eq_true.1 h j (List.mem_range.2 hj)
 rw [he] at h1
 simp only [Kd.turns, hg, Bool.not_false, if_true] at h1
 have h2 := List.all_eq_true.1 h1 i (List.mem_range.2 hi)
 rw [hq] at h2
 simp only [Kd.isQuiet, Bool.not_true, Bool.false_or, Bool.or_eq_true] at h2
 rcases h2 with h2 | h2
 ·exact qW h2 hjr hir
 ·exact qW h2 hir hjr
end
section
variable {c : Cx} {l : KK} {L E : Jy} {X : XP} {Q : Exit → Act → World → Prop} {d : List Deferred}
variable {ops : Array Oper} {rest : List Oper} {i k : Nat} {v : Value} {o : Oper} {tb : yQ} {S : Jy} {T : Jy → Act → Prop}
def HA (c : Cx) (d : List Deferred) (l : KK) (E : Jy) (X : XP) (S : Jy) (ops : Array Oper) (tb : yQ) (rest : List Oper) (k : Nat) (T : Jy → Act → Prop) : Prop :=
 ∀ a, Fr c.n d l a → Zx c X S ops tb T rest k E a
def Jdo (ops : List Oper) (tb : yQ) (m : Nat) : Bool :=
 (ops.all fun o => Kq o.op) && Region.noSelect ops.toArray && Nat.ble m ops.length &&
 (Nat.beq m ops.length || (Region.sinkB .any ops.toArray m && Region.chainB .any ops.toArray m)) && Jdn .any ops.toArray tb m &&
 Jdl .any ops.toArray tb (ops.length - m) m 0 (Array.replicate ops.length false)
theorem Jdp {id : Nat} {ops : List Oper} (S : Jy) (tab : List (Nat × Kd)) (m : Nat) (hm : c.P.follows .mixedOrders = true) (hB : Jdo ops (Jdm tab) m = true) (hSL : SubS S L)
  (h : HA c d l L X S ops.toArray (Jdm tab) (ops.take m) 0 (fun E a' => ∀ w, St c E X w → wpListIn (FW c.ro) 0 c.P ops.toArray Q (ops.drop m) a' w)) : HC c d l L X (.region id ops.toArray true) Q := fun a w hf hs => by
 simp only [Jdo, Bool.and_eq_true, Bool.or_eq_true] at hB
 obtain ⟨⟨⟨⟨⟨h1, hsel⟩, hle⟩, hsc⟩, hcr⟩, hlex⟩ := hB
 have hle' := Nat.le_of_ble_eq_true hle
 have hnd : ∀ (j : Nat) (o : Oper), ops.toArray[j]? = some o → Kq o.op = true := fun j o ho => List.all_eq_true.1 h1 o (List.mem_of_getElem? (by simpa using ho))
 have htl : (ops.take m).length = m := by simp; omega
 have hdl : (ops.drop m).length = ops.length - m := by simp
 have hlt : ∀ i, i < m → ∀ listed, HeadInv .any ops.toArray m listed → listed.getD i true = false → ∀ j ∈ Region.ready .any ops.toArray listed, j < m := by
  intro i hi listed inv hun j hj
  rcases Nat.lt_or_ge j m with hjm | hjm
  exact hjm
  have hjs : j < ops.length := by obtain ⟨_, oj, hoj, _⟩ := mem_ready.1 hj; simpa using (Array.getElem?_eq_some_iff.1 hoj).1
  rcases hsc with h0 | ⟨h2, h3⟩
  have := Nat.eq_of_beq_eq_true h0; omega
  exact absurd hj (tail_waits h2 h3 (by simpa using (show m < ops.length by omega)) inv _ i rfl hi hun j hjm)
 have inv0 : HeadInv .any ops.toArray m (Array.replicate ops.length false) :=
  ⟨by simp, fun j oj _ hl => (by rw [getD_replicate_false] at hl; cases hl), fun t _ ht => getD_in (by simpa using ht) (getD_replicate_false _ _)⟩
 have H := wj (c := c) (X := X) (md := .any) (g := ops.length - m) hsel (fun i hi => wk hcr hi) hlt (fun listed hq => seqB_ready hq) (ops.take m) 0 _ L a
  (fun j hj => by
   have hj' : j < m := by rw [htl] at hj; exact hj
   simp [hj']) (by simpa using htl) inv0 hSL (by rw [htl]; exact hlex) (h a hf)
 refine wpIn_region_any hm ?_
 have := xE (Q' := Q) (g := ops.length - m) hnd (fun E' listed a' w' _ hw' hL => by
  have := VK (ro := c.ro) (P := c.P) (md := .any) (Q' := Q) (ops.drop m) m listed a' w' (fun j => by simp [List.getElem?_drop]) (by rw [hdl]; exact hL.1) (hL.2 w' hw')
  rwa [hdl] at this) _ _ _ _ _ hSL (show St c L X w.drew from hs.drew) H
 rw [htl, show m + (ops.length - m) = ops.toArray.size from by simp; omega] at this
 simpa using this
theorem Jli {tail : List Oper} (h : HL c d l E X ops tail Q) : HA c d l E X S ops tb [] k (fun E' a' => ∀ w, St c E' X w → wpListIn (FW c.ro) 0 c.P ops Q tail a' w) :=
 fun a hf w hs => h a w hf hs
theorem Jow (hg : Kx l ops o = some true) (hd : o.dst = some i) (hi : Nat.ble (i + 1) c.n = true) (hA : tb k = .quiet) (hr : JP c d l E X o v) (h : HA c d ((i, v) :: l) E X S ops tb rest (k + 1) T) : HA c d l E X S ops tb (o :: rest) k T := fun a hf => by
 unfold Zx
 rw [hA]
 refine ⟨v, .inl ⟨JW hf hg, fun w hs => X5 (hr a w hf hs) ⟨rfl, Keep.refl _ _⟩⟩, ?_⟩
 rw [hd]; exact h _ (hf.put (Nat.le_of_ble_eq_true hi))
theorem Jht (hg : Kx l ops o = some true) (hd : o.dst = some i) (hi : Nat.ble (i + 1) c.n = true) (hA : tb k = .pure) (hr : ∀ E', SubS S E' → JP c d l E' X o v) (h : HA c d ((i, v) :: l) E X S ops tb rest (k + 1) T) : HA c d l E X S ops tb (o :: rest) k T := fun a hf => by
 unfold Zx
 rw [hA]
 refine ⟨v, .inl ⟨JW hf hg, fun E' hE' w hs => X5 (hr E' hE' a w hf hs) ⟨rfl, Keep.refl _ _⟩⟩, ?_⟩
 rw [hd]; exact h _ (hf.put (Nat.le_of_ble_eq_true hi))
theorem Jki {v' : Value} (e : v = v') (h : HA c d ((i, v') :: l) E X S ops tb rest k T) : HA c d ((i, v) :: l) E X S ops tb rest k T := e ▸ h
theorem Ym {f : Operand} {args : Array Operand} {at_ : Array TypeId} {g : FuncId} {vs : List Value} {dst : Option Nat} {ty : TypeId} {ps : String} {af : Array Edge} {gd : Option (Nat × Bool)} {a : Act} {w : World} {R : Value → World → Prop}
  (hf : Fr c.n d l a) (hca : Qe l f args = some (g, vs)) (eg : Enters c.P g) (h : Calls c.P g vs.toArray w fun e w2 => ∃ v, e = .returned v ∧ R v w2) : actAt c ⟨dst, .call ⟨.value f, args, at_⟩, ty, ps, af, gd⟩ a w R := by
 unfold actAt
 rw [Vq hf hca c.P w _ rfl eg]
 exact h
theorem Jhu {e : AE} {E' : Jy} (x0 : e.α) (hg : Kx l ops o = some true) (hd : o.dst = none) (hA : tb k = .act e) (hx : ∀ x, e.G x E = E') (hr : ∀ a w, Fr c.n d l a → St c E X w → ∃ w', (execOp a.eval o).run c.P w = .ok .skip w' ∧ St c E' X w') (hu : ∀ x, e.V x = undef) (hS : SubS S E')
  (h : HA c d l E' X S ops tb rest (k + 1) T) : HA c d l E X S ops tb (o :: rest) k T := fun a hf => by
 unfold Zx
 rw [hA]
 refine .inl ⟨⟨JW hf hg, fun w hs => ?_⟩, fun x => ⟨by rw [hx]; exact hS, ?_⟩⟩
 ·obtain ⟨w', h1, h2⟩ := hr a w hf hs
  exact wi h1 ⟨x0, (hu x0).symm, by rw [hx]; exact h2⟩
 ·rw [hd, hx]; exact h _ hf
def Jlj : Jy → Nat → Obj → Jy
 | [], _, _ => []
 | (r, _) :: E, 0, o => (r, o) :: E
 | p :: E, k + 1, o => p :: Jlj E k o
def wl (k : Nat) (ob : Obj) : AE := ⟨Unit, fun _ => undef, fun _ E => Jlj E k ob, false, fun h => by cases h⟩
end
section
variable {c : Cx} {l : KK} {E : Jy} {X : XP} {d : List Deferred}
variable {ops : Array Oper} {rest : List Oper} {i k : Nat} {v : Value} {t : TypeId} {ps : String} {af : Array Edge} {gd : Option (Nat × Bool)} {ty : TypeId} {tb : yQ} {S : Jy} {T : Jy → Act → Prop}
def XG (r : Nat) : Value := .pointer (some ⟨r, 0, none⟩)
def ZI (n r : Nat) : Value := .slice (some ⟨r, 0, none⟩) n n
theorem jc {x y : Operand} {q r off : Nat} {cs cs' : Array Value} {e : TypeId} {E' : Jy} (hg : Kx l ops ⟨none, .store t x y, ty, ps, af, gd⟩ = some true) (hA : tb k = .act (wl q (.cells cs' e (0, 0))))
  (hx : Kz l x = some (.pointer (some ⟨r, off, none⟩))) (hk : E[q]? = some (r, .cells cs e (0, 0))) (hy : Kz l y = some v) (ht : Qd c.P t = some 1) (ho : QX v = true) (hc : (cs[off]?).isSome = true)
  (hcs : cs.setIfInBounds off v = cs') (hL : E.set q (r, .cells cs' e (0, 0)) = E') (hP : Jlj E q (.cells cs' e (0, 0)) = E') (hS : SubS S E')
  (h : HA c d l E' X S ops tb rest (k + 1) T) : HA c d l E X S ops tb (⟨none, .store t x y, ty, ps, af, gd⟩ :: rest) k T :=
 Jhu (e := wl q (.cells cs' e (0, 0))) () hg rfl hA (fun _ => hP) (fun a w hf hs => ⟨w.setCell ⟨r, off, none⟩ v, by
  simp only [execOp]; rw [hf.eval hx, hf.eval hy]
  obtain ⟨old, hold⟩ := Option.isSome_iff_exists.1 hc
  have h1 := run_store c.P w ⟨r, off, none⟩ v .plain (by rw [VJ]; exact ho)
  rw [Ve (hs.get hk), hold, YH (hs.get hk) (Jlf off)] at h1
  have hcell : v.cells = #[v] := by cases v <;> first | rfl | cases ho
  simp [Instr.storeAt, Instr.sureAddr, Sem.run_bind, Result.andThen, storeVar, QG ht, hcell, storeCells, Addr.add, h1], by
  subst hL; subst hcs
  exact hs.set hk (Keep.setCell r off v) (Vp v (hs.get hk))⟩) (fun _ => rfl) hS h
end
open Go Go.RowKit Go.Shelf
section
variable {c : Cx} {l : KK} {L : Jy} {X : XP} {Q : Exit → Act → World → Prop} {K : Act → World → Prop} {d : List Deferred} {ops : Array Oper}
theorem sQ {x y : Code} (h : ∀ K, (∀ {d l L X}, HC c d l L X y Q → HQ c d l L X K) → HC c d l L X x (Exit.then K Q)) : HC c d l L X (x.seq y) Q := Jk5 fun K hK => h K fun {d l L X} => hK d l L X
theorem sR {id : Nat} {os : List Oper} {y : Code} (h : ∀ K, (∀ {d l L X}, HC c d l L X y Q → HQ c d l L X K) → HL c d l L X os.toArray os (Exit.then K Q)) : HC c d l L X (Code.seq (.region id os.toArray false) y) Q := sQ fun K hK => Je (h K hK)
theorem sB {id : Nat} {b y : Code} (h : ∀ K, (∀ {d l L X}, HC c d l L X y Q → HQ c d l L X K) → HC c d l L X b (Exit.inBlock id (Exit.then K Q))) : HC c d l L X (Code.seq (.block id b) y) Q := sQ fun K hK => J3 (h K hK)
theorem nK {y : Code} {Q' : Exit → Act → World → Prop} (hK : ∀ {d l L X}, HC c d l L X y Q' → HQ c d l L X K) (h : HC c d l L X y Q') : HL c d l L X ops [] (Exit.then K Q) := Jt (JU (hK h))
theorem pT {fn : Func} {R : Ending → World → Prop} {tt : Nat} {v : Value} {P : Program} (hP : c.P = P) (hr : fn.results = [ResultVar.tmp tt].toArray) (h : QN l tt = some v) (hR : ∀ w, St c L X w → R (.returned (Q2 [v])) w) : HQ c [] l L X (bodyPostM (FW none) 0 P fn R .ret) := Jp hP hr (.cons (Jk h) .nil) hR
end
def qX : Nat → (Nat × Obj) → Jy → Option Jy
 | 0, x, _ :: L => some (x :: L)
 | n + 1, x, y :: L => match qX n x L with | some r => some (y :: r) | none => none
 | _, _, [] => none
theorem qY : ∀ {k : Nat} {x : Nat × Obj} {L r : Jy}, qX k x L = some r → L.set k x = r
 | 0, x, y :: L, r, h => by unfold qX at h; cases h; rfl
 | n + 1, x, y :: L, r, h => by
  unfold qX at h
  cases e : qX n x L with
  | none => rw [e] at h; cases h
  | some q => rw [e] at h; cases h; rw [List.set_cons_succ, qY e]
 | 0, x, [], r, h => by unfold qX at h; cases h
 | n + 1, x, [], r, h => by unfold qX at h; cases h
def Zy : Nat → List Value → List Value → Option (List Value)
 | 0, [], cs => some cs
 | 0, v :: vs, _ :: cs => match Zy 0 vs cs with | some r => some (v :: r) | none => none
 | n + 1, vs, c :: cs => match Zy n vs cs with | some r => some (c :: r) | none => none
 | _, _, [] => none
theorem ZJ : ∀ {off : Nat} {vs cs r : List Value}, Zy off vs cs = some r → off + vs.length ≤ cs.length ∧ cs.take off ++ vs ++ cs.drop (off + vs.length) = r
 | 0, [], cs, r, h => by unfold Zy at h; cases h; exact ⟨by simp, by simp⟩
 | 0, v :: vs, [], r, h => by unfold Zy at h; cases h
 | 0, v :: vs, c :: cs, r, h => by
  unfold Zy at h
  cases e : Zy 0 vs cs with
  | none => rw [e] at h; cases h
  | some q =>
   rw [e] at h; cases h
   obtain ⟨h1, h2⟩ := ZJ e
   refine ⟨by simp at h1 ⊢; omega, ?_⟩
   rw [← h2]; simp
 | n + 1, vs, [], r, h => by cases vs <;> (unfold Zy at h; cases h)
 | n + 1, vs, c :: cs, r, h => by
  have h : (match Zy n vs cs with | some r => some (c :: r) | none => none) = some r := by cases vs <;> exact h
  cases e : Zy n vs cs with
  | none => rw [e] at h; cases h
  | some q =>
   rw [e] at h; cases h
   obtain ⟨h1, h2⟩ := ZJ e
   refine ⟨by rw [List.length_cons]; omega, ?_⟩
   rw [← h2, show n + 1 + vs.length = (n + vs.length) + 1 by omega]; rfl
def Jne (P : Program) (L : Jy) (l : KK) (ops : Array Oper) (o : Oper) (k : Nat) : Option (Jy × Nat × Nat) :=
 match Kx l ops o with
 | some true => match o.dst with
  | none => match o.op with
   | .store t x y => match Kz l x with
    | some (.pointer (some ⟨r, off, none⟩)) => match L[k]? with
     | some (r', .cells cs e (0, 0)) => match Qd P t with
      | some n => match Kz l y with
       | some (.agg vs) => match Nat.beq vs.size n, vs.toList.all QX, Zy off vs.toList cs.toList with
        | true, true, some r2 => match qX k (r', .cells r2.toArray e (0, 0)) L with
         | some L' => some (L', r, r')
         | none => none
        | _, _, _ => none
       | some v => match Nat.beq n 1, QX v, Zy off [v] cs.toList with
        | true, true, some r2 => match qX k (r', .cells r2.toArray e (0, 0)) L with
         | some L' => some (L', r, r')
         | none => none
        | _, _, _ => none
       | none => none
      | none => none
     | _ => none
    | _ => none
   | _ => none
  | some _ => none
 | _ => none
section
variable {c : Cx} {l : KK} {L : Jy} {X : XP} {Q : Exit → Act → World → Prop} {d : List Deferred} {ops : Array Oper}
theorem Jnf (off : Nat) : frB (0, 0) off = false := by unfold frB; cases off <;> rfl
theorem LT {o : Oper} {rest : List Oper} {L' : Jy} {r r' : Nat} (k : Nat) (hB : Jne c.P L l ops o k = some (L', r, r')) (hr : r = r') (h : HL c d l L' X ops rest Q) : HL c d l L X ops (o :: rest) Q := by
 subst hr
 unfold Jne at hB
 split at hB
 ·rename_i hg
  split at hB
  ·rename_i hd
   split at hB
   ·rename_i t x y ho
    obtain ⟨dst, op, ty, ps, af, gd⟩ := o
    simp only at hd ho
    subst hd ho
    split at hB
    ·rename_i hx
     split at hB
     ·rename_i hk
      split at hB
      ·rename_i ht
       split at hB
       ·rename_i hy
        split at hB
        ·rename_i h1 h2 h3
         split at hB
         ·rename_i h4
          cases hB
          obtain ⟨s1, s2⟩ := ZJ h3
          have h1 := Nat.eq_of_beq_eq_true h1
          refine Jv (k := k) hg hx hk hy ht h1 h2 (by simpa [← h1] using s1) ?_ (qY h4) h
          rw [← s2]; congr 1; simp [← h1]
         ·cases hB
        ·cases hB
       ·rename_i hy
        split at hB
        ·rename_i h1 h2 h3
         split at hB
         ·rename_i h4
          cases hB
          obtain ⟨s1, s2⟩ := ZJ h3
          have h1 := Nat.eq_of_beq_eq_true h1
          subst h1
          simp only [List.length_singleton, Array.length_toList] at s1
          refine Ju (k := k) hg hx hk hy ht h2 (by simp; omega) (Jnf _) ?_ (qY h4) h
          rw [← s2]
          apply Array.toList_inj.1
          simp [List.set_eq_take_append_cons_drop, s1]
          intro hh; omega
         ·cases hB
        ·cases hB
       ·cases hB
      ·cases hB
     ·cases hB
    ·cases hB
   ·cases hB
  ·cases hB
 ·cases hB
end
def Jng (l : KK) (ops : Array Oper) (o : Oper) (n : Nat) : Option Nat := match Kx l ops o, Kq o.op, o.dst with
 | some true, true, some i => match Nat.ble (i + 1) n with | true => some i | false => none
 | _, _, _ => none
def Jnh (l : KK) (ops : Array Oper) (o : Oper) (n : Nat) : Option Nat := match Kx l ops o, o.dst with
 | some false, some i => match Nat.ble (i + 1) n with | true => some i | false => none
 | _, _ => none
section
variable {c : Cx} {l : KK} {L : Jy} {X : XP} {Q : Exit → Act → World → Prop} {d : List Deferred} {ops : Array Oper}
theorem LR {o : Oper} {rest : List Oper} {i : Nat} {v : Value} (hB : Jng l ops o c.n = some i) (hr : JP c d l L X o v) (h : HL c d ((i, v) :: l) L X ops rest Q) : HL c d l L X ops (o :: rest) Q := by
 unfold Jng at hB
 split at hB
 ·split at hB
  ·cases hB; exact Jdb (by assumption) (by assumption) (by assumption) (by assumption) hr h
  ·cases hB
 ·cases hB
theorem LK {o : Oper} {rest : List Oper} {i : Nat} (hB : Jnh l ops o c.n = some i) (h : HL c d ((i, undef) :: l) L X ops rest Q) : HL c d l L X ops (o :: rest) Q := by
 unfold Jnh at hB
 split at hB
 ·split at hB
  ·cases hB; exact ZE (by assumption) (by assumption) (by assumption) h
  ·cases hB
 ·cases hB
end
def XQ : List Value → Option (List Value)
 | [] => some []
 | x :: xs => match XQ xs with | some r => some (x :: r) | none => none
theorem YR : ∀ {xs r : List Value}, XQ xs = some r → xs = r
 | [], r, h => by unfold XQ at h; cases h; rfl
 | x :: xs, r, h => by
  unfold XQ at h
  cases e : XQ xs with
  | none => rw [e] at h; cases h
  | some q => rw [e] at h; cases h; rw [YR e]
def Jni (P : Program) (l : KK) (ops : Array Oper) (o : Oper) (N : Nat) : Option (Nat × List Value × TypeId) :=
 match Kx l ops o with
 | some true => match o.dst with
  | some i => match Nat.ble (i + 1) N with
   | true => match o.op with
    | .box t x => match Kz l x with
     | some v => match XQ v.cells.toList with
      | some r => some (i, r, t)
      | none => none
     | none => none
    | .alloc t => match Qv P t with
     | some z => match XQ z.cells.toList with
      | some r => some (i, r, t)
      | none => none
     | none => none
    | _ => none
   | false => none
  | none => none
 | _ => none
section
variable {c : Cx} {l : KK} {L : Jy} {X : XP} {Q : Exit → Act → World → Prop} {d : List Deferred} {ops : Array Oper}
theorem LN {o : Oper} {rest : List Oper} {i t : Nat} {r : List Value} (hB : Jni c.P l ops o c.n = some (i, r, t)) (h : ∀ b, HL c d ((i, .pointer (some ⟨b, 0, none⟩)) :: l) ((b, .cells r.toArray t (0, 0)) :: L) X ops rest Q) : HL c d l L X ops (o :: rest) Q := by
 unfold Jni at hB
 split at hB
 ·rename_i hg
  split at hB
  ·rename_i hd
   split at hB
   ·rename_i hi
    split at hB
    ·rename_i ho
     obtain ⟨dst, op, ty, ps, af, gd⟩ := o
     simp only at hd ho
     subst hd ho
     split at hB
     ·rename_i hx
      split at hB
      ·rename_i hr; cases hB; exact JX hg hi hx (by rw [← YR hr]) h
      ·cases hB
     ·cases hB
    ·rename_i ho
     obtain ⟨dst, op, ty, ps, af, gd⟩ := o
     simp only at hd ho
     subst hd ho
     split at hB
     ·rename_i hz
      split at hB
      ·rename_i hr; cases hB; exact Jdc hg hi hz (by rw [← YR hr]) h
      ·cases hB
     ·cases hB
    ·cases hB
   ·cases hB
  ·cases hB
 ·cases hB
theorem kn {r : Nat} {o : Obj} (k : Nat) (h : L[k]? = some (r, o)) : known c L r o := Vf h
end
inductive Fm where
  | sq (y : Code)
  | bl (id : Nat)
  | kk (K : Act → World → Prop)
inductive Pt where
  | cd (x : Code)
  | ex (e : Exit)
  | op (ops : Array Oper) (rest : List Oper)
abbrev CtR := Option (KK × List Fm × Pt × List (Nat × Nat))
section
variable {c : Cx} {L : Jy} {X : XP} {Q : Exit → Act → World → Prop} {d : List Deferred}
variable {l l' : KK} {fs fs' : List Fm} {qs : List (Nat × Nat)} {x x' : Code} {e e' : Exit} {ops ops' : Array Oper} {rest rest' : List Oper} {K : Act → World → Prop}
theorem cD {r s p : Prop} (a : r) (b : s) (k : r → s → p := by
 intro za zb
 refine Jl rfl (fun g => ?_) (fun g => ?_) <;> try simp only [ZZ] at g
 ·revert g; exact za
 ·revert g; exact zb) : p := k a b
end
def uV (n : Nat) : Value := .int .u64 (n : Int)
def wV (l : List Nat) : Value := .agg (l.map uV).toArray
def WOk (l : List Nat) : Prop := l.length = 4 ∧ ∀ x ∈ l, x < 18446744073709551616
def dg (l : List Nat) (i : Nat) : Nat := l.getD (i / 8) 0 / 2 ^ (i % 8 * 8) % 256
theorem Jdq (l : List Nat) (i : Nat) : dg l i < 256 := Nat.mod_lt _ (by decide)
theorem Yn {l : List Nat} {j : Nat} (h : j < l.length) : (l.map uV)[j]? = some (.int .u64 ((l.getD j 0 : Nat) : Int)) := by
 simp [h, uV, List.getD_eq_getElem?_getD]
theorem WOk.get {l : List Nat} (h : WOk l) (j : Nat) : l.getD j 0 < 18446744073709551616 := by
 by_cases hj : j < l.length
 ·have : l.getD j 0 ∈ l := by simp [List.getD_eq_getElem?_getD, hj]
  exact h.2 _ this
 ·simp [List.getD_eq_getElem?_getD, List.getElem?_eq_none (Nat.le_of_not_lt hj)]
def pw (f : Nat → Nat) (j : Nat) : Nat → Nat
 | 0 => 0
 | m + 1 => pw f j m + f (8 * j + m) * 2 ^ (m * 8)
theorem Jdr {f : Nat → Nat} (hf : ∀ i, f i < 256) (j : Nat) : ∀ m, pw f j m < 2 ^ (m * 8)
 | 0 => by simp [pw]
 | m + 1 => by
  have h1 := Jdr hf j m
  have h2 := hf (8 * j + m)
  have e : 2 ^ ((m + 1) * 8) = 256 * 2 ^ (m * 8) := by rw [Nat.add_mul, Nat.pow_add, Nat.mul_comm]
  rw [e]
  unfold pw
  have h3 : f (8 * j + m) * 2 ^ (m * 8) ≤ 255 * 2 ^ (m * 8) := Nat.mul_le_mul_right _ (by omega)
  omega
def ZK (f : Nat → Nat) (i : Nat) : List Nat := [pw f 0 (min 8 i), pw f 1 (min 8 (i - 8)), pw f 2 (min 8 (i - 16)), pw f 3 (min 8 (i - 24))]
theorem xF (f : Nat → Nat) {i : Nat} (h : i < 32) : (ZK f i).getD (i / 8) 0 = pw f (i / 8) (i % 8) := by
 have hq : i / 8 = 0 ∨ i / 8 = 1 ∨ i / 8 = 2 ∨ i / 8 = 3 := by omega
 rcases hq with e | e | e | e <;> rw [e] <;> simp only [ZK, List.getD_cons_zero, List.getD_cons_succ] <;> congr 1 <;> omega
theorem Jds (f : Nat → Nat) {i : Nat} (h : i < 32) : (ZK f i).set (i / 8) ((ZK f i).getD (i / 8) 0 + f i * 2 ^ (i % 8 * 8)) = ZK f (i + 1) := by
 rw [xF f h]
 have hq : i / 8 = 0 ∨ i / 8 = 1 ∨ i / 8 = 2 ∨ i / 8 = 3 := by omega
 have hst : pw f (i / 8) (i % 8) + f i * 2 ^ (i % 8 * 8) = pw f (i / 8) (i % 8 + 1) := by
  show _ = pw f (i / 8) (i % 8) + f (8 * (i / 8) + i % 8) * 2 ^ (i % 8 * 8)
  rw [Nat.div_add_mod]
 rw [hst]
 have keep : ∀ j a b, a = b → pw f j a = pw f j b := fun j a b e => by rw [e]
 rcases hq with e | e | e | e <;> rw [e] <;> simp only [ZK, List.set_cons_zero, List.set_cons_succ, List.cons.injEq, and_true] <;>
  refine ⟨keep _ _ _ (by omega), keep _ _ _ (by omega), keep _ _ _ (by omega), keep _ _ _ (by omega)⟩
theorem xG (f : Nat → Nat) (i : Nat) : (ZK f i).length = 4 := rfl
theorem Jdt {f : Nat → Nat} (hf : ∀ i, f i < 256) (i : Nat) : WOk (ZK f i) := by
 refine ⟨rfl, fun x hx => ?_⟩
 have hb : ∀ j m, m ≤ 8 → pw f j m < 18446744073709551616 := fun j m hm =>
  Nat.lt_of_lt_of_le (Jdr hf j m) (show 2 ^ (m * 8) ≤ 2 ^ 64 from Nat.pow_le_pow_right (by decide) (by omega))
 simp only [ZK, List.mem_cons, List.not_mem_nil, or_false] at hx
 rcases hx with rfl | rfl | rfl | rfl <;> exact hb _ _ (Nat.min_le_left _ _)
theorem qh {f g : Nat → Nat} (h : ∀ i, i < 32 → f i = g i) : ZK f 32 = ZK g 32 := by
 have key : ∀ j, j < 4 → ∀ m, m ≤ 8 → pw f j m = pw g j m := by
  intro j hj m
  induction m with
  | zero => intro _; rfl
  | succ m ih =>
   intro hm
   simp only [pw]
   rw [ih (by omega), h (8 * j + m) (by omega)]
 simp only [ZK]
 rw [key 0 (by decide) _ (Nat.min_le_left _ _), key 1 (by decide) _ (Nat.min_le_left _ _), key 2 (by decide) _ (Nat.min_le_left _ _), key 3 (by decide) _ (Nat.min_le_left _ _)]
def Qn (l : List Nat) : Nat → List UInt8
 | 0 => []
 | m + 1 => UInt8.ofNat (dg l m) :: Qn l m
theorem Qj (l : List Nat) : ∀ n, (Qn l n).length = n
 | 0 => rfl
 | n + 1 => by simp [Qn, Qj l n]
theorem qZ (l : List Nat) : ∀ {n m : Nat}, m < n → (Qn l n)[m]? = some (UInt8.ofNat (dg l (n - 1 - m)))
 | 0, m, h => by omega
 | n + 1, 0, h => by simp [Qn]
 | n + 1, m + 1, h => by
  have := qZ l (n := n) (m := m) (by omega)
  simp only [Qn, List.getElem?_cons_succ, this]
  congr 3; omega
theorem xH {α : Type} (z v : α) (t : List α) (m : Nat) : (List.replicate (m + 1) z ++ t).set m v = List.replicate m z ++ v :: t := by
 induction m with
 | zero => rfl
 | succ m ih => rw [List.replicate_succ, List.cons_append, List.set_cons_succ, ih]; rfl
theorem ze {a b n : Nat} (h : a < 2 ^ n) : a ||| b * 2 ^ n = a + b * 2 ^ n := by
 rw [Nat.or_comm, ← Nat.shiftLeft_eq, ← Nat.shiftLeft_add_eq_or_of_lt h, Nat.add_comm]
theorem Jkj {a n : Nat} (h : a < 256) (hn : n ≤ 56) : a * 2 ^ n < 18446744073709551616 := by
 have h1 : 2 ^ n ≤ 2 ^ 56 := Nat.pow_le_pow_right (by decide) hn
 have h2 : a * 2 ^ n ≤ 255 * 2 ^ 56 := Nat.mul_le_mul (by omega) h1
 exact Nat.lt_of_le_of_lt h2 (by decide)
theorem Jhv {a n : Nat} (h : a * 2 ^ n < 18446744073709551616) : IntKind.u64.wrap ((a : Int) * ((2 ^ n : Nat) : Int)) = ((a * 2 ^ n : Nat) : Int) := by
 rw [← Int.natCast_mul]; exact wrap_u64 (by omega) (by omega)
theorem vc (a n : Nat) : (a : Int) / ((2 ^ n : Nat) : Int) = ((a / 2 ^ n : Nat) : Int) := rfl
theorem Jdu {l m : List Nat} {j x : Nat} (h : l.set j x = m) : (l.map uV).set j (uV x) = m.map uV := by rw [← h, List.map_set]
theorem vd {n : Nat} (h : n < 256) : Value.int .u8 (IntKind.u8.wrap (n : Int)) = bV (UInt8.ofNat n) := by
 rw [xw (by omega) (by omega), xD h]
theorem Yo (q : Nat) : Value.int .u8 (IntKind.u8.wrap (q : Int)) = bV (UInt8.ofNat (q % 256)) := by
 rw [← xD (Nat.mod_lt _ (by decide))]
 congr 1
def Zz (s : List UInt8) : List Nat := ZK (fun t => (s.getD (31 - t) 0).toNat) 32
theorem WA (b : UInt8) : b.toNat < 256 := b.toNat_lt
theorem xI (s : List UInt8) : WOk (Zz s) := Jdt (fun _ => WA _) 32
def zW : List Nat := [0, 0, 0, 0]
def Z0 (s : List UInt8) : List Nat × Int := if s.length = 32 then (Zz s, 0) else (zW, 2)
def Jhw (p : List Nat × Int) : Value := .tuple #[wV p.1, .int .i64 p.2]
def xJ (F G : Nat → Nat → Nat → Nat) (a b : List Nat) : Nat → List Nat × Nat
 | 0 => (zW, 0)
 | i + 1 => ((xJ F G a b i).1.set i (F (a.getD i 0) (b.getD i 0) (xJ F G a b i).2), G (a.getD i 0) (b.getD i 0) (xJ F G a b i).2)
theorem xK (F G : Nat → Nat → Nat → Nat) (a b : List Nat) : ∀ i, (xJ F G a b i).1.length = 4
 | 0 => rfl
 | i + 1 => by simp [xJ, xK F G a b i]
def crR (F G : Nat → Nat → Nat → Nat) (a b : List Nat) : List Nat × Int := if (xJ F G a b 4).2 = 0 then ((xJ F G a b 4).1, 0) else (zW, 6)
structure Car (P : Program) (g : FuncId) (F G : Nat → Nat → Nat → Nat) : Prop where
  run : ∀ x y c w, c ≤ 1 → (callFunc g [uV x, uV y, uV c].toArray).run P w = .ok (.value (.tuple #[uV (F x y c), uV (G x y c)])) w
  lt : ∀ x y c, F x y c < 18446744073709551616
  le : ∀ x y c, x < 18446744073709551616 → y < 18446744073709551616 → c ≤ 1 → G x y c ≤ 1
theorem qi {P : Program} {e : TypeId} (h : P.underlying e = some (.int .u64)) (l : List Nat) : (l.map uV).all (Vt P e) = true := by
 simp [List.all_map, List.all_eq_true, uV, Vt, h]
theorem xL : ∀ {a b : List Nat}, a.length = b.length → KP (a.map uV) (b.map uV) = decide (a = b)
 | [], [], _ => by simp [KP]
 | x :: a, y :: b, h => by
  have ih := xL (a := a) (b := b) (by simpa using h)
  simp only [List.map_cons, KP, ih, uV, YL]
  by_cases h1 : x = y <;> by_cases h2 : a = b <;> simp [h1, h2]
  all_goals omega
def wN (l : List Nat) : Nat := l.getD 0 0 + 18446744073709551616 * (l.getD 1 0 + 18446744073709551616 * (l.getD 2 0 + 18446744073709551616 * l.getD 3 0))
theorem WOk.four {l : List Nat} (h : WOk l) : ∃ a b c d, l = [a, b, c, d] ∧ a < 18446744073709551616 ∧ b < 18446744073709551616 ∧ c < 18446744073709551616 ∧ d < 18446744073709551616 := by
 obtain ⟨h1, h2⟩ := h
 match l, h1 with
 | [a, b, c, d], _ => exact ⟨a, b, c, d, rfl, h2 a (by simp), h2 b (by simp), h2 c (by simp), h2 d (by simp)⟩
theorem Jnj {l : List Nat} (h : WOk l) : wN l < 115792089237316195423570985008687907853269984665640564039457584007913129639936 := by
 obtain ⟨a, b, c, d, rfl, h1, h2, h3, h4⟩ := h.four
 simp only [wN, List.getD_cons_zero, List.getD_cons_succ]
 omega
theorem Jlk {l m : List Nat} (h : WOk l) (k : WOk m) (e : wN l = wN m) : l = m := by
 obtain ⟨a, b, c, d, rfl, h1, h2, h3, h4⟩ := h.four
 obtain ⟨a', b', c', d', rfl, k1, k2, k3, k4⟩ := k.four
 simp only [wN, List.getD_cons_zero, List.getD_cons_succ] at e
 have e1 : a = a' := by omega
 have e2 : b = b' := by omega
 have e3 : c = c' := by omega
 have e4 : d = d' := by omega
 rw [e1, e2, e3, e4]
def sm (f : Nat → Nat) : Nat → Nat
 | 0 => 0
 | i + 1 => sm f i + f i * 2 ^ (8 * i)
theorem Joy {x : Nat} (h : x < 18446744073709551616) : x / 1 % 256 * 1 + x / 256 % 256 * 256 + x / 65536 % 256 * 65536 + x / 16777216 % 256 * 16777216 + x / 4294967296 % 256 * 4294967296 + x / 1099511627776 % 256 * 1099511627776 + x / 281474976710656 % 256 * 281474976710656 + x / 72057594037927936 % 256 * 72057594037927936 = x := by omega
theorem xM {l : List Nat} (h : WOk l) {j : Nat} (hj : j < 4) : pw (dg l) j 8 = l.getD j 0 := by
 have hx := Joy (h.get j)
 simp only [pw, dg]
 have e : ∀ u, u < 8 → (8 * j + u) / 8 = j ∧ (8 * j + u) % 8 = u := fun u hu => ⟨by omega, by omega⟩
 rw [(e 0 (by decide)).1, (e 0 (by decide)).2, (e 1 (by decide)).1, (e 1 (by decide)).2, (e 2 (by decide)).1, (e 2 (by decide)).2, (e 3 (by decide)).1, (e 3 (by decide)).2, (e 4 (by decide)).1, (e 4 (by decide)).2, (e 5 (by decide)).1, (e 5 (by decide)).2, (e 6 (by decide)).1, (e 6 (by decide)).2, (e 7 (by decide)).1, (e 7 (by decide)).2]
 simp only [Nat.reduceMul, Nat.reducePow, Nat.zero_add]
 exact hx
theorem Jkk {l : List Nat} (h : WOk l) : ZK (dg l) 32 = l := by
 obtain ⟨a, b, c, d, rfl, h1, h2, h3, h4⟩ := h.four
 have e : ZK (dg [a, b, c, d]) 32 = [pw (dg [a, b, c, d]) 0 8, pw (dg [a, b, c, d]) 1 8, pw (dg [a, b, c, d]) 2 8, pw (dg [a, b, c, d]) 3 8] := rfl
 rw [e, xM h (by decide), xM h (by decide), xM h (by decide), xM h (by decide)]
 rfl
def zf (x y c : Nat) : Nat := (x + y + c) % 18446744073709551616
def zg (x y c : Nat) : Nat := (x + y + c) / 18446744073709551616
def Wv (a b : List Nat) : List Nat × Int := crR zf zg a b
theorem wm (l : List Nat) : (l.map uV).all QX = true := by simp [uV, QX, List.all_map, List.all_eq_true]
theorem Jdv {a b : List Nat} (ha : WOk a) (hb : WOk b) : wN (xJ zf zg a b 4).1 + (xJ zf zg a b 4).2 * 115792089237316195423570985008687907853269984665640564039457584007913129639936 = wN a + wN b := by
 obtain ⟨a0, a1, a2, a3, rfl, h1, h2, h3, h4⟩ := ha.four
 obtain ⟨b0, b1, b2, b3, rfl, k1, k2, k3, k4⟩ := hb.four
 simp only [xJ, zW, List.set_cons_zero, List.set_cons_succ, wN, List.getD_cons_zero, List.getD_cons_succ, zf, zg]
 omega
theorem ve {F G : Nat → Nat → Nat → Nat} (hF : ∀ x y c, F x y c < 18446744073709551616) (a b : List Nat) : ∀ i, WOk (xJ F G a b i).1
 | 0 => ⟨rfl, by simp [xJ, zW]⟩
 | i + 1 => ⟨xK F G a b _, fun x hx => by
  rcases List.mem_or_eq_of_mem_set hx with h | h
  ·exact (ve hF a b i).2 x h
  ·rw [h]; exact hF _ _ _⟩
theorem xN : WOk zW := ⟨rfl, by simp [zW]⟩
theorem X6 (a b : List Nat) : WOk (Wv a b).1 := by
 unfold Wv crR; split
 ·exact ve (fun _ _ _ => Nat.mod_lt _ (by decide)) a b 4
 ·exact xN
def big : Nat := 115792089237316195423570985008687907853269984665640564039457584007913129639936
theorem qj {a b : List Nat} (ha : WOk a) (hb : WOk b) : if wN a + wN b < big then (Wv a b).2 = 0 ∧ wN (Wv a b).1 = wN a + wN b else Wv a b = (zW, 6) := by
 have h := Jdv ha hb
 have hlt := Jnj (ve (G := zg) (F := zf) (fun _ _ _ => Nat.mod_lt _ (by decide)) a b 4)
 unfold Wv crR big
 split
 ·rename_i hs
  have hc : (xJ zf zg a b 4).2 = 0 := by omega
  rw [if_pos hc]
  rw [hc] at h
  exact ⟨rfl, by simpa using h⟩
 ·rename_i hs
  have hc : (xJ zf zg a b 4).2 ≠ 0 := fun hc => by rw [hc] at h; omega
  rw [if_neg hc]
def WT (l : List Nat) : Bool := decide (l = [l.getD 0 0, 0, 0, 0])
def zh (l : List Nat) : Value := .tuple #[uV (if WT l then l.getD 0 0 else 0), .bool (WT l)]
open Go
theorem vb {a b : Bool} (h : a = b) : Value.bool a = Value.bool b := by rw [h]
def jL : Nat → Nat → List UInt8
 | 0, n => [UInt8.ofNat n]
 | f + 1, n => if n < 128 then [UInt8.ofNat n] else UInt8.ofNat (n % 128 + 128) :: jL f (n / 128)
def Vn (n : Nat) : List UInt8 := jL 9 n
section
variable {c : Cx} {l : KK} {L : Jy} {X : XP} {d : List Deferred}
variable {i : Nat} {v : Value} {t : TypeId} {ps : String} {af : Array Edge} {gd : Option (Nat × Bool)} {ty t2 : TypeId}
theorem Jdw {x y : Operand} {k k' : IntKind} {a b r : Int} {ats : Array TypeId} (hx : Kz l x = some (.int k a)) (hy : Kz l y = some (.int k' b)) (hr : (if b < a then b else a) = r) :
  JP c d l L X ⟨some i, .call ⟨.builtin .min, #[x, y], ats⟩, ty, ps, af, gd⟩ (.int k r) := fun a' w hf _ => by
 subst hr
 simp only [execOp, Sem.run_bind, resolve]
 have h1 := hf.eval hx
 have h2 := hf.eval hy
 have h3 := run_min_int2 (P := c.P) (w := w) ats ty k k' a b
 simp [h1, h2, invoke, builtin, Result.andThen, h3]
theorem xO {op : BinOp} {x y : Operand} {m n : Nat} {f : Nat → Nat → Nat} {b : Int} (hf : qS op = some f) (hx : Kz l x = some (.int .u8 (m : Int))) (hy : Kz l y = some (.int .u8 (n : Int))) (hm : m < 256) (hn : n < 256) (hb : ((f m n : Nat) : Int) = b) :
  JP c d l L X ⟨some i, .binOp op t x y t2, ty, ps, af, gd⟩ (.int .u8 b) := fun a' w hfr _ => by
 subst hb
 have e1 : (BitVec.ofInt 8 (m : Int)).toNat = m := by simp [BitVec.toNat_ofInt]; omega
 have e2 : (BitVec.ofInt 8 (n : Int)).toNat = n := by simp [BitVec.toNat_ofInt]; omega
 have hm' : m < 2 ^ 8 := hm
 have hn' : n < 2 ^ 8 := hn
 have wr : ∀ q : Nat, q < 2 ^ 8 → IntKind.u8.wrap (q : Int) = q := fun q hq => xw (by omega) (by omega)
 simp only [execOp]
 rw [hfr.eval hx, hfr.eval hy]
 cases op <;> simp only [qS, Option.some.injEq, reduceCtorEq] at hf
 all_goals subst hf
 ·have := wr (m &&& n) (Nat.lt_of_le_of_lt Nat.and_le_left hm')
  have e3 : (BitVec.ofInt 8 (m : Int) &&& BitVec.ofInt 8 (n : Int)).toNat = m &&& n := by rw [BitVec.toNat_and, e1, e2]
  show Sem.run c.P (pure (Next.value (Value.int .u8 (IntKind.u8.wrap (((BitVec.ofInt 8 (m : Int) &&& BitVec.ofInt 8 (n : Int)).toNat : Nat) : Int))))) w = _
  rw [e3, this]; rfl
 ·have := wr (m ||| n) (Nat.or_lt_two_pow hm' hn')
  have e3 : (BitVec.ofInt 8 (m : Int) ||| BitVec.ofInt 8 (n : Int)).toNat = m ||| n := by rw [BitVec.toNat_or, e1, e2]
  show Sem.run c.P (pure (Next.value (Value.int .u8 (IntKind.u8.wrap (((BitVec.ofInt 8 (m : Int) ||| BitVec.ofInt 8 (n : Int)).toNat : Nat) : Int))))) w = _
  rw [e3, this]; rfl
 ·have := wr (m ^^^ n) (Nat.xor_lt_two_pow hm' hn')
  have e3 : (BitVec.ofInt 8 (m : Int) ^^^ BitVec.ofInt 8 (n : Int)).toNat = m ^^^ n := by rw [BitVec.toNat_xor, e1, e2]
  show Sem.run c.P (pure (Next.value (Value.int .u8 (IntKind.u8.wrap (((BitVec.ofInt 8 (m : Int) ^^^ BitVec.ofInt 8 (n : Int)).toNat : Nat) : Int))))) w = _
  rw [e3, this]; rfl
end
theorem Jnl (m : Nat) : IntKind.u64.wrap (m : Int) = ((m % 18446744073709551616 : Nat) : Int) := by
 have h : IntKind.u64.wrap (m : Int) = (m : Int) % 18446744073709551616 := by rw [IntKind.wrap_u64]
 rw [h]; rfl
def xP (a : Nat) : Nat → Nat → List UInt8 → Nat × Nat × Int
 | _, _, [] => (0, 0, 3)
 | i, n, c :: r => if i = 9 ∧ 1 < c.toNat then (0, 0, 5) else if 128 ≤ c.toNat then xP a (i + 1) (n + c.toNat % 128 * 2 ^ (7 * i)) r else if 0 < i ∧ c.toNat = 0 then (0, 0, 8) else (n + c.toNat % 128 * 2 ^ (7 * i), a + i + 1, 0)
def jd (s : List UInt8) (at_ : Int) : Nat × Nat × Int := if at_ < 0 ∨ at_ > s.length then (0, 0, 1) else xP at_.toNat 0 0 ((s.drop at_.toNat).take 10)
def Jll (p : Nat × Nat × Int) : Value := .tuple #[uV p.1, .int .i64 (p.2.1 : Int), .int .i64 p.2.2]
theorem Jnm {n : Nat} : n % 256 ||| 128 = n % 128 + 128 := by
 have h := ze (a := n % 128) (b := 1) (n := 7) (Nat.mod_lt _ (by decide))
 have e : n % 256 = n % 128 ∨ n % 256 = n % 128 + 128 := by omega
 rcases e with e | e
 ·rw [e]; exact h
 ·rw [e, ← h, Nat.or_assoc]; rfl
theorem Jlm (n : Nat) : n &&& 127 = n % 128 := Nat.and_two_pow_sub_one_eq_mod n 7
structure PureM (P : Program) (f : FuncId) (args : Array Value) (v : Value) (r : Nat) (o o' : Obj) : Prop where
  run : ∀ w, w.heap[r]? = some o → Calls P f args w fun e w' => e = .returned v ∧ Keep [r] w w' ∧ w'.heap[r]? = some o'
section
variable {c : Cx} {l : KK} {L : Jy} {X : XP} {Q : Exit → Act → World → Prop} {d : List Deferred}
variable {ops : Array Oper} {rest : List Oper} {i : Nat} {v : Value} {t : TypeId} {ps : String} {af : Array Edge} {gd : Option (Nat × Bool)} {ty t2 : TypeId}
theorem wn (a : List UInt8) (cap : Nat) : bytesRow (bs a) cap = (a.map bV ++ List.replicate (cap - a.length) (Value.int .u8 0)).toArray := by
 simp only [bytesRow, WR]
 apply Array.toList_inj.1
 simp [bs, bV]
theorem wo {x : Operand} {a : List UInt8} {e src dst : TypeId} (hg : Kx l ops ⟨some i, .convert src dst x, ty, ps, af, gd⟩ = some true) (hi : Nat.ble (i + 1) c.n = true) (hx : Kz l x = some (.string (bs a)))
  (hs : jK c.P src = true) (hd : KI c.P dst = some e) (he : c.P.underlying e = some (.int .u8))
  (h : ∀ r k, HL c d ((i, .slice (some ⟨r, 0, none⟩) a.length (a.length + k)) :: l) ((r, .cells (a.map bV ++ List.replicate k (Value.int .u8 0)).toArray e (a.length + k, a.length + k + 1)) :: L) X ops rest Q) : HL c d l L X ops (⟨some i, .convert src dst x, ty, ps, af, gd⟩ :: rest) Q :=
 V7 (α := Nat × Nat) (V := fun p => .slice (some ⟨p.1, 0, none⟩) a.length (a.length + p.2)) (L' := fun p => (p.1, .cells (a.map bV ++ List.replicate p.2 (Value.int .u8 0)).toArray e (a.length + p.2, a.length + p.2 + 1)) :: L) (X' := fun _ => X) hg rfl rfl hi (fun aa w hf hst => by
  have hr := Go.run_bytes_of_string (P := c.P) w src dst e (bs a) (QJ hs) (Kj hd) he
  have hge := grownCap_ge w (bs a).size 0 e
  rw [wn] at hr
  rw [WR] at hr hge
  obtain ⟨k, hk⟩ : ∃ k, grownCap w a.length 0 e = a.length + k := ⟨grownCap w a.length 0 e - a.length, by omega⟩
  rw [hk, show a.length + k - a.length = k from by omega] at hr
  have hsz : (a.map bV ++ List.replicate k (Value.int .u8 0)).toArray.size = a.length + k := by simp
  rw [hsz] at hr
  refine ⟨(w.heap.size, k), _, ?_, hst.drew.alloc _⟩
  simp only [execOp]
  rw [hf.eval hx]
  simp [Sem.run_bind, hr, Result.andThen]) (fun p => h p.1 p.2)
def je (l : KK) : Option Operand → Option Nat → Prop
 | none, none => True
 | some x, some n => ∃ k, Kz l x = some (.int k (n : Int))
 | _, _ => False
theorem V2 {x : Operand} {lo hi mx : Option Operand} {kl kh km : Option Nat} {r off n cap e sz m q z off' : Nat} (hx : Kz l x = some (.slice (some ⟨r, off, none⟩) n cap)) (ht : KI c.P t = some e) (hsz : Qd c.P e = some sz)
  (hl : je l lo kl) (hh : je l hi kh) (hm : je l mx km) (e1 : kl.getD 0 = m) (e2 : kh.getD n = q) (e3 : km.getD cap = z) (h1 : m ≤ q) (h2 : q ≤ z) (h3 : z ≤ cap) (h4 : kh = none → km = none) (ho : (if z = m then off else off + m * sz) = off') :
  JP c d l L X ⟨some i, .slice t x lo hi mx, ty, ps, af, gd⟩ (.slice (some ⟨r, off', none⟩) (q - m) (z - m)) := fun a' w hf _ => by
 have ex := hf.eval hx
 subst e1 e2 e3 ho
 have low : ∀ {o : Option Operand} {k : Option Nat}, je l o k → (o.map a'.eval = none ∧ k = none) ∨ (∃ y n, o.map a'.eval = some (.int y ((n : Nat) : Int)) ∧ k = some n) := by
  intro o k h
  cases o with
  | none => cases k with
   | none => exact .inl ⟨rfl, rfl⟩
   | some k => exact h.elim
  | some o => cases k with
   | none => exact h.elim
   | some k => obtain ⟨y, hy⟩ := h; exact .inr ⟨y, k, by simp [hf.eval hy], rfl⟩
 simp only [execOp, ex]
 have hadd : ∀ k : Nat, Addr.add ⟨r, off, none⟩ k = ⟨r, off + k, none⟩ := fun k => V9 r off k
 rcases low hl with ⟨f1, rfl⟩ | ⟨y1, n1, f1, rfl⟩ <;> rcases low hh with ⟨f2, rfl⟩ | ⟨y2, n2, f2, rfl⟩ <;> rcases low hm with ⟨f3, rfl⟩ | ⟨y3, n3, f3, rfl⟩ <;> simp only [Option.getD_none, Option.getD_some] at h1 h2 h3 ⊢ <;>
  (try (have := h4 rfl; cases this)) <;> rw [f1, f2, f3] <;>
  simp [Instr.sliceAt, Instr.slice, Sem.run_bind, KO (Kj ht), QG hsz, Result.andThen, Instr.sliceBounds, Instr.sliceBound, asIntOf, h1, h2, h3, hadd]
 all_goals split <;> simp_all
end
end Go.SL
