import Derived.Test.YteceenlfegnigaaGreatDoorZtParsesm
set_option maxRecDepth 100000
namespace Go.SL
set_option linter.all false
open Go.RowKit Go.Shelf
open Go.Proofs (Enters enters_of)
variable {a a' : Act} {K K' : Act → World → Prop} {af : Array Edge} {es : Array MapEntry} {ops : Array Oper} {args : Array Operand} {at_ : Array TypeId} {cs cs2 : Array Value} {op : BinOp} {b : Bool} {assign body code : Code} {τ : Type} {E : Code → τ → Prop} {R : Ending → World → Prop} {Q Q' : Exit → Act → World → Prop} {F : Fence} {fn : Func} {g gf : FuncId} {qs : List (Nat × Nat)} {pa : List (Nat × Operand)} {d : List Deferred} {cs' : List Frame} {ids pp : List Nat} {rest tail : List Oper} {ch : List PanicEntry} {rs : List ResultVar} {s : List UInt8} {caps news vs ys zs : List Value} {α : Type} {xs : List α} {c2 cap clock h i id j m off off' off2 q r r2 sz : Nat} {fr fr2 : Nat × Nat} {o' ob : Obj} {o oi : Oper} {f x y : Operand} {gd : Option (Nat × Bool)} {dst ro : Option Nat} {P : Program} {ps : String} {ι σ : Type} {e e1 e2 kt src t tt ty : TypeId} {v v' z : Value} {dom : Value → Prop} {eq : Value → Value → Bool} {w w' : World} {V : α → Value} {p0 : ι} {nx : ι → List Value → ι → Prop} {fi fin : ι → Prop} {μ : σ → Nat} {I : σ → Prop}
abbrev Jj := List (Nat × Obj)
variable {B E' L L' L0 R' Rl : Jj} {T : Jj → Array Bool → Act → Prop} {LL : α → Jj} {LI : σ → Jj}
abbrev Ko := List (Nat × Value)
variable {l' parts : Ko} {lI : σ → Ko}
theorem Z1 {p : Prop} [Decidable p] : (decide p = true) = p := decide_eq_true_eq
theorem Z2 {p : Prop} [Decidable p] : (decide p = false) ↔ ¬ p := decide_eq_false_iff_not
theorem Z3 [BEq α] [LawfulBEq α] {a b : α} : (a == b) = true ↔ a = b := beq_iff_eq
theorem Z4 [BEq α] [LawfulBEq α] {a b : α} : (a == b) = false ↔ a ≠ b := beq_eq_false_iff_ne
theorem Z5 [BEq α] [LawfulBEq α] {a b : α} : (a != b) = true ↔ a ≠ b := bne_iff_ne
theorem Z6 [BEq α] [LawfulBEq α] {a b : α} : (a != b) = false ↔ a = b := bne_eq_false_iff_eq
theorem Z7 : ((!b) = true) = (b = false) := Bool.not_eq_true' b
theorem Z8 : ((!b) = false) = (b = true) := Bool.not_eq_false' b
theorem Z9 {α : Sort _} {a b : α} : (a ≠ b) = ¬ (a = b) := ne_eq a b
theorem Z10 {a b : Int} : ¬ (a < b) ↔ b ≤ a := Int.not_lt
theorem Z11 {a b : Int} : ¬ (a ≤ b) ↔ b < a := Int.not_le
theorem Z12 [LE α] {a b : α} : (a ≥ b) ↔ (b ≤ a) := ge_iff_le
theorem Z13 [LT α] {a b : α} : (a > b) ↔ (b < a) := gt_iff_lt
theorem ZZ : (∀ {p : Prop} [Decidable p], (decide p = true) = p) ∧ (∀ {p : Prop} [Decidable p], (decide p = false) ↔ ¬ p) ∧ (∀ {α : Type} [BEq α] [LawfulBEq α] {a b : α}, (a == b) = true ↔ a = b) ∧ (∀ {α : Type} [BEq α] [LawfulBEq α] {a b : α}, (a == b) = false ↔ a ≠ b) ∧ (∀ {α : Type} [BEq α] [LawfulBEq α] {a b : α}, (a != b) = true ↔ a ≠ b) ∧ (∀ {α : Type} [BEq α] [LawfulBEq α] {a b : α}, (a != b) = false ↔ a = b) ∧ (∀ {b : Bool}, ((!b) = true) = (b = false)) ∧ (∀ {b : Bool}, ((!b) = false) = (b = true)) ∧ (∀ {α : Type} {a b : α}, (a ≠ b) = ¬ (a = b)) ∧ (∀ {a b : Int}, ¬ (a < b) ↔ b ≤ a) ∧ (∀ {a b : Int}, ¬ (a ≤ b) ↔ b < a) ∧ (∀ {α : Type} [LE α] {a b : α}, (a ≥ b) ↔ (b ≤ a)) ∧ (∀ {α : Type} [LT α] {a b : α}, (a > b) ↔ (b < a)) := ⟨Z1, Z2, Z3, Z4, Z5, Z6, Z7, Z8, Z9, Z10, Z11, Z12, Z13⟩
structure Keep (ids : List Nat) (w w' : World) : Prop where
  os : w'.os = w.os
  tape : w'.tape = w.tape
  output : w'.output = w.output
  size : w.heap.size ≤ w'.heap.size
  block : ∀ k, k < w.heap.size → k ∉ ids → w'.heap[k]? = w.heap[k]?
theorem Keep.refl (ids : List Nat) (w : World) : Keep ids w w := ⟨rfl, rfl, rfl, Nat.le_refl _, fun _ _ _ => rfl⟩
theorem Keep.trans {a b c : World} (h : Keep ids a b) (k : Keep ids b c) : Keep ids a c :=
 ⟨k.os.trans h.os, k.tape.trans h.tape, k.output.trans h.output, Nat.le_trans h.size k.size, fun i hi hn => (k.block i (Nat.lt_of_lt_of_le hi h.size) hn).trans (h.block i hi hn)⟩
theorem Keep.mono {ids' : List Nat} {a b : World} (h : Keep ids a b) (hs : ∀ k ∈ ids, k ∈ ids' ∨ a.heap.size ≤ k) : Keep ids' a b :=
 ⟨h.os, h.tape, h.output, h.size, fun k hk hn => h.block k hk fun hm => (hs k hm).elim hn m0⟩
theorem Keep.weak {ids' : List Nat} {a b : World} (h : Keep ids a b) (hs : ∀ k ∈ ids, k ∈ ids') : Keep ids' a b := h.mono fun k hk => .inl (hs k hk)
theorem Keep.nil {a b : World} (h : Keep [] a b) : Keep ids a b := h.mono mf
theorem Keep.drew : Keep [] w w.drew := ⟨rfl, rfl, rfl, Nat.le_refl _, fun _ _ _ => rfl⟩
theorem Keep.alloc (o : Obj) : Keep [] w (w.alloc o) := ⟨rfl, rfl, rfl, by simp, fun k hk _ => Below.heap_alloc _ _ _ hk⟩
theorem Keep.putObj (r : Nat) (o : Obj) : Keep [r] w (w.putObj r o) :=
 ⟨rfl, rfl, rfl, by simp [World.putObj], fun k _ hn => World.putObj_heap_other (by simpa using hn)⟩
theorem Keep.below (h : Keep [] w w') : Below w.heap.size w w' := ⟨h.os, h.tape, h.output, h.size, fun k hk => h.block k hk mf⟩
theorem Keep.of_below (h : Below w.heap.size w w') : Keep [] w w' := ⟨h.os, h.tape, h.output, h.size, fun k hk _ => h.block k hk⟩
def W1 {α : Type} : List α → Nat → Option α
 | [], _ => none
 | x :: _, 0 => some x
 | _ :: xs, n + 1 => W1 xs n
theorem Vd {α : Type} : ∀ (l : List α) (n : Nat), W1 l n = l[n]?
 | [], _ => rfl
 | _ :: _, 0 => rfl
 | _ :: xs, n + 1 => by simp [W1, Vd xs n]
theorem QO {a : Array α} {n : Nat} {x : α} (h : W1 a.toList n = some x) : a[n]? = some x := by
 rw [Vd] at h; simpa using h
def Vu : Ko → Nat → Option Value
 | [], _ => none
 | (j, v) :: l, i => match Nat.beq i j with | true => some v | false => Vu l i
def Kh (l : Ko) : Operand → Option Value
 | .tmp t => Vu l t
 | .const v => some v
 | .global g => some (.pointer (some ⟨g, 0, none⟩))
 | .func f => some (.func (.func f) #[] #[])
def evT (l : Ko) (x : Operand) : Value := match Kh l x with | some v => v | none => undef
def evs (l : Ko) : List Operand → Option (List Value)
 | [] => some []
 | x :: xs => match Kh l x, evs l xs with | some v, some vs => some (v :: vs) | _, _ => none
def jn (l : Ko) : List Operand → Bool
 | [] => true
 | x :: xs => match Kh l x with | some _ => jn l xs | none => false
structure Cx where
  P : Program
  ro : Option Nat
  w1 : World
  ids : List Nat
  xids : List Nat
  R : Jj
  n : Nat
variable {c c3 : Cx}
structure Fr (n : Nat) (d : List Deferred) (l : Ko) (a : Act) : Prop where
  size : a.tmps.size = n
  defers : a.defers = d
  slots : ∀ i v, Vu l i = some v → a.tmps[i]? = some v
abbrev XP : Type := List Nat → World → Prop
variable {X XF Xb : XP} {X' : α → XP} {XI : σ → XP}
def Zf (xs : List Nat) (X : XP) (w : World) : Prop := ∀ w' : World, (∀ k ∈ xs, w'.heap[k]? = w.heap[k]?) → X xs w'
def XOk (c : Cx) (L : Jj) (X : XP) (w : World) : Prop :=
 ∃ xs : List Nat, (∀ k ∈ xs, (k ∈ c.xids ∨ c.w1.heap.size ≤ k) ∧ k < w.heap.size ∧ ∀ p ∈ L, p.1 ≠ k) ∧ Zf xs X w
structure St (c : Cx) (L : Jj) (X : XP) (w : World) : Prop where
  keep : Keep (c.ids ++ c.xids) c.w1 w
  own : ∀ p ∈ L, (p.1 ∈ c.ids ∨ c.w1.heap.size ≤ p.1) ∧ p.1 ∉ c.xids ∧ w.heap[p.1]? = some p.2
  distinct : L.Pairwise fun p q => p.1 ≠ q.1
  ext : ∀ p ∈ c.R, p.1 ∉ c.ids ∧ p.1 ∉ c.xids ∧ c.w1.heap[p.1]? = some p.2
  xlt : ∀ k ∈ c.xids, k < c.w1.heap.size
  x : XOk c L X w
def FW (ro : Option Nat) : Fence := { Fence.wide with round := ro }
section
variable {c : Cx} {l : Ko} {L : Jj} {X : XP}
theorem Jx {a : Array α} {k : Nat} {o : α} (h : a[k]? = some o) : k < a.size := (Array.getElem?_eq_some_iff.1 h).1
theorem St.readR (h : St c L X w) {p : Nat × Obj} (hp : p ∈ c.R) : w.heap[p.1]? = some p.2 := by
 obtain ⟨h1, h2, h3⟩ := h.ext p hp
 rw [h.keep.block p.1 (Jx h3) (by simp [h1, h2])]
 exact h3
theorem St.drew (h : St c L X w) : St c L X w.drew :=
 ⟨h.keep.trans Keep.drew.nil, h.own, h.distinct, h.ext, h.xlt, h.x⟩
theorem St.more (h : St c L X w) (k : Keep [] w w') : St c L X w' :=
 ⟨h.keep.trans k.nil, fun p hp => let ⟨h1, h2, h3⟩ := h.own p hp; ⟨h1, h2, (k.block p.1 (Jx h3) mf).trans h3⟩, h.distinct, h.ext, h.xlt,
  let ⟨xs, h1, h2⟩ := h.x
  ⟨xs, fun i hi => ⟨(h1 i hi).1, Nat.lt_of_lt_of_le (h1 i hi).2.1 k.size, (h1 i hi).2.2⟩, fun w2 hw2 => h2 w2 fun i hi => (hw2 i hi).trans (k.block i (h1 i hi).2.1 mf)⟩⟩
theorem St.now (h : St c L X w) : ∃ xs, X xs w := let ⟨xs, _, h2⟩ := h.x; ⟨xs, h2 w fun _ _ => rfl⟩
theorem St.alloc (h : St c L X w) (o : Obj) : St c ((w.heap.size, o) :: L) X (w.alloc o) := by
 have h' := h.more (Keep.alloc o)
 obtain ⟨xs, h1, h2⟩ := h.x
 refine ⟨h'.keep, ?_, ?_, h.ext, h.xlt, xs, fun i hi => ⟨(h1 i hi).1, Nat.lt_of_lt_of_le (h1 i hi).2.1 (Keep.alloc o).size, fun p hp => ?_⟩, fun w2 hw2 => h2 w2 fun i hi => (hw2 i hi).trans ((Keep.alloc o).block i (h1 i hi).2.1 mf)⟩
 ·intro p hp
  rcases List.mem_cons.1 hp with rfl | hp
  ·exact ⟨.inr h.keep.size, fun hx => by have := h.xlt _ hx; have := h.keep.size; simp only at *; omega, World.alloc_heap_new w o⟩
  ·exact h'.own p hp
 ·refine List.pairwise_cons.2 ⟨fun p hp => ?_, h.distinct⟩
  have := Jx (h.own p hp).2.2
  simp only; omega
 ·have := (h1 i hi).2.1
  rcases List.mem_cons.1 hp with rfl | hp
  ·simp only; omega
  ·exact (h1 i hi).2.2 p hp
theorem XOk.sub (h : XOk c L X w) (hs : ∀ p ∈ L', ∃ o, (p.1, o) ∈ L) : XOk c L' X w :=
 let ⟨xs, h1, h2⟩ := h
 ⟨xs, fun i hi => ⟨(h1 i hi).1, (h1 i hi).2.1, fun p hp => let ⟨o, ho⟩ := hs p hp; (h1 i hi).2.2 (p.1, o) ho⟩, h2⟩
theorem XOk.turn (h : XOk c L X w) (hk : Keep ids w w') (hi : ∀ k ∈ ids, ∃ o, (k, o) ∈ L) (hs : ∀ p ∈ L', ∃ o, (p.1, o) ∈ L) : XOk c L' X w' :=
 let ⟨xs, h1, h2⟩ := h
 ⟨xs, fun i hx => ⟨(h1 i hx).1, Nat.lt_of_lt_of_le (h1 i hx).2.1 hk.size, fun p hp => let ⟨o, ho⟩ := hs p hp; (h1 i hx).2.2 (p.1, o) ho⟩,
  fun w2 hw2 => h2 w2 fun i hx => (hw2 i hx).trans (hk.block i (h1 i hx).2.1 fun hm => let ⟨_, ho⟩ := hi i hm; (h1 i hx).2.2 _ ho rfl)⟩
theorem Jg3 {L : List α} {k : Nat} {x y : α} (h : y ∈ L.set k x) : y = x ∨ ∃ j, j ≠ k ∧ L[j]? = some y := by
 obtain ⟨j, hj⟩ := List.mem_iff_getElem?.1 h
 rw [List.getElem?_set] at hj
 split at hj
 ·split at hj
  ·exact .inl (by cases hj; rfl)
  ·cases hj
 ·rename_i hne; exact .inr ⟨j, fun e => hne e.symm, hj⟩
theorem jA (h : L.Pairwise fun p q => p.1 ≠ q.1) {p q : Nat × Obj} (hi : L[i]? = some p) (hj : L[j]? = some q) (hne : i ≠ j) : p.1 ≠ q.1 := by
 rw [List.pairwise_iff_getElem] at h
 obtain ⟨hi', rfl⟩ := List.getElem?_eq_some_iff.1 hi
 obtain ⟨hj', rfl⟩ := List.getElem?_eq_some_iff.1 hj
 rcases Nat.lt_or_gt_of_ne hne with hlt | hlt
 ·exact h i j hi' hj' hlt
 ·exact fun e => h j i hj' hi' hlt e.symm
theorem Jbz  {k : Nat} {o : Obj} (hk : L[k]? = some (r, o)) : (L.set k (r, o')).map (·.1) = L.map (·.1) := by
 apply List.ext_getElem?
 intro i
 simp only [List.getElem?_map, List.getElem?_set]
 split
 ·rename_i e; subst e
  obtain ⟨hlt, he⟩ := List.getElem?_eq_some_iff.1 hk
  simp [hlt, he]
 ·rfl
theorem pairwise_map : (L.Pairwise fun p q => p.1 ≠ q.1) ↔ (L.map (·.1)).Pairwise (· ≠ ·) := by
 rw [List.pairwise_map]
theorem St.set  {k : Nat} {o : Obj} (h : St c L X w) (hk : L[k]? = some (r, o)) (hkeep : Keep [r] w w') (hr : w'.heap[r]? = some o') :
  St c (L.set k (r, o')) X w' := by
 have hmem : (r, o) ∈ L := List.mem_of_getElem? hk
 obtain ⟨h1, h2, h3⟩ := h.own _ hmem
 refine ⟨?_, ?_, ?_, h.ext, h.xlt, ?_⟩
 ·refine ⟨hkeep.os.trans h.keep.os, hkeep.tape.trans h.keep.tape, hkeep.output.trans h.keep.output, Nat.le_trans h.keep.size hkeep.size, fun i hi hn => ?_⟩
  refine (hkeep.block i (Nat.lt_of_lt_of_le hi h.keep.size) ?_).trans (h.keep.block i hi hn)
  simp only [List.mem_singleton]
  rintro rfl
  rcases h1 with h1 | h1
  ·exact hn (List.mem_append_left _ h1)
  ·simp only at h1; omega
 ·intro p hp
  rcases Jg3 hp with rfl | ⟨j, hj, hp'⟩
  ·exact ⟨h1, h2, hr⟩
  ·obtain ⟨g1, g2, g3⟩ := h.own p (List.mem_of_getElem? hp')
   refine ⟨g1, g2, (hkeep.block _ (Jx g3) ?_).trans g3⟩
   have := jA h.distinct hp' hk hj
   simpa using this
 ·rw [pairwise_map, Jbz hk, ← pairwise_map]; exact h.distinct
 ·refine h.x.turn hkeep (fun k hm => ⟨o, by simp only [List.mem_singleton] at hm; subst hm; exact hmem⟩) fun p hp => ?_
  rcases Jg3 hp with rfl | ⟨j, _, hp'⟩
  ·exact ⟨o, hmem⟩
  ·exact ⟨p.2, List.mem_of_getElem? hp'⟩
theorem St.weakL (h : St c L X w) (hs : L'.Sublist L) : St c L' X w :=
 ⟨h.keep, fun p hp => h.own p (hs.mem hp), h.distinct.sublist hs, h.ext, h.xlt, h.x.sub fun p hp => ⟨p.2, hs.mem hp⟩⟩
theorem St.weakX {X' : XP} (h : St c L X w) (hx : ∀ xs w, X xs w → X' xs w) : St c L X' w :=
 ⟨h.keep, h.own, h.distinct, h.ext, h.xlt, let ⟨xs, h1, h2⟩ := h.x; ⟨xs, h1, fun w' hw' => hx _ _ (h2 w' hw')⟩⟩
theorem Fr.weak {n : Nat} {l : Ko} (h : Fr n d l a) (hs : ∀ i v, Vu l' i = some v → Vu l i = some v) : Fr n d l' a :=
 ⟨h.size, h.defers, fun i v hv => h.slots i v (hs i v hv)⟩
theorem Fr.put {n : Nat} {l : Ko} (h : Fr n d l a) (hi : i < n) : Fr n d ((i, v) :: l) (a.put (some i) v) := by
 refine ⟨by simp [Act.put, h.size], by simp [Act.put, h.defers], fun j u hu => ?_⟩
 simp only [Vu] at hu
 simp only [Act.put, Array.getElem?_setIfInBounds, h.size]
 by_cases e : j = i
 ·subst e
  rw [Nat.beq_refl] at hu
  simp only [Option.some.injEq] at hu
  simp [hi, hu]
 ·have : Nat.beq j i = false := by
   rw [Bool.eq_false_iff]; intro hb; exact e (Nat.eq_of_beq_eq_true hb)
  rw [this] at hu
  rw [if_neg (fun e' => e e'.symm)]
  exact h.slots j u hu
theorem Fr.eval {n : Nat} {l : Ko} (h : Fr n d l a) (hx : Kh l x = some v) : a.eval x = v := by
 cases x with
 | tmp t => simp only [Act.eval, Array.getD_eq_getD_getElem?, h.slots t v hx]; rfl
 | const u => simpa [Kh, Act.eval] using hx
 | global g => simpa [Kh, Act.eval] using hx
 | func f => simpa [Kh, Act.eval] using hx
theorem zm {l : Ko} : ∀ {xs : List Operand}, jn l xs = true → ∀ x ∈ xs, ∃ v, Kh l x = some v
 | y :: ys, h, x, hx => by
  simp only [jn] at h
  cases hy : Kh l y with
  | none => rw [hy] at h; cases h
  | some v =>
   rw [hy] at h
   rcases List.mem_cons.1 hx with rfl | hx
   ·exact ⟨v, hy⟩
   ·exact zm h x hx
theorem Fr.evals {n : Nat} {l : Ko} (h : Fr n d l a) : ∀ {xs : List Operand} {vs : List Value}, evs l xs = some vs → xs.map a.eval = vs
 | [], vs, hv => by simp only [evs, Option.some.injEq] at hv; subst hv; rfl
 | x :: xs, vs, hv => by
  simp only [evs] at hv
  cases h1 : Kh l x with
  | none => simp [h1] at hv
  | some v =>
   cases h2 : evs l xs with
   | none => simp [h1, h2] at hv
   | some us =>
    simp only [h1, h2, Option.some.injEq] at hv
    subst hv
    rw [List.map_cons, h.eval h1, h.evals h2]
def HC (c : Cx) (d : List Deferred) (l : Ko) (L : Jj) (X : XP) (code : Code) (Q : Exit → Act → World → Prop) : Prop :=
 ∀ a w, Fr c.n d l a → St c L X w → code.wpIn (FW c.ro) 0 c.P Q a w
def HL (c : Cx) (d : List Deferred) (l : Ko) (L : Jj) (X : XP) (ops : Array Oper) (rest : List Oper) (Q : Exit → Act → World → Prop) : Prop :=
 ∀ a w, Fr c.n d l a → St c L X w → wpListIn (FW c.ro) 0 c.P ops Q rest a w
def HQ (c : Cx) (d : List Deferred) (l : Ko) (L : Jj) (X : XP) (Q : Act → World → Prop) : Prop :=
 ∀ a w, Fr c.n d l a → St c L X w → Q a w
variable {Q : Exit → Act → World → Prop} {K : Act → World → Prop} {d : List Deferred}
theorem W5 {x y : Code} (h : ∀ K, (∀ d l L X, HC c d l L X y Q → HQ c d l L X K) → HC c d l L X x (Exit.then K Q)) : HC c d l L X (x.seq y) Q :=
 fun a w hf hs => wpIn_seq_k fun K hK => h K (fun _ _ _ _ hy a w hf hs => hK a w (hy a w hf hs)) a w hf hs
theorem Ka {ops : List Oper} (h : HL c d l L X ops.toArray ops Q) : HC c d l L X (.region id ops.toArray false) Q :=
 fun a w hf hs => wpIn_region_lit (h a w hf hs)
theorem KM (h : HQ c d l L X (Q .normal)) : HL c d l L X ops [] Q := h
theorem wn {b : Code} (h : HC c d l L X b (Exit.inBlock id Q)) : HC c d l L X (.block id b) Q := fun a w hf hs => wpIn_block (h a w hf hs)
theorem Jrx (h : HQ c d l L X (Q (.exit id))) : HC c d l L X (.exit id) Q := fun a w hf hs => wpIn_exit (h a w hf hs)
theorem Jlz (h : HQ c d l L X (Q .ret)) : HC c d l L X .ret Q := fun a w hf hs => wpIn_ret (h a w hf hs)
theorem vC (h : HQ c d l L X (Q .normal)) : HC c d l L X .skip Q := fun a w hf hs => wpIn_skip (h a w hf hs)
theorem JH {t e : Code} (hx : Kh l x = some (.bool b)) (ht : b = true → HC c d l L X t Q) (he : b = false → HC c d l L X e Q) : HC c d l L X (.cond x t e) Q :=
 fun a w hf hs => wpIn_cond_split (t := b) (hf.eval hx) (fun h => ht h a w hf hs) (fun h => he h a w hf hs)
theorem Jl0 {t e : Code} (hx : Kh l x = some (.bool true)) (ht : HC c d l L X t Q) : HC c d l L X (.cond x t e) Q := JH hx (fun _ => ht) (fun h => by cases h)
theorem Jl1 {t e : Code} (hx : Kh l x = some (.bool false)) (he : HC c d l L X e Q) : HC c d l L X (.cond x t e) Q := JH hx (fun h => by cases h) (fun _ => he)
theorem Jv {a : Ko} (h : HQ c d a L X K) : HQ c d a L X (Exit.then K Q .normal) := h
theorem Jb0 (h : HQ c d l L X (Q .ret)) : HQ c d l L X (Exit.then K Q .ret) := h
theorem Jb1 (h : HQ c d l L X (Q (.exit id))) : HQ c d l L X (Exit.then K Q (.exit id)) := h
theorem Yp (h : HQ c d l L X (Q .normal)) : HQ c d l L X (Exit.inBlock id Q .normal) := h
theorem Jjr (h : HQ c d l L X (Q .ret)) : HQ c d l L X (Exit.inBlock id Q .ret) := h
theorem Jjs (h : HQ c d l L X (Q .normal)) : HQ c d l L X (Exit.inBlock id Q (.exit id)) := fun a w hf hs => by simp only [Exit.inBlock, if_true]; exact h a w hf hs
theorem Jfb {id' : Nat} (hne : Nat.beq id' id = false) (h : HQ c d l L X (Q (.exit id'))) : HQ c d l L X (Exit.inBlock id Q (.exit id')) := fun a w hf hs => by
 have : id' ≠ id := fun e => by subst e; rw [Nat.beq_refl] at hne; cases hne
 simp only [Exit.inBlock, this, if_false]; exact h a w hf hs
def VW (P : Program) {α : Type} : Sem α → Option α
 | .pure a => some a
 | .program k => VW P (k P)
 | .mark _ k => VW P k
 | _ => none
theorem xx (P : Program) (s : Sem α) : ∀ {a : α}, VW P s = some a → ∀ w, s.run P w = .ok a w := by
 induction s with
 | pure a => intro b h w; simp only [VW, Option.some.injEq] at h; subst h; rfl
 | program k ih => intro b h w; simp only [VW] at h; simp only [Sem.run]; exact ih _ h w
 | mark m k ih => intro b h w; simp only [VW] at h; simp only [Sem.run]; exact ih h w
 | _ => intro b h; simp [VW] at h
theorem Qa {ρ : Operand → Value} : ∀ f, o.about P w ρ = some f → (FW ro).fn f := fun _ _ => trivial
def Kx : Op → Bool
 | .defer _ => false
 | .select _ _ => false
 | _ => true
theorem W6 {o : Op} (h : Kx o = true) : ∀ c, o ≠ .defer c := fun c e => by subst e; cases h
theorem Jjt {o : Op} (h : Kx o = true) : ∀ c b, o ≠ .select c b := fun c b e => by subst e; cases h
theorem QT (hg : Region.wanted o (yielded ops a.tmps) = true) (hn : Kx o.op = true)
  (h : o.uponIn (FW ro) 0 P a (wpListIn (FW ro) 0 P ops Q rest) Q ((execOp a.eval o).run P w)) : wpListIn (FW ro) 0 P ops Q (o :: rest) a w := by
 unfold wpListIn
 rw [if_pos hg]
 refine ⟨Qa, ?_⟩
 rw [Oper.semAt_eq _ _ _ (W6 hn)]
 exact h
def Kp (l : Ko) (ops : Array Oper) (o : Oper) : Option Bool :=
 match o.guard with
 | none => some true
 | some (j, want) => match (ops[j]?).bind (·.dst) with
  | some t => match Vu l t with
   | some (.bool true) => some want
   | some (.bool false) => some (!want)
   | some (.tuple _) => some false
   | _ => none
  | none => none
theorem JD {n : Nat} (hf : Fr n d l a) (h : Kp l ops o = some b) : Region.wanted o (yielded ops a.tmps) = b := by
 unfold Kp at h
 unfold Region.wanted yielded
 split at h
 ·rename_i hg; rw [hg]; simpa using h
 ·rename_i j want hg
  rw [hg]
  split at h
  ·rename_i t ht
   have key : ∀ u, Vu l t = some u → ((ops[j]?).bind (·.dst)).bind (a.tmps[·]?) = some u := fun u hu => by
    simp only [ht, Option.bind_some]; exact hf.slots _ _ hu
   split at h
   ·rename_i hl; simp only [key _ hl]; cases want <;> simpa using h
   ·rename_i hl; simp only [key _ hl]; cases want <;> simpa using h
   ·rename_i hl; simp only [key _ hl]; cases want <;> simpa using h
   ·cases h
  ·cases h
theorem Jg4 (hg : Kp l ops o = some false) (hd : o.dst = some i) (hi : Nat.ble (i + 1) c.n = true)
  (h : HL c d ((i, undef) :: l) L X ops rest Q) : HL c d l L X ops (o :: rest) Q := fun a w hf hs => by
 unfold wpListIn
 rw [if_neg (by rw [JD hf hg]; simp), hd]
 exact ⟨Qa, h _ w (hf.put (Nat.le_of_ble_eq_true hi)) hs⟩
theorem Jp (t : Nat) (ht : Vu l t = some (.bool b))
  (h1 : b = true → HL c d ((t, .bool true) :: l) L X ops rest Q) (h0 : b = false → HL c d ((t, .bool false) :: l) L X ops rest Q) : HL c d l L X ops rest Q := fun a w hf hs => by
 have key : ∀ b', b' = b → Fr c.n d ((t, .bool b') :: l) a := fun b' e => hf.weak fun i v hv => by
  simp only [Vu] at hv
  by_cases e' : i = t
  ·subst e'; rw [Nat.beq_refl] at hv; subst e; rw [ht]; exact hv
  ·rw [show Nat.beq i t = false from by rw [Bool.eq_false_iff]; exact fun hb => e' (Nat.eq_of_beq_eq_true hb)] at hv; exact hv
 cases hb : b with
 | true => exact h1 hb a w (key true hb.symm) hs
 | false => exact h0 hb a w (key false hb.symm) hs
theorem Jl2 (hg : Kp l ops o = some true) (hn : Kx o.op = true) (hd : o.dst = some i) (hi : Nat.ble (i + 1) c.n = true)
  (hr : ∀ a w, Fr c.n d l a → St c L X w → ∃ w', (execOp a.eval o).run c.P w = .ok (.value v) w' ∧ St c L' X w')
  (h : HL c d ((i, v) :: l) L' X ops rest Q) : HL c d l L X ops (o :: rest) Q := fun a w hf hs => by
 obtain ⟨w', hrun, hs'⟩ := hr a w hf hs
 refine QT (JD hf hg) hn ?_
 rw [hrun, Oper.uponIn_value, hd]
 exact h _ w' (hf.put (Nat.le_of_ble_eq_true hi)) hs'
theorem xy (hg : Kp l ops o = some true) (hn : Kx o.op = true) (hd : o.dst = none)
  (hr : ∀ a w, Fr c.n d l a → St c L X w → ∃ w', (execOp a.eval o).run c.P w = .ok .skip w' ∧ St c L' X w')
  (h : HL c d l L' X ops rest Q) : HL c d l L X ops (o :: rest) Q := fun a w hf hs => by
 obtain ⟨w', hrun, hs'⟩ := hr a w hf hs
 refine QT (JD hf hg) hn ?_
 rw [hrun, Oper.uponIn_skip, hd]
 exact h _ w' hf hs'
theorem Jl3 {n : Nat} (hf : Fr n d l a) (hn : Kx o.op = true) (hk : jn l o.op.operands.toList = true) : execOp a.eval o = execOp (evT l) o :=
 execOp_congr o (Jjt hn) fun x hx => by
  obtain ⟨v, hv⟩ := zm hk x MP
  rw [hf.eval hv, evT, hv]
def J9 (c : Cx) (d : List Deferred) (l : Ko) (L : Jj) (X : XP) (o : Oper) (v : Value) : Prop :=
 ∀ a w, Fr c.n d l a → St c L X w → (execOp a.eval o).run c.P w = .ok (.value v) w
theorem jB (hg : Kp l ops o = some true) (hn : Kx o.op = true) (hd : o.dst = some i) (hi : Nat.ble (i + 1) c.n = true)
  (hr : J9 c d l L X o v) (h : HL c d ((i, v) :: l) L X ops rest Q) : HL c d l L X ops (o :: rest) Q :=
 Jl2 hg hn hd hi (fun a w hf hs => ⟨w, hr a w hf hs, hs⟩) h
theorem J1 (hn : Kx o.op = true) (hk : jn l o.op.operands.toList = true) (hv : VW c.P (execOp (evT l) o) = some (.value v)) : J9 c d l L X o v :=
 fun a w hf _ => by rw [Jl3 hf hn hk]; exact xx _ _ hv w
theorem Jk (e : v = v') (h : HL c d ((i, v') :: l) L X ops rest Q) : HL c d ((i, v) :: l) L X ops rest Q := e ▸ h
theorem YC {t : Nat} {z : Operand} (hx : Kh l x = some (.bool true)) (hv : Kh l y = some v) : J9 c d l L X ⟨some i, .pick x y z, t, ps, af, gd⟩ v :=
 fun a w hf _ => by simp only [execOp, Sem.run_bind]; rw [hf.eval hx, hf.eval hv]; rfl
theorem YD {t : Nat} {z : Operand} (hx : Kh l x = some (.bool false)) (hv : Kh l z = some v) : J9 c d l L X ⟨some i, .pick x y z, t, ps, af, gd⟩ v :=
 fun a w hf _ => by simp only [execOp, Sem.run_bind]; rw [hf.eval hx, hf.eval hv]; rfl
theorem Qp {t ix : Nat} {vs : Array Value} (hx : Kh l x = some (.tuple vs)) (hv : W1 vs.toList ix = some v) : J9 c d l L X ⟨some i, .extract x ix, t, ps, af, gd⟩ v :=
 fun a w hf _ => by simp only [execOp]; rw [hf.eval hx]; simp [Instr.extract, QO hv]
theorem Jf {t : Nat} (hv : Kh l x = some v) :
  J9 c d l L X ⟨some i, .move x, t, ps, af, gd⟩ (v) := fun a w hf hs => by simp only [execOp]; rw [hf.eval hv]; rfl
theorem JP {t : Nat} (hv : Kh l x = some v) :
  J9 c d l L X ⟨some i, .assign x, t, ps, af, gd⟩ (v) := fun a w hf hs => by simp only [execOp]; rw [hf.eval hv]; rfl
def Jry (l : Ko) (ops : Array Oper) (o : Oper) (n : Nat) (x : Operand) : Option (Nat × Value) := match Kp l ops o, o.dst, Kh l x with | some true, some i, some v => (match Nat.ble (i + 1) n with | true => some (i, v) | false => none) | _, _, _ => none
theorem Jg5 {l : Ko} {n : Nat} {q : Nat × Value} (h : Jry l ops o n x = some q) : Kp l ops o = some true ∧ o.dst = some q.1 ∧ Kh l x = some q.2 ∧ Nat.ble (q.1 + 1) n = true := by
 unfold Jry at h
 split at h
 ·split at h
  ·cases h; exact ⟨by assumption, by assumption, by assumption, by assumption⟩
  ·cases h
 ·cases h
def mvB (l : Ko) (ops : Array Oper) (o : Oper) (n : Nat) : Option (Nat × Value) := match o.op with | .move x => Jry l ops o n x | .assign x => Jry l ops o n x | _ => none
theorem QK (hB : mvB l ops o c.n = some (i, v)) (h : HL c d ((i, v) :: l) L X ops rest Q) : HL c d l L X ops (o :: rest) Q := by
 obtain ⟨dst, op, t, ps, af, gd⟩ := o
 unfold mvB at hB
 split at hB
 ·rename_i e; simp only at e; subst e; obtain ⟨h1, h2, h3, h4⟩ := Jg5 hB; simp only at h2; subst h2; exact jB h1 rfl rfl h4 (Jf h3) h
 ·rename_i e; simp only at e; subst e; obtain ⟨h1, h2, h3, h4⟩ := Jg5 hB; simp only at h2; subst h2; exact jB h1 rfl rfl h4 (JP h3) h
 ·cases hB
def prB (P : Program) (l : Ko) (ops : Array Oper) (o : Oper) (n : Nat) : Option (Nat × Value) := match Kp l ops o, o.dst, Kx o.op, jn l o.op.operands.toList, VW P (execOp (evT l) o) with | some true, some i, true, true, some (.value v) => (match Nat.ble (i + 1) n with | true => some (i, v) | false => none) | _, _, _, _, _ => none
theorem V7 (hB : prB c.P l ops o c.n = some (i, v)) (h : HL c d ((i, v) :: l) L X ops rest Q) : HL c d l L X ops (o :: rest) Q := by
 unfold prB at hB
 split at hB
 ·split at hB
  ·cases hB; exact jB m9 m9 m9 m9 (J1 m9 m9 m9) h
  ·cases hB
 ·cases hB
end
def QL (P : Program) (t : TypeId) : Option Value := match P.info? t with | some i => i.zero | none => none
def KQ (P : Program) (t : TypeId) : Option Nat := match P.info? t with | some i => some i.size | none => none
def Wg (P : Program) (t : TypeId) : Option Bool := match P.underlying t with | some (.struct _) => some true | some (.array _ _) => some true | some _ => some false | none => none
def frB : Nat × Nat → Nat → Bool
 | (lo, hi), off => Nat.ble lo off && Nat.blt off hi
def QW : Value → Bool
 | .agg _ | .tuple _ => false
 | _ => true
theorem XR (v : Value) : v.oneCell' = QW v := by cases v <;> rfl
theorem Xz (h : QL P t = some z) (w : World) : (zeroValue t).run P w = .ok z w := by
 unfold QL at h
 split at h
 ·rename_i i hi; simp [zeroValue, typeInfo, hi, h]
 ·cases h
theorem V8 {n : Nat} (h : KQ P t = some n) (w : World) : (sizeOf t).run P w = .ok n w := by
 unfold KQ at h
 split at h
 ·rename_i i hi; cases h; simp [sizeOf, typeInfo, hi]
 ·cases h
theorem jC (h : Wg P t = some b) (w : World) : (isAgg t).run P w = .ok b w := by
 unfold Wg at h
 unfold isAgg
 simp only [Sem.run_bind, underlying, run_program, Result.andThen]
 split at h <;> simp_all [Sem.run_pure] <;> rename_i hu <;> (rw [← h]; split <;> simp_all)
theorem Wn (h : w.heap[r]? = some (.cells cs e fr)) : w.cell? ⟨r, off, none⟩ = cs[off]? := by
 simp [World.cell?, h]
theorem qy (h : w.heap[r]? = some (.cells cs e fr)) (hf : frB fr off = false) : w.frozen? ⟨r, off, none⟩ = false := by
 obtain ⟨lo, hi⟩ := fr
 simp only [frB, Bool.and_eq_false_iff] at hf
 simp only [World.frozen?, h]
 rcases hf with hf | hf
 ·have : ¬ lo ≤ off := fun hle => by rw [Nat.ble_eq_true_of_le hle] at hf; cases hf
  simp [this]
 ·have : ¬ off < hi := fun hlt => by rw [show Nat.blt off hi = true from by rw [Nat.blt_eq]; exact hlt] at hf; cases hf
  simp [this]
theorem heap_setCell_same (v : Value) (h : w.heap[r]? = some (.cells cs e fr)) :
  (w.setCell ⟨r, off, none⟩ v).heap[r]? = some (.cells (cs.setIfInBounds off v) e fr) := by
 have hlt := Jx h
 obtain ⟨_, he⟩ := Array.getElem?_eq_some_iff.1 h
 show (w.heap.modify r _)[r]? = _
 rw [Array.getElem?_eq_getElem (by rw [Array.size_modify]; exact hlt), Array.getElem_modify_self, he]
 rfl
theorem Keep.setCell (r off : Nat) (v : Value) : Keep [r] w (w.setCell ⟨r, off, none⟩ v) :=
 ⟨rfl, rfl, rfl, by simp [World.setCell], fun k _ hn => Below.heap_setCell _ _ _ _ (by simpa using hn)⟩
theorem Keep.setRow (r : Nat) (cs : Array Value) : Keep [r] w (w.setRow r cs) :=
 ⟨rfl, rfl, rfl, by simp [World.setRow], fun k _ hn => by
  simp only [World.setRow, Array.getElem?_modify]
  rw [if_neg (by intro e; exact hn (by simp [e]))]⟩
theorem jD {a : Addr} (ht : Wg P t = some false) (h : w.cell? a = some v) : (loadVar t a).run P w = .ok v w := by
 unfold loadVar
 simp [Sem.run_bind, jC ht, Result.andThen, h]
theorem jE  {n : Nat} (ht : Wg P t = some true) (hn : KQ P t = some n)
  (h : w.heap[r]? = some (.cells cs e fr)) (hv : (cs.toList.drop off).take n = vs) (hl : vs.length = n) : (loadVar t ⟨r, off, none⟩).run P w = .ok (.agg vs.toArray) w := by
 have key := run_loadCells_list (P := P) w ⟨r, off, none⟩ vs (fun j v hj => by
  have hj2 : cs[off + j]? = some v := by
   subst hv
   rw [List.getElem?_take] at hj
   split at hj
   ·rw [List.getElem?_drop] at hj; simpa using hj
   ·cases hj
  by_cases h0 : j = 0
  ·subst h0; simpa [Addr.add, Wn h] using hj2
  ·simp only [Addr.add, h0, if_false, Wn h]; exact hj2)
 rw [hl] at key
 unfold loadVar
 simp [Sem.run_bind, jC ht, V8 hn, Result.andThen, key]
section
variable {c : Cx} {l : Ko} {L : Jj} {X : XP} {Q : Exit → Act → World → Prop} {K : Act → World → Prop} {d : List Deferred}
variable {ops : Array Oper} {rest : List Oper} {i : Nat} {v : Value} {t : TypeId} {ps : String} {af : Array Edge} {gd : Option (Nat × Bool)} {ty : TypeId}
theorem Wo {L' : α → Jj} (hg : Kp l ops o = some true) (hn : Kx o.op = true) (hd : o.dst = some i) (hi : Nat.ble (i + 1) c.n = true)
  (hr : ∀ a w, Fr c.n d l a → St c L X w → ∃ x w', (execOp a.eval o).run c.P w = .ok (.value (V x)) w' ∧ St c (L' x) (X' x) w')
  (h : ∀ x, HL c d ((i, V x) :: l) (L' x) (X' x) ops rest Q) : HL c d l L X ops (o :: rest) Q := fun a w hf hs => by
 obtain ⟨x, w', hrun, hs'⟩ := hr a w hf hs
 refine QT (JD hf hg) hn ?_
 rw [hrun, Oper.uponIn_value, hd]
 exact h x _ w' (hf.put (Nat.le_of_ble_eq_true hi)) hs'
theorem Ql (hg : Kp l ops ⟨some i, .alloc t, ty, ps, af, gd⟩ = some true) (hi : Nat.ble (i + 1) c.n = true) (hz : QL c.P t = some z) (hc : z.cells = cs)
  (h : ∀ r, HL c d ((i, .pointer (some ⟨r, 0, none⟩)) :: l) ((r, .cells cs t (0, 0)) :: L) X ops rest Q) : HL c d l L X ops (⟨some i, .alloc t, ty, ps, af, gd⟩ :: rest) Q :=
 Wo (V := fun r => .pointer (some ⟨r, 0, none⟩)) (L' := fun r => (r, .cells cs t (0, 0)) :: L) (X' := fun _ => X) hg rfl rfl hi (fun a w hf hs => ⟨w.heap.size, w.alloc (.cells cs t), by
  simp [execOp, Instr.alloc, Sem.run_bind, Xz hz, Result.andThen, newVar, newRow, hc], hs.alloc _⟩) h
theorem QX (hg : Kp l ops ⟨some i, .box t x, ty, ps, af, gd⟩ = some true) (hi : Nat.ble (i + 1) c.n = true) (hx : Kh l x = some v) (hc : v.cells = cs)
  (h : ∀ r, HL c d ((i, .pointer (some ⟨r, 0, none⟩)) :: l) ((r, .cells cs t (0, 0)) :: L) X ops rest Q) : HL c d l L X ops (⟨some i, .box t x, ty, ps, af, gd⟩ :: rest) Q :=
 Wo (V := fun r => .pointer (some ⟨r, 0, none⟩)) (L' := fun r => (r, .cells cs t (0, 0)) :: L) (X' := fun _ => X) hg rfl rfl hi (fun a w hf hs => ⟨w.heap.size, w.alloc (.cells cs t), by
  simp only [execOp]; rw [hf.eval hx]
  simp [Instr.box, Result.andThen, newVar, newRow, hc], hs.alloc _⟩) h
theorem St.get (hs : St c L X w) {k : Nat} {o : Obj} (h : L[k]? = some (r, o)) : w.heap[r]? = some o := (hs.own _ (List.mem_of_getElem? h)).2.2
theorem St.getR (hs : St c L X w) {k : Nat} {o : Obj} (h : c.R[k]? = some (r, o)) : w.heap[r]? = some o := hs.readR (List.mem_of_getElem? h)
def known (c : Cx) (L : Jj) (r : Nat) (o : Obj) : Prop := (r, o) ∈ L ∨ (r, o) ∈ c.R
theorem vD {k : Nat} {o : Obj} (h : L[k]? = some (r, o)) : known c L r o := .inl (List.mem_of_getElem? h)
theorem JB {k : Nat} {o : Obj} (h : c.R[k]? = some (r, o)) : known c L r o := .inr (List.mem_of_getElem? h)
theorem St.known {w : World} (hs : St c L X w) {r : Nat} {o : Obj} (h : known c L r o) : w.heap[r]? = some o := h.elim (fun h => (hs.own _ h).2.2) hs.readR
theorem Je (hx : Kh l x = some (.pointer (some ⟨r, off, none⟩))) (hk : known c L r (.cells cs e fr)) (ht : Wg c.P t = some false) (hc : W1 cs.toList off = some v)
  :
  J9 c d l L X ⟨some i, .load t x, ty, ps, af, gd⟩ (v) := fun a w hf hs => by
  simp only [execOp]; rw [hf.eval hx]
  have := jD (P := c.P) (w := w) (a := ⟨r, off, none⟩) ht (by rw [Wn (hs.known hk)]; exact QO hc)
  simp [Instr.loadAt, Instr.sureAddr, Result.andThen, this]
theorem Jo  {n : Nat} (hx : Kh l x = some (.pointer (some ⟨r, off, none⟩))) (hk : known c L r (.cells cs e fr)) (ht : Wg c.P t = some true) (hn : KQ c.P t = some n) (hv : (cs.toList.drop off).take n = vs) (hl : vs.length = n)
  :
  J9 c d l L X ⟨some i, .load t x, ty, ps, af, gd⟩ (.agg vs.toArray) := fun a w hf hs => by
  simp only [execOp]; rw [hf.eval hx]
  have := jE (P := c.P) (w := w) ht hn (hs.known hk) hv hl
  simp [Instr.loadAt, Instr.sureAddr, Result.andThen, this]
theorem Kt  {k : Nat} {cs' : Array Value} (hg : Kp l ops ⟨none, .store t x y, ty, ps, af, gd⟩ = some true)
  (hx : Kh l x = some (.pointer (some ⟨r, off, none⟩))) (hk : L[k]? = some (r, .cells cs e fr)) (hy : Kh l y = some v) (ht : KQ c.P t = some 1) (ho : QW v = true) (hc : (cs[off]?).isSome = true) (hfr : frB fr off = false)
  (hcs : cs.setIfInBounds off v = cs') (hL : L.set k (r, .cells cs' e fr) = L')
  (h : HL c d l L' X ops rest Q) : HL c d l L X ops (⟨none, .store t x y, ty, ps, af, gd⟩ :: rest) Q :=
 xy hg rfl rfl (fun a w hf hs => ⟨w.setCell ⟨r, off, none⟩ v, by
  simp only [execOp]; rw [hf.eval hx, hf.eval hy]
  obtain ⟨old, hold⟩ := Option.isSome_iff_exists.1 hc
  have h1 := run_store c.P w ⟨r, off, none⟩ v .plain (by rw [XR]; exact ho)
  rw [Wn (hs.get hk), hold, qy (hs.get hk) hfr] at h1
  have hcell : v.cells = #[v] := by cases v <;> first | rfl | cases ho
  simp [Instr.storeAt, Instr.sureAddr, Sem.run_bind, Result.andThen, storeVar, V8 ht, hcell, storeCells, Addr.add, h1], by
  subst hL; subst hcs
  exact hs.set hk (Keep.setCell r off v) (heap_setCell_same v (hs.get hk))⟩) h
theorem Ve  {k n : Nat} {cs' vs : Array Value} (hg : Kp l ops ⟨none, .store t x y, ty, ps, af, gd⟩ = some true)
  (hx : Kh l x = some (.pointer (some ⟨r, off, none⟩))) (hk : L[k]? = some (r, .cells cs e (0, 0))) (hy : Kh l y = some (.agg vs)) (ht : KQ c.P t = some n) (hn : vs.size = n) (ho : vs.toList.all QW = true) (hc : off + n ≤ cs.size)
  (hcs : (cs.toList.take off ++ vs.toList ++ cs.toList.drop (off + n)).toArray = cs') (hL : L.set k (r, .cells cs' e (0, 0)) = L')
  (h : HL c d l L' X ops rest Q) : HL c d l L X ops (⟨none, .store t x y, ty, ps, af, gd⟩ :: rest) Q :=
 xy hg rfl rfl (fun a w hf hs => ⟨w.setRow r cs', by
  simp only [execOp]; rw [hf.eval hx, hf.eval hy]
  have h1 := run_storeCells_at (P := c.P) r off e vs.toList 0 cs w (hs.get hk) (by simp [hn]; omega) (fun u hu => by rw [XR]; exact List.all_eq_true.1 ho u hu)
  simp only [Nat.add_zero, Array.length_toList, hn] at h1
  rw [hcs] at h1
  simp [Instr.storeAt, Instr.sureAddr, Sem.run_bind, Result.andThen, storeVar, V8 ht, Value.cells, hn, h1], by
  subst hL
  exact hs.set hk (Keep.setRow r cs') (setRow_heap _ _ _ _ _ _ (hs.get hk))⟩) h
structure Pure (P : Program) (f : FuncId) (args : Array Value) (v : Value) : Prop where
  run : ∀ w, Calls P f args w fun e w' => e = .returned v ∧ Keep [] w w'
def KD (l : Ko) (f : Operand) (args : Array Operand) : Option (FuncId × List Value) :=
 match Kh l f with
 | some (.func (.func g) first caps) => match first.toList, evs l args.toList with
  | [], some vs => some (g, vs ++ caps.toList)
  | _, _ => none
 | _ => none
theorem VJ {n : Nat} (hf : Fr n d l a) (h : KD l f args = some (g, vs))
  (P : Program) (w : World) (o : Oper) (ho : o.op = .call ⟨.value f, args, at_⟩) (eg : Enters P g) : (execOp a.eval o).run P w = .ok (.enter g vs.toArray) w := by
 unfold KD at h
 split at h
 ·rename_i g' first caps hfv
  split at h
  ·rename_i us hfirst hargs
   simp only [Option.some.injEq, Prod.mk.injEq] at h
   obtain ⟨rfl, rfl⟩ := h
   have hfirst' : first = #[] := by simpa using hfirst
   subst hfirst'
   have h2 := hf.evals hargs
   have h3 : args.map a.eval = us.toArray := by
    apply Array.toList_inj.1; rw [Array.toList_map]; simpa using h2
   have h4 : a.eval f = .func (.func g') #[] caps := hf.eval hfv
   simp only [execOp, ho, Sem.run_bind]
   have h5 : us.toArray ++ caps = (us ++ caps.toList).toArray := by apply Array.toList_inj.1; simp
   have h6 := eg (us.toArray ++ caps) w
   rw [← h5]
   simpa [resolve, h3, h4, Deferred.ofValue, Result.andThen, invoke] using h6
  ·cases h
 ·cases h
theorem Jl4 {L' : α → Jj}
  (hg : Kp l ops ⟨dst, .call ⟨.value f, args, at_⟩, ty, ps, af, gd⟩ = some true) (hca : KD l f args = some (g, vs)) (eg : Enters c.P g)
  (hr : ∀ w, St c L X w → Calls c.P g vs.toArray w fun e w' => ∃ x, e = .returned (V x) ∧ St c (L' x) (X' x) w')
  (h : ∀ x a w, (∀ i, dst = some i → i < c.n) → Fr c.n d l a → St c (L' x) (X' x) w → wpListIn (FW c.ro) 0 c.P ops Q rest (a.put dst (V x)) w) (hi : ∀ i, dst = some i → Nat.ble (i + 1) c.n = true) :
  HL c d l L X ops (⟨dst, .call ⟨.value f, args, at_⟩, ty, ps, af, gd⟩ :: rest) Q := fun a w hf hs => by
 refine QT (JD hf hg) rfl ?_
 rw [VJ hf hca c.P w _ rfl eg, Oper.uponIn_enter]
 refine ⟨fun hdep => nH, ?_⟩
 have hc := callsIn_wide (n := 0) |>.2 (hr w hs)
 refine CallsIn.mono (R := fun e w' => ∃ x, e = .returned (V x) ∧ St c (L' x) (X' x) w') mM ?_
 rintro e w' ⟨x, rfl, hs'⟩
 exact h x a w' (fun i hd => Nat.le_of_ble_eq_true (hi i hd)) hf hs'
theorem Yq {L' : α → Jj}
  (hg : Kp l ops ⟨some i, .call ⟨.value f, args, at_⟩, ty, ps, af, gd⟩ = some true) (hi : Nat.ble (i + 1) c.n = true) (hca : KD l f args = some (g, vs)) (eg : Enters c.P g)
  (hr : ∀ w, St c L X w → Calls c.P g vs.toArray w fun e w' => ∃ x, e = .returned (V x) ∧ St c (L' x) (X' x) w')
  (h : ∀ x, HL c d ((i, V x) :: l) (L' x) (X' x) ops rest Q) : HL c d l L X ops (⟨some i, .call ⟨.value f, args, at_⟩, ty, ps, af, gd⟩ :: rest) Q :=
 Jl4 hg hca eg hr (fun x a w hlt hf hs => h x _ w (hf.put (hlt i rfl)) hs) (fun j e => by cases e; exact hi)
theorem J6
  (hg : Kp l ops ⟨some i, .call ⟨.value f, args, at_⟩, ty, ps, af, gd⟩ = some true) (hi : Nat.ble (i + 1) c.n = true) (hca : KD l f args = some (g, vs)) (eg : Enters c.P g)
  (hp : Pure c.P g vs.toArray v) (h : HL c d ((i, v) :: l) L X ops rest Q) : HL c d l L X ops (⟨some i, .call ⟨.value f, args, at_⟩, ty, ps, af, gd⟩ :: rest) Q :=
 Yq (α := Unit) (V := fun _ => v) (L' := fun _ => L) (X' := fun _ => X) hg hi hca eg (fun w hs => (hp.run w).mono fun _ _ ⟨he, hk⟩ => ⟨(), he, hs.more hk⟩) (fun _ => h)
def Vo : Nat → List Value → Ko
 | _, [] => []
 | k, v :: vs => (k, v) :: Vo (k + 1) vs
theorem Jb2 : ∀ {k i : Nat} {v : Value}, Vu (Vo k vs) i = some v → k ≤ i ∧ vs[i - k]? = some v := by
 induction vs with
 | nil => intro k i v h; simp [Vo, Vu] at h
 | cons u us ih =>
  intro k i v h
  simp only [Vo, Vu] at h
  by_cases e : i = k
  ·subst e; rw [Nat.beq_refl] at h; simp only [Option.some.injEq] at h; subst h; simp
  ·rw [show Nat.beq i k = false from by rw [Bool.eq_false_iff]; exact fun hb => e (Nat.eq_of_beq_eq_true hb)] at h
   obtain ⟨h1, h2⟩ := ih h
   refine ⟨by omega, ?_⟩
   rw [show i - k = (i - (k + 1)) + 1 from by omega]
   simpa using h2
theorem qz {n : Nat} (h : vs.length ≤ n) : Fr n [] (Vo 0 vs) { tmps := vs.toArray ++ Array.replicate (n - vs.toArray.size) undef, defers := [] } := by
 refine ⟨by simp; omega, rfl, fun i v hv => ?_⟩
 obtain ⟨_, h2⟩ := Jb2 hv
 simp only [Nat.sub_zero] at h2
 have hlt := (List.getElem?_eq_some_iff.1 h2).1
 rw [Array.getElem?_append_left (by simpa using hlt)]
 simpa using h2
theorem QI {f : FuncId} (c : Cx) (hf : P.funcs[f]? = some fn) (hb : fn.body = some code) (hc : c.P = P) (hro : c.ro = none) (hn : c.n = fn.ntmps)
  (hlen : Nat.ble vs.length fn.ntmps = true) (hs : St c L X w) (h : HC c [] (Vo 0 vs) L X code (bodyPostM (FW none) 0 P fn R)) : Calls P f vs.toArray w R := by
 refine callsIn_wide (n := 0) |>.1 (callsIn_of_wp_marks hf hb trivial ?_)
 exact Dv
theorem St.start (P : Program) (ro : Option Nat) (w : World) (n : Nat) : St ⟨P, ro, w, [], [], [], n⟩ [] (fun _ _ => True) w :=
 ⟨Keep.refl _ _, by simp, by simp, by simp, by simp, ⟨[], by simp, fun _ _ => trivial⟩⟩
theorem J8 {f : FuncId} (hf : P.funcs[f]? = some fn) (hb : fn.body = some code) (hlen : Nat.ble vs.length fn.ntmps = true)
  (h : ∀ w, HC ⟨P, none, w, [], [], [], fn.ntmps⟩ [] (Vo 0 vs) [] (fun _ _ => True) code (bodyPostM (FW none) 0 P fn (fun e w' => e = .returned v ∧ Keep [] w w')))   : Pure P f vs.toArray v := ⟨fun w =>
 QI ⟨P, none, w, [], [], [], fn.ntmps⟩ hf hb rfl rfl rfl hlen (St.start P none w _) (h w)⟩
def Jb3 (c : Cx) (l : Ko) (L : Jj) : ResultVar → Value → Prop
 | .tmp t, v => Vu l t = some v
 | .cell a t, v => ∃ r cs e fr, Vu l a = some (.pointer (some ⟨r, 0, none⟩)) ∧ known c L r (.cells cs e fr) ∧
   ((Wg c.P t = some false ∧ W1 cs.toList 0 = some v) ∨ (∃ vs, Wg c.P t = some true ∧ KQ c.P t = some vs.length ∧ cs.toList.take vs.length = vs ∧ v = .agg vs.toArray))
theorem Jn {tt : Nat} (h : Vu l tt = some v) : Jb3 c l L (.tmp tt) v := h
theorem KT {a : Nat} (h1 : Vu l a = some (.pointer (some ⟨r, 0, none⟩))) (h2 : known c L r (.cells cs e fr)) (h3 : Wg c.P t = some false) (h4 : W1 cs.toList 0 = some v) : Jb3 c l L (.cell a t) v :=
 ⟨r, cs, e, fr, h1, h2, .inl ⟨h3, h4⟩⟩
theorem Jl {a : Nat} (h1 : Vu l a = some (.pointer (some ⟨r, 0, none⟩))) (h2 : known c L r (.cells vs.toArray e fr)) (h3 : Wg c.P t = some true) (h4 : KQ c.P t = some vs.length) : Jb3 c l L (.cell a t) (.agg vs.toArray) :=
 ⟨r, _, e, fr, h1, h2, .inr ⟨vs, h3, h4, by simp, rfl⟩⟩
inductive ResAll (c : Cx) (l : Ko) (L : Jj) : List ResultVar → List Value → Prop
  | nil : ResAll c l L [] []
  | cons {r v rs vs : _} : Jb3 c l L r v → ResAll c l L rs vs → ResAll c l L (r :: rs) (v :: vs)
def JC : List Value → Value
 | [v] => v
 | vs => .tuple vs.toArray
def wo (tmps : Array Value) : ResultVar → Sem Value
 | .tmp t => pure (tmps.getD t undef)
 | .cell b t => do loadVar t (← asAddr (tmps.getD b undef))
theorem Jrz {n : Nat} (hf : Fr n d l a) (hs : St c L X w) {r : ResultVar} (h : Jb3 c l L r v) :
  (wo a.tmps r).run c.P w = .ok v w := by
 cases r with
 | tmp t =>
  have : a.eval (.tmp t) = v := hf.eval (x := .tmp t) h
  simpa [Act.eval, wo] using this
 | cell b t =>
  obtain ⟨r, cs, e, fr, h1, h2, h3⟩ := h
  have hp : a.tmps.getD b undef = .pointer (some ⟨r, 0, none⟩) := hf.eval (x := .tmp b) h1
  simp only [wo, hp, asAddr, Sem.run_bind, Sem.run_pure, Result.andThen]
  rcases h3 with ⟨h3, h4⟩ | ⟨vs, h3, h4, h5, rfl⟩
  ·exact jD h3 (by rw [Wn (hs.known h2)]; exact QO h4)
  ·exact jE h3 h4 (hs.known h2) (by simpa using h5) rfl
theorem qW {n : Nat} (hf : Fr n d l a) (hs : St c L X w) (h : ResAll c l L rs vs) (hr : fn.results = rs.toArray) :
  (results fn a.tmps).run c.P w = .ok (JC vs) w := by
 have key : ∀ {rs : List ResultVar} {vs : List Value}, ResAll c l L rs vs → (rs.mapM (wo a.tmps)).run c.P w = .ok vs w := by
  intro rs vs h
  induction h with
  | nil => rfl
  | cons h1 _ ih =>
   simp only [List.mapM_cons, Sem.run_bind]
   rw [Jrz hf hs h1]
   simp only [Result.andThen]
   rw [ih]
   rfl
 have h2 := key h
 have e : results fn a.tmps = (do
   let vs ← fn.results.mapM (wo a.tmps)
   pure (if h : vs.size = 1 then vs[0] else .tuple vs)) := by
  unfold results
  congr 2
 rw [e, hr]
 simp only [List.mapM_toArray, Sem.run_bind, Sem.run_map, h2, Result.andThen, Sem.run_pure]
 congr 1
 cases vs with
 | nil => rfl
 | cons v us => cases us with
  | nil => rfl
  | cons _ _ => simp [JC]
theorem Jd (hP : c.P = P) (hr : fn.results = rs.toArray) (h : ResAll c l L rs vs) (hR : ∀ w, St c L X w → R (.returned (JC vs)) w) :
  HQ c [] l L X (bodyPostM (FW none) 0 P fn R .ret) := fun a w hf hs => by
 show LeavesInM _ _ _ _ _ _ _ _ _
 rw [hf.defers]
 exact ⟨_, hP ▸ qW hf hs h hr, hR w hs⟩
theorem QB (hP : c.P = P) (hr : fn.results = rs.toArray) (h : ResAll c l L rs vs) (hR : ∀ w, St c L X w → R (.returned (JC vs)) w) :
  HQ c [] l L X (bodyPostM (FW none) 0 P fn R .normal) := Jd hP hr h hR
end
def jF (P : Program) : List Field → Option (List (Nat × Nat))
 | [] => some []
 | f :: fs => match KQ P f.type, jF P fs with | some n, some r => some ((f.offset, n) :: r) | _, _ => none
def Jfc : Nat → List Value → List Value → List Value
 | _, [], xs => xs
 | _, _ :: _, [] => []
 | 0, n :: ns, _ :: xs => n :: Jfc 0 ns xs
 | k + 1, ns, x :: xs => x :: Jfc k ns xs
def Zc (places : Nat → Option (Nat × Nat)) (cells : List Value) : List (Nat × List Value) → Option (List Value)
 | [] => some cells
 | (i, v) :: rest => match places i with
  | none => none
  | some (off, size) => match Nat.beq v.length size, Nat.ble (off + v.length) cells.length with
   | true, true => Zc places (Jfc off v cells) rest
   | _, _ => none
theorem xz : ∀ (off : Nat) (v cs : List Value), off + v.length ≤ cs.length → Jfc off v cs = cs.take off ++ v ++ cs.drop (off + v.length)
 | off, [], cs, _ => by cases off <;> cases cs <;> simp [Jfc]
 | 0, n :: ns, x :: xs, h => by
  have := xz 0 ns xs MU
  simp only [Nat.zero_add, List.take_zero, List.nil_append] at this
  simp [Jfc, this]
 | k + 1, n :: ns, x :: xs, h => by
  have := xz k (n :: ns) xs MU
  simp only [Jfc, this, List.take_succ_cons, List.cons_append]
  rw [show k + 1 + (n :: ns).length = (k + (n :: ns).length) + 1 from by omega, List.drop_succ_cons]
 | off, n :: ns, [], h => by simp at h
theorem zn (off : Nat) : ∀ (v : List Value) (j : Nat) (cs : Array Value), off + j + v.length ≤ cs.size →
  ((v.zipIdx j).foldl (fun (cs : Array Value) (p : Value × Nat) => cs.setIfInBounds (off + p.2) p.1) cs).toList = cs.toList.take (off + j) ++ v ++ cs.toList.drop (off + j + v.length)
 | [], j, cs, h => by simp
 | x :: v, j, cs, h => by
  simp only [List.zipIdx_cons, List.foldl_cons]
  rw [zn off v (j + 1) _ MU]
  simp only [Array.toList_setIfInBounds, List.length_cons]
  simp only [List.length_cons] at h
  have hlt : off + j < cs.toList.length := by simp; omega
  rw [show off + (j + 1) = off + j + 1 from by omega, List.take_succ_eq_append_getElem (by simpa using hlt), List.getElem_set_self, List.take_set_of_le (Nat.le_refl _), List.drop_set_of_lt m0]
  simp only [List.append_assoc, List.cons_append, List.nil_append]
  rw [show off + j + 1 + v.length = off + j + (v.length + 1) from by omega]
theorem vE (places : Nat → Option (Nat × Nat)) : ∀ (parts : Ko) (cells : Array Value) (r : List Value), Zc places cells.toList (parts.map fun p => (p.1, p.2.cells.toList)) = some r → Instr.fill places cells parts = some r.toArray
 | [], cells, r, h => by simp only [List.map_nil, Zc, Option.some.injEq] at h; subst h; simp [Instr.fill]
 | (i, v) :: rest, cells, r, h => by
  simp only [List.map_cons, Zc] at h
  simp only [Instr.fill]
  cases hp : places i with
  | none => simp [hp] at h
  | some p =>
   obtain ⟨off, size⟩ := p
   simp only [hp] at h ⊢
   split at h
   ·rename_i h1 h2
    have e1 := Nat.eq_of_beq_eq_true h1
    have e2 := Nat.le_of_ble_eq_true h2
    simp only [Array.length_toList] at e1 e2
    rw [if_neg (by simp [e1]; omega)]
    refine vE places rest _ r ?_
    rw [← h]
    congr 1
    have := zn off v.cells.toList 0 cells (by simpa using e2)
    rw [xz off _ _ (by simpa using e2)]
    simp only [Nat.add_zero] at this
    rw [← this, ← Array.foldl_toList]
    simp
   ·cases h
theorem wp {P : Program} : ∀ {fs : List Field} {r : List (Nat × Nat)}, jF P fs = some r → ∀ w, (fs.mapM (fun f => do pure (f.offset, ← sizeOf f.type) : Field → Sem (Nat × Nat))).run P w = .ok r w
 | [], r, h, w => by simp only [jF, Option.some.injEq] at h; subst h; rfl
 | f :: fs, r, h, w => by
  simp only [jF] at h
  split at h
  ·rename_i n r' h1 h2
   simp only [Option.some.injEq] at h; subst h
   simp only [List.mapM_cons, Sem.run_bind, V8 h1, Result.andThen, Sem.run_pure, wp h2]
  ·cases h
def Jfd (P : Program) (t : TypeId) (parts : List (Nat × List Value)) : Option (List Value) :=
 match QL P t with
 | none => none
 | some z => match P.underlying t with
  | some (.struct fs) => match jF P fs.toList with
   | some pl => Zc (fun i => pl[i]?) z.cells.toList parts
   | none => none
  | some (.array _ e) => match KQ P e with
   | some n => Zc (fun i => some (i * n, n)) z.cells.toList parts
   | none => none
  | _ => none
theorem Jju {r : List Value} (h : Jfd P t (parts.map fun p => (p.1, p.2.cells.toList)) = some r) (w : World) : (Instr.build t parts.toArray).run P w = .ok (.agg r.toArray) w := by
 unfold Jfd at h
 split at h
 ·cases h
 ·rename_i z hz
  unfold Instr.build
  simp only [Sem.run_bind, Xz hz, Result.andThen]
  split at h
  ·rename_i fs hu
   split at h
   ·rename_i pl hpl
    have hf := vE (fun i => pl.toArray[i]?) parts z.cells r nb
    obtain ⟨fl⟩ := fs
    have hm := wp hpl w
    simp only [underlying, Sem.run_bind, run_program, Result.andThen, hu, Sem.run_pure]
    simp only [List.mapM_toArray, Sem.run_map, hm, Result.andThen, hf, Sem.run_pure]
   ·cases h
  ·rename_i e hu
   split at h
   ·rename_i n hn
    have hf := vE (fun i => some (i * n, n)) parts z.cells r h
    simp only [underlying, Sem.run_bind, run_program, Result.andThen, hu, Sem.run_pure, V8 hn, hf]
   ·cases h
  ·cases h
def WI (l : Ko) : List (Nat × Operand) → Option Ko
 | [] => some []
 | (i, x) :: r => match Kh l x, WI l r with | some v, some vs => some ((i, v) :: vs) | _, _ => none
def QE : Ko → List (Nat × List Value)
 | [] => []
 | (i, v) :: r => (i, v.cells.toList) :: QE r
theorem Qz : ∀ ps : Ko, QE ps = ps.map fun p => (p.1, p.2.cells.toList)
 | [] => rfl
 | (i, v) :: r => by simp [QE, Qz r]
theorem Vp {n : Nat} {d : List Deferred} {l : Ko} {a : Act} (hf : Fr n d l a) : ∀ {xs : List (Nat × Operand)} {vs : Ko}, WI l xs = some vs → (xs.map fun (p : Nat × Operand) => (p.1, a.eval p.2)) = vs
 | [], vs, h => by simp only [WI, Option.some.injEq] at h; subst h; rfl
 | (i, x) :: r, vs, h => by
  simp only [WI] at h
  split at h
  ·rename_i v us h1 h2
   simp only [Option.some.injEq] at h; subst h
   simp [hf.eval h1, Vp hf h2]
  ·cases h
def jG (P : Program) (t : TypeId) (f : Nat) : Option (Nat × Nat) :=
 match P.underlying t with
 | some (.struct fs) => match fs[f]? with
  | some x => match KQ P x.type with | some n => some (x.offset, n) | none => none
  | none => none
 | _ => none
def jH (P : Program) (t : TypeId) : Option (Nat × TypeId) := match P.underlying t with | some (.array n e) => some (n, e) | _ => none
def Ks (P : Program) (t : TypeId) : Option TypeId := match P.underlying t with | some (.slice e) => some e | _ => none
theorem Qk {d : TypeDesc} (h : P.underlying t = some d) (w : World) : (underlying t).run P w = .ok d w := by
 simp [underlying, h]
theorem vF {t n e : Nat} (h : jH P t = some (n, e)) : P.underlying t = some (.array n e) := by
 unfold jH at h; split at h <;> simp_all
theorem Ki {t e : Nat} (h : Ks P t = some e) : P.underlying t = some (.slice e) := by
 unfold Ks at h; split at h <;> simp_all
theorem Zg (r off n : Nat) : Addr.add ⟨r, off, none⟩ n = ⟨r, off + n, none⟩ := by
 unfold Addr.add; split
 ·rename_i h; subst h; rfl
 ·rfl
section
variable {c : Cx} {l : Ko} {L : Jj} {X : XP} {Q : Exit → Act → World → Prop} {d : List Deferred}
variable {ops : Array Oper} {rest : List Oper} {i : Nat} {v : Value} {t : TypeId} {ps : String} {af : Array Edge} {gd : Option (Nat × Bool)} {ty : TypeId}
theorem Js {vs : Ko} {r : List Value} (hp : WI l pa = some vs) (hb : Jfd c.P t (QE vs) = some r) :
  J9 c d l L X ⟨some i, .build t pa.toArray, ty, ps, af, gd⟩ (.agg r.toArray) := fun a w hf hs => by
  have h1 := Vp hf hp
  have h2 : (pa.toArray.map fun (p : Nat × Operand) => (p.1, a.eval p.2)) = vs.toArray := by
   apply Array.toList_inj.1; rw [Array.toList_map]; simpa using h1
  rw [Qz] at hb
  have h3 := Jju hb w
  rw [← h2] at h3
  refine Gl ?_
  have h4 : (Instr.build t (pa.toArray.map fun (i, x) => (i, a.eval x))).run c.P w = .ok (.agg r.toArray) w := h3
  rw [h4]; rfl
theorem JR  {f fo n : Nat} (hx : Kh l x = some (.pointer (some ⟨r, off, none⟩))) (hfo : jG c.P t f = some (fo, n + 1)) (ho : off + fo = off')
  :
  J9 c d l L X ⟨some i, .fieldAddr t x f, ty, ps, af, gd⟩ (.pointer (some ⟨r, off', none⟩)) := fun a w hf hs => by
  simp only [execOp]; rw [hf.eval hx]
  unfold jG at hfo
  split at hfo
  ·rename_i fs hu
   split at hfo
   ·rename_i y hy
    split at hfo
    ·rename_i m hm
     simp only [Option.some.injEq, Prod.mk.injEq] at hfo
     obtain ⟨h1, h2⟩ := hfo
     subst h1; subst h2; subst ho
     simp [Instr.fieldAt, Instr.sureAddr, Sem.run_bind, Qk hu, Result.andThen, hy, fieldPlace, V8 hm, Zg]
    ·cases hfo
   ·cases hfo
  ·cases hfo
theorem JN  {n e : Nat} {k : IntKind} {z : Int} (hx : Kh l x = some (.pointer (some ⟨r, off, none⟩))) (hy : Kh l y = some (.int k z)) (ha : jH c.P t = some (n, e)) (hm : KQ c.P e = some m) (hz : z = (j : Int)) (hj : j < n) (ho : off + j * m = off')
  :
  J9 c d l L X ⟨some i, .indexAddr t x y, ty, ps, af, gd⟩ (.pointer (some ⟨r, off', none⟩)) := fun a w hf hs => by
  simp only [execOp]; rw [hf.eval hx, hf.eval hy]
  subst hz; subst ho
  simp [Instr.indexAt, asIntOf, Instr.sureAddr, Sem.run_bind, Qk (vF ha), Result.andThen, hj, V8 hm, Zg]
theorem Kc  {n e : Nat} {k : IntKind} {z : Int} (hx : Kh l x = some (.slice (some ⟨r, off, none⟩) n cap)) (hy : Kh l y = some (.int k z)) (ha : Ks c.P t = some e) (hm : KQ c.P e = some m) (hz : z = (j : Int)) (hj : j < n) (ho : off + j * m = off')
  :
  J9 c d l L X ⟨some i, .indexAddr t x y, ty, ps, af, gd⟩ (.pointer (some ⟨r, off', none⟩)) := fun a w hf hs => by
  simp only [execOp]; rw [hf.eval hx, hf.eval hy]
  subst hz; subst ho
  simp [Instr.indexAt, asIntOf, Sem.run_bind, Qk (Ki ha), Result.andThen, hj, V8 hm, Zg]
theorem Jl5  {n e : Nat} {k : IntKind} {z : Int} (hx : Kh l x = some (.agg cs)) (hy : Kh l y = some (.int k z)) (ha : jH c.P t = some (n, e)) (hm : KQ c.P e = some 1) (hb : Wg c.P e = some false) (hz : z = (j : Int)) (hj : j < n) (hv : W1 cs.toList j = some v)
  :
  J9 c d l L X ⟨some i, .index t x y, ty, ps, af, gd⟩ (v) := fun a w hf hs => by
  simp only [execOp]; rw [hf.eval hx, hf.eval hy]
  subst hz
  simp [Instr.index, asIntOf, Sem.run_bind, Qk (vF ha), Result.andThen, hj, V8 hm, part, jC hb, QO hv]
theorem Jfe {k : IntKind} {z : Int} {s : ByteArray} {b : UInt8} (hx : Kh l x = some (.string s)) (hy : Kh l y = some (.int k z)) (hu : c.P.underlying t = some .string) (hz : z = (j : Int)) (hv : s[j]? = some b)
  :
  J9 c d l L X ⟨some i, .index t x y, ty, ps, af, gd⟩ (.int .u8 b.toNat) := fun a w hf hs => by
  simp only [execOp]; rw [hf.eval hx, hf.eval hy]
  subst hz
  simp [Instr.index, asIntOf, Sem.run_bind, Qk hu, Result.andThen, hv]
end
section
variable {ro : Option Nat} {P : Program} {ops : Array Oper} {md : Region.Mode} {C : World → Prop}
theorem Jl6 {K : Act → Prop} (hnd : Kx o.op = true) (hw : C w) (h : ∀ a w', C w' → K a → K' a w')
  (hh : o.quietIn (FW ro) 0 P a C K) : o.wpIn (FW ro) 0 P a w K' Q' := by
 obtain ⟨v, h1, h2⟩ := hh
 have h3 := h1 w hw
 unfold Oper.quietAtIn at h3
 refine ⟨Qa, ?_⟩
 rw [Oper.semAt_eq _ _ _ (W6 hnd)]
 cases hr : (execOp a.eval o).run P w with
 | halt x w' => rw [hr] at h3; exact h3.elim
 | ok x w' =>
  rw [hr] at h3
  cases x <;> simp only [Oper.quietUponIn] at h3 <;> simp only [Oper.uponIn]
  case value u => obtain ⟨rfl, rfl⟩ := h3; exact h _ _ hw h2
  case skip => obtain ⟨rfl, rfl⟩ := h3; exact h _ _ hw h2
  case enter f args =>
   obtain ⟨rfl, hd, hc⟩ := h3
   refine ⟨hd, hc.mono ?_⟩
   rintro e w'' ⟨rfl, hw''⟩
   exact h _ _ hw'' h2
theorem Jv8 {K : Act → Prop} (hnd : ∀ (j : Nat) (o : Oper), ops[j]? = some o → Kx o.op = true) (hC : C w) (h : ∀ a w', C w' → K a → K' a w')
  (hh : qOpIn (FW ro) 0 P ops C i K a) : wpOpIn (FW ro) 0 P ops Q' i K' a w := by
 unfold qOpIn at hh
 unfold wpOpIn
 cases ho : ops[i]? with
 | none => simp only [ho] at hh; exact h _ _ hC hh
 | some o =>
  simp only [ho] at hh
  show if _ then _ else _
  split
  ·rename_i hw; rw [if_pos hw] at hh; exact Jl6 (hnd i o ho) hC h hh.2
  ·rename_i hw; rw [if_neg hw] at hh; exact ⟨Qa, h _ _ hC hh.2⟩
def Jl7 (ro : Option Nat) (P : Program) (md : Region.Mode) (ops : Array Oper) (C : World → Prop) (m : Nat) (T : Array Bool → Act → Prop) : Nat → Array Bool → Act → Prop
 | 0, listed, a => T listed a
 | f + 1, listed, a => Region.ready md ops listed ≠ [] ∧ ∀ i ∈ Region.ready md ops listed, i < m ∧ qOpIn (FW ro) 0 P ops C i (Jl7 ro P md ops C m T f (listed.setIfInBounds i true)) a
theorem Jg6 {m g : Nat} {T : Array Bool → Act → Prop} {Q' : Exit → Act → World → Prop} (hnd : ∀ (j : Nat) (o : Oper), ops[j]? = some o → Kx o.op = true)
  (hT : ∀ listed a w, C w → T listed a → wpAnyIn (FW ro) 0 P md ops Q' g listed a w) :
  ∀ (f : Nat) (listed : Array Bool) (a : Act) (w : World), C w → Jl7 ro P md ops C m T f listed a → wpAnyIn (FW ro) 0 P md ops Q' (f + g) listed a w
 | 0, listed, a, w, hw, h => by rw [Nat.zero_add]; exact hT _ _ _ hw h
 | f + 1, listed, a, w, hw, h => by
  rw [show f + 1 + g = (f + g) + 1 from by omega]
  exact ⟨fun h0 => absurd h0 h.1, fun i hi => Jv8 hnd hw (fun a' w' hw' h' => Jg6 hnd hT f _ a' w' hw' h') (h.2 i hi).2⟩
theorem Jff {T : Array Bool → Act → Prop} (hi : ops[i]? = some oi) (hsel : ∀ (j : Nat) (o : Oper) cs b, ops[j]? = some o → o.op ≠ .select cs b)
  (hlt : ∀ listed, HeadInv md ops m listed → listed.getD i true = false → ∀ j ∈ Region.ready md ops listed, j < m)
  (hT : ∀ listed a, T listed a → ∀ j ∈ Region.ready md ops listed, m ≤ j) :
  ∀ (f : Nat) (listed : Array Bool) (a : Act), HeadInv md ops m listed →
   (∀ j oj, ops[j]? = some oj → j ≠ i → listed.getD j true = false → (∀ e ∈ oj.after, Region.binds md e = true → e.on ≠ i) → oi.apart ops oj = true) →
   i ∈ Region.ready md ops listed → YieldsQuiet (FW ro) 0 P ops C oi v a →
   Jl7 ro P md ops C m T f (listed.setIfInBounds i true) (a.put oi.dst v) → Jl7 ro P md ops C m T (f + 1) listed a := by
 intro f
 induction f with
 | zero =>
  intro listed a inv _ hr hy H
  refine ⟨fun h => mN, fun j hj => ⟨hlt _ inv (mem_ready.1 hr).1 j hj, ?_⟩⟩
  by_cases hji : j = i
  ·subst hji; exact hy.qOpIn hi H
  ·have h1 := hT _ _ H j (ready_mono hj hji)
   have h2 := hlt _ inv (mem_ready.1 hr).1 j hj
   omega
 | succ f ih =>
  intro listed a inv hfree hr hy H
  refine ⟨fun h => mN, fun j hj => ?_⟩
  have hjm := hlt _ inv (mem_ready.1 hr).1 j hj
  refine ⟨hjm, ?_⟩
  by_cases hji : j = i
  ·subst hji; exact hy.qOpIn hi H
  ·have h1 := (H.2 j (ready_mono hj hji)).2
   obtain ⟨hjun, oj, hoj, hall⟩ := mem_ready.1 hj
   have hnot : ∀ e ∈ oj.after, Region.binds md e = true → e.on ≠ i := fun e he hb heq => by
    have h2 := hall e he hb
    rw [heq, getD_both (mem_ready.1 hr).1] at h2
    cases h2
   have h2 := qOpIn_put hoj (hfree j oj hoj hji hjun hnot) (fun cs b => hsel i oi cs b hi) (fun cs b => hsel j oj cs b hoj) hy h1
   have hfree' : ∀ k ok, ops[k]? = some ok → k ≠ i → (listed.setIfInBounds j true).getD k true = false →
     (∀ e ∈ ok.after, Region.binds md e = true → e.on ≠ i) → oi.apart ops ok = true := fun k ok hk hki hun hno => by
    refine hfree k ok hk hki ?_ hno
    by_cases hjk : j = k
    ·subst hjk; exact hjun
    ·rw [getD_set_ne true hjk] at hun; exact hun
   refine qOpIn_mono (fun a' h3 => ih (listed.setIfInBounds j true) a' (inv.set hj hjm) hfree' (ready_mono hr (Ne.symm hji)) h3.1 ?_) h2
   rw [Array.setIfInBounds_comm _ _ hji]
   exact h3.2
theorem Xk {Q' : Exit → Act → World → Prop} : ∀ (l : List Oper) (k : Nat) (listed : Array Bool) (a : Act) (w : World), (∀ j, l[j]? = ops[k + j]?) →
  Region.seqB md ops l.length k listed = true → wpListIn (FW ro) 0 P ops Q' l a w → wpAnyIn (FW ro) 0 P md ops Q' l.length listed a w
 | [], _, _, _, _, _, hB, h => ⟨by simpa [Region.seqB] using hB, h⟩
 | o :: l, k, listed, a, w, hl, hB, h => by
  have h0 : ops[k]? = some o := by simpa using (hl 0).symm
  simp only [List.length_cons, Region.seqB, Bool.and_eq_true, decide_eq_true_eq] at hB
  refine ⟨fun h1 => (by rw [hB.1] at h1; cases h1), fun i hi => ?_⟩
  rw [hB.1] at hi
  have hik : i = k := by simpa using hi
  subst hik
  have hw : wpOpIn (FW ro) 0 P ops Q' i (wpListIn (FW ro) 0 P ops Q' l) a w := by unfold wpOpIn; simp only [h0]; exact h
  exact wpOpIn_mono (fun a' w' h' => Xk l (i + 1) _ a' w' (fun j => by have := hl (j + 1); simpa [Nat.add_assoc, Nat.add_comm 1 j] using this) hB.2 h') hw
theorem Jb4 {m g : Nat} {T : Act → Prop} (hsel : Region.noSelect ops = true) (hlt : ∀ i, i < m → ∀ listed, HeadInv md ops m listed → listed.getD i true = false → ∀ j ∈ Region.ready md ops listed, j < m)
  (hseq : ∀ listed, Region.seqB md ops g m listed = true → ∀ j ∈ Region.ready md ops listed, m ≤ j) :
  ∀ (l : List Oper) (k : Nat) (listed : Array Bool) (a : Act), (∀ j, j < l.length → l[j]? = ops[k + j]?) → k + l.length = m → HeadInv md ops m listed →
  Region.lexHead md ops g l.length k listed = true → wpQuietIn (FW ro) 0 P ops C T l a →
  Jl7 ro P md ops C m (fun listed' a' => Region.seqB md ops g m listed' = true ∧ T a') l.length listed a
 | [], k, listed, a, _, hk, _, hB, h => by
  have : k = m := by simpa using hk
  subst this
  exact ⟨by simpa [Region.lexHead] using hB, h⟩
 | o :: l, k, listed, a, hl, hk, inv, hB, h => by
  have h0 : ops[k]? = some o := by simpa using (hl 0 mf).symm
  simp only [List.length_cons, Region.lexHead, Bool.and_eq_true] at hB
  obtain ⟨⟨hr, hf⟩, hB'⟩ := hB
  have hkm : k < m := by simp only [List.length_cons] at hk; omega
  have hr' : k ∈ Region.ready md ops listed := by simpa using hr
  have hst : qOpIn (FW ro) 0 P ops C k (wpQuietIn (FW ro) 0 P ops C T l) a := by unfold qOpIn; simp only [h0]; exact h
  obtain ⟨v, hy, hK⟩ := yieldsQuiet_of_qOpIn h0 hst
  exact Jff h0 (Region.noSelect_spec hsel) (hlt k hkm) (fun listed' a' hL => hseq _ hL.1) l.length listed a inv (Region.free_spec h0 hf) hr' hy
   (Jb4 hsel hlt hseq l (k + 1) _ _ (fun j hj => by have := hl (j + 1) nU; simpa [Nat.add_assoc, Nat.add_comm 1 j] using this) (by simp only [List.length_cons] at hk; omega) (inv.set hr' hkm) hB' hK)
def Ju9 (ops : List Oper) (m : Nat) : Bool :=
 (ops.all fun o => Kx o.op) && Region.noSelect ops.toArray && Nat.ble m ops.length &&
 (Nat.beq m ops.length || (Region.sinkB .any ops.toArray m && Region.chainB .any ops.toArray m)) &&
 Region.lexHead .any ops.toArray (ops.length - m) m 0 (Array.replicate ops.length false)
end
section
variable {c : Cx} {l : Ko} {L : Jj} {X : XP} {Q : Exit → Act → World → Prop} {d : List Deferred}
variable {ops : Array Oper} {rest : List Oper} {i : Nat} {v : Value} {o : Oper} {T : Act → Prop}
def HD (c : Cx) (d : List Deferred) (l : Ko) (L : Jj) (X : XP) (ops : Array Oper) (rest : List Oper) (T : Act → Prop) : Prop :=
 ∀ a, Fr c.n d l a → wpQuietIn (FW c.ro) 0 c.P ops (St c L X) T rest a
theorem JX {ops : List Oper} (m : Nat) (hm : c.P.follows .mixedOrders = true) (hB : Ju9 ops m = true)
  (h : HD c d l L X ops.toArray (ops.take m) (fun a' => ∀ w, St c L X w → wpListIn (FW c.ro) 0 c.P ops.toArray Q (ops.drop m) a' w)) : HC c d l L X (.region id ops.toArray true) Q := fun a w hf hs => by
 simp only [Ju9, Bool.and_eq_true, Bool.or_eq_true] at hB
 obtain ⟨⟨⟨⟨h1, hsel⟩, hle⟩, hsc⟩, hlex⟩ := hB
 have hle' := Nat.le_of_ble_eq_true hle
 have hnd : ∀ (j : Nat) (o : Oper), ops.toArray[j]? = some o → Kx o.op = true := fun j o ho => List.all_eq_true.1 h1 o (List.mem_of_getElem? MQ)
 have htl : (ops.take m).length = m := by simp; omega
 have hdl : (ops.drop m).length = ops.length - m := by simp
 have hlt : ∀ i, i < m → ∀ listed, HeadInv .any ops.toArray m listed → listed.getD i true = false → ∀ j ∈ Region.ready .any ops.toArray listed, j < m := by
  intro i hi listed inv hun j hj
  rcases Nat.lt_or_ge j m with hjm | hjm
  exact hjm
  have hjs : j < ops.length := by obtain ⟨_, oj, hoj, _⟩ := mem_ready.1 hj; simpa using (Array.getElem?_eq_some_iff.1 hoj).1
  rcases hsc with h0 | ⟨h2, h3⟩
  exact DQ
  exact Ha
 have inv0 : HeadInv .any ops.toArray m (Array.replicate ops.length false) :=
  ⟨by simp, fun j oj _ hl => Mc, fun t _ ht => getD_in MR (getD_replicate_false _ _)⟩
 have H := Jb4 (ro := c.ro) (P := c.P) (C := St c L X) (md := .any) (g := ops.length - m) hsel hlt (fun listed hq => seqB_ready hq) (ops.take m) 0 _ a
  (fun j hj => by
   have hj' : j < m := by rw [htl] at hj; exact hj
   simp [hj']) (by simpa using htl) inv0 (by rw [htl]; exact hlex) (h a hf)
 refine wpIn_region_any hm ?_
 have := Jg6 (Q' := Q) (g := ops.length - m) hnd (fun listed a' w' hw' hL => by
  have := Xk (ro := c.ro) (P := c.P) (md := .any) (Q' := Q) (ops.drop m) m listed a' w' (fun j => by simp [List.getElem?_drop]) MV (hL.2 w' hw')
  rwa [hdl] at this) _ _ _ _ hs.drew H
 rw [htl, show m + (ops.length - m) = ops.toArray.size from by simp; omega] at this
 simpa using this
theorem Kv (h : HL c d l L X ops tail Q) : HD c d l L X ops [] (fun a' => ∀ w, St c L X w → wpListIn (FW c.ro) 0 c.P ops Q tail a' w) := fun a hf w hs => h a w hf hs
theorem Jc (hg : Kp l ops o = some true) (hd : o.dst = some i) (hi : Nat.ble (i + 1) c.n = true) (hr : J9 c d l L X o v) (h : HD c d ((i, v) :: l) L X ops rest T) : HD c d l L X ops (o :: rest) T := fun a hf => by
 refine ⟨fun _ _ _ _ => trivial, ?_⟩
 rw [if_pos (JD hf hg)]
 refine ⟨v, fun w hs => ?_, ?_⟩
 ·unfold Oper.quietAtIn; rw [hr a w hf hs]; exact ⟨rfl, rfl⟩
 ·rw [hd]; exact h _ (hf.put (Nat.le_of_ble_eq_true hi))
theorem JZ (hg : Kp l ops o = some false) (hd : o.dst = some i) (hi : Nat.ble (i + 1) c.n = true) (h : HD c d ((i, undef) :: l) L X ops rest T) : HD c d l L X ops (o :: rest) T := fun a hf => by
 refine ⟨fun _ _ _ _ => trivial, ?_⟩
 rw [if_neg (by rw [JD hf hg]; simp), hd]
 exact h _ (hf.put (Nat.le_of_ble_eq_true hi))
theorem vG {n : Nat} {b' : Bool} {t : Nat} (hf : Fr n d l a) (ht : Vu l t = some (.bool b)) (e : b' = b) : Fr n d ((t, .bool b') :: l) a := hf.weak fun i v hv => by
 simp only [Vu] at hv
 by_cases e' : i = t
 ·subst e'; rw [Nat.beq_refl] at hv; subst e; rw [ht]; exact hv
 ·rw [show Nat.beq i t = false from by rw [Bool.eq_false_iff]; exact fun hb => e' (Nat.eq_of_beq_eq_true hb)] at hv; exact hv
theorem jI (t : Nat) (ht : Vu l t = some (.bool b)) (h1 : b = true → HD c d ((t, .bool true) :: l) L X ops rest T) (h0 : b = false → HD c d ((t, .bool false) :: l) L X ops rest T) : HD c d l L X ops rest T := fun a hf => by
 cases hb : b with
 | true => exact h1 hb a (vG hf ht hb.symm)
 | false => exact h0 hb a (vG hf ht hb.symm)
theorem Qt
  (hg : Kp l ops ⟨some i, .call ⟨.value f, args, at_⟩, ty, ps, af, gd⟩ = some true) (hi : Nat.ble (i + 1) c.n = true) (hca : KD l f args = some (g, vs)) (eg : Enters c.P g)
  (hp : Pure c.P g vs.toArray v) (h : HD c d ((i, v) :: l) L X ops rest T) : HD c d l L X ops (⟨some i, .call ⟨.value f, args, at_⟩, ty, ps, af, gd⟩ :: rest) T := fun a hf => by
 refine ⟨fun _ _ _ _ => trivial, ?_⟩
 rw [if_pos (JD hf hg)]
 refine ⟨v, fun w hs => ?_, h _ (hf.put (Nat.le_of_ble_eq_true hi))⟩
 unfold Oper.quietAtIn
 rw [VJ hf hca c.P w _ rfl eg]
 refine ⟨rfl, fun hdep => nH, ?_⟩
 have hc := callsIn_wide (n := 0) |>.2 (hp.run w)
 refine CallsIn.mono mM ?_
 rintro e w' ⟨rfl, hk⟩
 exact ⟨rfl, hs.more hk⟩
inductive LookAll (l : Ko) : Ko → Prop
  | nil : LookAll l []
  | cons {i v r : _} : Vu l i = some v → LookAll l r → LookAll l ((i, v) :: r)
theorem oR {A : Jj} : ∀ q ∈ B, q ∈ A ∨ q ∈ B := fun _ h => Or.inr h
theorem oN {p : Nat × Obj → Prop} : ∀ q ∈ ([] : Jj), p q := fun _ h => nomatch h
theorem lK {l r : Ko} (h : r.map (fun p => Vu l p.1) = r.map fun p => some p.2) : LookAll l r := by
  induction r with
  | nil => exact .nil
  | cons p r ih => obtain ⟨i, v⟩ := p; simp only [List.map_cons, List.cons.injEq] at h; exact .cons h.1 (ih h.2)
theorem LookAll.get {l : Ko} : ∀ {r : Ko}, LookAll l r → ∀ i v, Vu r i = some v → Vu l i = some v
 | _, .nil, i, v, h => by cases h
 | (j, u) :: r, .cons h1 h2, i, v, h => by
  simp only [Vu] at h
  by_cases e : i = j
  ·subst e; rw [Nat.beq_refl] at h; simp only [Option.some.injEq] at h; subst h; exact h1
  ·rw [show Nat.beq i j = false from by rw [Bool.eq_false_iff]; exact fun hb => e (Nat.eq_of_beq_eq_true hb)] at h
   exact h2.get i v h
def Jl8 {σ : Type} (c : Cx) (d : List Deferred) (I : σ → Prop) (lI : σ → Ko) (LI : σ → Jj) (XI : σ → XP) (μ : σ → Nat) (s : σ) (a : Act) (w : World) : Prop :=
 ∃ s', I s' ∧ μ s' < μ s ∧ Fr c.n d (lI s') a ∧ St c (LI s') (XI s') w
theorem Jr0 (I : σ → Prop) (lI : σ → Ko) (LI : σ → Jj) (XI : σ → XP) (μ : σ → Nat) (s0 : σ) (h0 : I s0) (hl : LookAll l (lI s0)) (hL : (LI s0).Sublist L) (hX : ∀ xs w, X xs w → XI s0 xs w)
  (hr : ∀ s, I s → HC c d (lI s) (LI s) (XI s) body (Exit.then (Jl8 c d I lI LI XI μ s) Q)) : HC c d l L X (.loop body) Q := fun a w hf hs => by
 have least : ∀ p : Nat → Prop, (∃ m, p m) → ∃ m, p m ∧ ∀ k, p k → m ≤ k := by
  intro p ⟨m, hm⟩
  induction m using Nat.strongRecOn with
  | _ m ih =>
   by_cases hx : ∃ k, k < m ∧ p k
   obtain ⟨k, hk, hp⟩ := hx; exact ih k hk hp
   exact Dh
 let p : Act → World → Nat → Prop := fun a w m => ∃ s, I s ∧ Fr c.n d (lI s) a ∧ St c (LI s) (XI s) w ∧ μ s = m
 have meas : ∃ f : Act → World → Nat, ∀ a w, (∃ m, p a w m) → p a w (f a w) ∧ ∀ k, p a w k → f a w ≤ k := by
  have h1 : ∀ a w, ∃ m, (∃ m, p a w m) → p a w m ∧ ∀ k, p a w k → m ≤ k := fun a w => by
   by_cases hx : ∃ m, p a w m
   obtain ⟨m, hm⟩ := least _ hx; exact ⟨m, fun _ => hm⟩
   exact ⟨0, fun hy => absurd hy hx⟩
  exact HV
 obtain ⟨f, hfm⟩ := meas
 refine wpIn_loop (fun a w => ∃ m, p a w m) f ⟨μ s0, s0, h0, hf.weak hl.get, (hs.weakL hL).weakX hX, rfl⟩ ?_
 intro a w hp
 obtain ⟨⟨s, h1, h2, h3, h4⟩, _⟩ := hfm a w hp
 refine wpIn_mono (hr s h1 a w h2 h3) ?_
 intro e a' w' hq
 cases e with
 | normal =>
  exact gX
 | _ => exact hq
theorem Jr {s : σ} (s' : σ) (h1 : I s') (h2 : μ s' < μ s) (h3 : LookAll l (lI s')) (h4 : (LI s').Sublist L) (h5 : ∀ xs w, X xs w → XI s' xs w) :
  HQ c d l L X (Jl8 c d I lI LI XI μ s) := fun _ _ hf hs => ⟨s', h1, h2, hf.weak h3.get, (hs.weakL h4).weakX h5⟩
end
theorem wrap_i64 {z : Int} (h1 : -9223372036854775808 ≤ z) (h2 : z ≤ 9223372036854775807) : IntKind.i64.wrap z = z := by rw [IntKind.wrap_i64]; omega
theorem wrap_u64 {z : Int} (h1 : 0 ≤ z) (h2 : z ≤ 18446744073709551615) : IntKind.u64.wrap z = z := by
 show z % (2 ^ 64 : Int) = z
 omega
theorem xA {z : Int} (h1 : 0 ≤ z) (h2 : z ≤ 255) : IntKind.u8.wrap z = z := by
 show z % (2 ^ 8 : Int) = z
 omega
section
variable {c : Cx} {l : Ko} {L : Jj} {X : XP} {Q : Exit → Act → World → Prop} {d : List Deferred} {T : Act → Prop}
variable {ops : Array Oper} {rest : List Oper} {i : Nat} {v : Value} {t : TypeId} {ps : String} {af : Array Edge} {gd : Option (Nat × Bool)} {ty : TypeId}
theorem Jh {z : Int} (h1 : -9223372036854775808 ≤ z) (h2 : z ≤ 9223372036854775807) (h : HL c d ((i, .int .i64 z) :: l) L X ops rest Q) : HL c d ((i, .int .i64 (IntKind.i64.wrap z)) :: l) L X ops rest Q := by rw [wrap_i64 h1 h2]; exact h
theorem qX {z : Int} (h1 : 0 ≤ z) (h2 : z ≤ 18446744073709551615) (h : HL c d ((i, .int .u64 z) :: l) L X ops rest Q) : HL c d ((i, .int .u64 (IntKind.u64.wrap z)) :: l) L X ops rest Q := by rw [wrap_u64 h1 h2]; exact h
theorem V9 {z : Int} (h1 : -9223372036854775808 ≤ z) (h2 : z ≤ 9223372036854775807) (h : HD c d ((i, .int .i64 z) :: l) L X ops rest T) : HD c d ((i, .int .i64 (IntKind.i64.wrap z)) :: l) L X ops rest T := by rw [wrap_i64 h1 h2]; exact h
theorem Jb5 {z : Int} (h1 : 0 ≤ z) (h2 : z ≤ 18446744073709551615) (h : HD c d ((i, .int .u64 z) :: l) L X ops rest T) : HD c d ((i, .int .u64 (IntKind.u64.wrap z)) :: l) L X ops rest T := by rw [wrap_u64 h1 h2]; exact h
theorem QP {a b : Int} (h1 : 0 ≤ a) (h2 : 0 < b) (h3 : a ≤ 9223372036854775807) : IntKind.i64.wrap (a.tdiv b) = a / b := by
 rw [Int.tdiv_eq_ediv_of_nonneg h1]
 have h4 : a / b ≤ a := Int.ediv_le_self b h1
 have h5 : 0 ≤ a / b := Int.ediv_nonneg h1 m0
 exact wrap_i64 m0 m0
theorem Jfg {a b : Int} (h1 : 0 ≤ a) (h2 : 0 < b) (h3 : a ≤ 9223372036854775807) (h : HL c d ((i, .int .i64 (a / b)) :: l) L X ops rest Q) : HL c d ((i, .int .i64 (IntKind.i64.wrap (a.tdiv b))) :: l) L X ops rest Q := by rw [QP h1 h2 h3]; exact h
theorem Jfh {a b : Int} (h1 : 0 ≤ a) (h2 : 0 < b) (h3 : a ≤ 9223372036854775807) (h : HD c d ((i, .int .i64 (a / b)) :: l) L X ops rest T) : HD c d ((i, .int .i64 (IntKind.i64.wrap (a.tdiv b))) :: l) L X ops rest T := by rw [QP h1 h2 h3]; exact h
theorem Jv9 {k : IntKind} {a b : Int} (h1 : 0 ≤ a) (h : HL c d ((i, .int k (a % b)) :: l) L X ops rest Q) : HL c d ((i, .int k (a.tmod b)) :: l) L X ops rest Q := by rw [Int.tmod_eq_emod_of_nonneg h1]; exact h
theorem Jl9 {k : IntKind} {a b : Int} (h1 : 0 ≤ a) (h : HD c d ((i, .int k (a % b)) :: l) L X ops rest T) : HD c d ((i, .int k (a.tmod b)) :: l) L X ops rest T := by rw [Int.tmod_eq_emod_of_nonneg h1]; exact h
theorem Qc (e : v = v') (h : HD c d ((i, v') :: l) L X ops rest T) : HD c d ((i, v) :: l) L X ops rest T := e ▸ h
def Jb6 (P : Program) (t : TypeId) : Option Nat := match P.info? t with | some i => some i.bytes | none => none
theorem vH  {e b : Nat} (h1 : QL P e = some z) (h2 : KQ P e = some sz) (h3 : Jb6 P e = some b) : ∃ i, P.info? e = some i ∧ i.zero = some z ∧ i.size = sz ∧ i.bytes = b := by
 unfold QL at h1; unfold KQ at h2; unfold Jb6 at h3
 cases hi : P.info? e with
 | none => simp [hi] at h1
 | some i => simp only [hi, Option.some.injEq] at h1 h2 h3; exact ⟨i, rfl, h1, h2, h3⟩
inductive SlOwn (L : Jj) (e sz : Nat) : Value → Nat → List Value → Jj → Prop
  | nil : SlOwn L e sz (.slice none 0 0) 0 [] L
  | own {k r n cap : Nat} {cs : Array Value} {xs : List Value} {L0 : Jj} (h : L[k]? = some (r, .cells cs e (0, 0))) (hx : cs.toList.take (n * sz) = xs) (hl : xs.length = n * sz) (hc : cs.size = cap * sz) (hL : L.eraseIdx k = L0) :
      SlOwn L e sz (.slice (some ⟨r, 0, none⟩) n cap) n xs L0
theorem wq {α : Type} : ∀ {L : List α} {k : Nat} (_ : k < L.length) (a : α), (L.set k a).Perm (a :: L.eraseIdx k)
 | [], k, h, a => by simp at h
 | x :: L, 0, h, a => by simp
 | x :: L, k + 1, h, a => by
  simp only [List.set_cons_succ, List.eraseIdx_cons_succ]
  exact ((wq nb a).cons x).trans (List.Perm.swap a x _)
theorem St.perm (h : St c L X w) (hp : L.Perm L') : St c L' X w :=
 ⟨h.keep, fun p hm => h.own p (hp.symm.subset hm), (hp.pairwise_iff (fun hab => hab.symm)).1 h.distinct, h.ext, h.xlt, h.x.sub fun p hm => ⟨p.2, hp.symm.subset hm⟩⟩
theorem jJ (r off j : Nat) : (⟨r, off, none⟩ : Addr).add j = ⟨r, off + j, none⟩ := Zg r off j
theorem X0 {n : Nat} (h : w.heap[r]? = some (.cells cs e fr)) (hn : (cs.toList.drop off).take n = news) :
  ∀ (j : Nat) (u : Value), news[j]? = some u → w.cell? ((⟨r, off, none⟩ : Addr).add j) = some u := fun j u hu => by
 subst hn
 rw [jJ, Wn h]
 rw [List.getElem?_take] at hu
 split at hu
 ·rw [List.getElem?_drop] at hu; simpa using hu
 ·cases hu
theorem W7 {x y : Operand} {e sz b r2 off2 m c2 e2 n : Nat} {z : Value} {fr2 : Nat × Nat} {cs2 : Array Value} {news xs : List Value} {L0 : Jj}
  (hg : Kp l ops ⟨some i, .call ⟨.builtin .append, #[x, y], #[t, t]⟩, ty, ps, af, gd⟩ = some true) (hi : Nat.ble (i + 1) c.n = true)
  (hx : Kh l x = some v) (hy : Kh l y = some (.slice (some ⟨r2, off2, none⟩) m c2)) (hk2 : known c L r2 (.cells cs2 e2 fr2))
  (ht : Ks c.P t = some e) (hz : QL c.P e = some z) (hs : KQ c.P e = some sz) (hb : Jb6 c.P e = some b) (hzs : z.cells.size = sz) (hsz : 0 < sz)
  (hn : (cs2.toList.drop off2).take (m * sz) = news) (hln : news.length = m * sz) (hone : news.all QW = true) (hm : 0 < m)
  (ho : SlOwn L e sz v n xs L0) (h63 : n + m ≤ 9223372036854775807) (h47 : (n + m) * b ≤ 140737488355328)
  (h : ∀ r' cap' spare, (n + m) * sz + spare.length = cap' * sz → HL c d ((i, .slice (some ⟨r', 0, none⟩) (n + m) cap') :: l) ((r', .cells (xs ++ news ++ spare).toArray e (0, 0)) :: L0) X ops rest Q) :
  HL c d l L X ops (⟨some i, .call ⟨.builtin .append, #[x, y], #[t, t]⟩, ty, ps, af, gd⟩ :: rest) Q := by
 obtain ⟨inf, hinf, hz', hs', hb'⟩ := vH hz hs hb
 subst hs' hb'
 have hone' : ∀ u ∈ news, u.oneCell' = true := fun u hu => by rw [XR]; exact List.all_eq_true.1 hone u hu
 refine Wo (α := { p : Nat × Nat × List Value // (n + m) * inf.size + p.2.2.length = p.2.1 * inf.size }) (V := fun p => .slice (some ⟨p.1.1, 0, none⟩) (n + m) p.1.2.1)
  (L' := fun p => (p.1.1, .cells (xs ++ news ++ p.1.2.2).toArray e (0, 0)) :: L0) (X' := fun _ => X) hg rfl rfl hi (fun a w hf hst => ?_) (fun p => h p.1.1 p.1.2.1 p.1.2.2 p.2)
 have hnews := X0 (hst.known hk2) hn
 have exec : ∀ r w', (Builtin.append_ #[t, t] ty #[v, .slice (some ⟨r2, off2, none⟩) m c2]).run c.P w = .ok r w' →
   (execOp a.eval ⟨some i, .call ⟨.builtin .append, #[x, y], #[t, t]⟩, ty, ps, af, gd⟩).run c.P w = .ok (.value r) w' := fun r w' hr => by
  have ex := hf.eval hx
  have ey := hf.eval hy
  simp [execOp, resolve, Sem.run_bind, ex, ey, Result.andThen, invoke, builtin, hr]
 have newcase : ∀ (xs : List Value) (L0 : Jj) (old : Nat) (_ : L0.Sublist L) (_ : xs.length = n * inf.size), St c ((w.heap.size, .cells (xs.toArray ++ news.toArray ++ Builtin.zeroCells z.cells (grownCap w (n + m) old e - (n + m))) e (0, 0)) :: L0) X
   (w.drew.alloc (.cells (xs.toArray ++ news.toArray ++ Builtin.zeroCells z.cells (grownCap w (n + m) old e - (n + m))) e)) ∧
   (n + m) * inf.size + (Builtin.zeroCells z.cells (grownCap w (n + m) old e - (n + m))).toList.length = grownCap w (n + m) old e * inf.size := fun xs L0 old hsub hxl => by
  refine ⟨(hst.drew.weakL hsub).alloc _, ?_⟩
  have hge := grownCap_ge w (n + m) old e
  rw [Array.length_toList, size_zeroCells, hzs, ← Nat.add_mul]
  congr 1; omega
 cases ho with
 | nil =>
  have hr := run_append_nil (P := c.P) w t ty e inf z (Ki ht) hinf hz' ⟨r2, off2, none⟩ m c2 news hln hnews hm (by simp at h63; omega) (by simp only [Nat.zero_add] at h47; omega)
  obtain ⟨h1, h2⟩ := newcase [] L 0 (List.Sublist.refl _) mf
  simp only [Nat.zero_add] at h1 h2
  refine ⟨⟨(w.heap.size, grownCap w m 0 e, (Builtin.zeroCells z.cells (grownCap w m 0 e - m)).toList), by simpa using h2⟩, _, exec _ _ (by simpa using hr), ?_⟩
  have e1 : (#[] ++ news.toArray ++ Builtin.zeroCells z.cells (grownCap w m 0 e - m)) = ([] ++ news ++ (Builtin.zeroCells z.cells (grownCap w m 0 e - m)).toList).toArray := by
   apply Array.toList_inj.1; simp
  simp only [Nat.zero_add]
  rw [← e1]
  simpa using h1
 | @own k r n cap cs xs L0 hk hxx hl hc hL =>
  have hget := hst.get hk
  by_cases hroom : n + m ≤ cap
  ·have hfit : n * inf.size + news.length ≤ cs.size := by rw [hln, hc, ← Nat.add_mul]; exact Nat.mul_le_mul_right _ hroom
   have hr := run_append_room (P := c.P) w t ty e inf (Ki ht) hinf r n cap cs hget ⟨r2, off2, none⟩ m c2 news hln hnews hone' hroom hfit
   refine ⟨⟨(r, cap, cs.toList.drop (n * inf.size + news.length)), ?_⟩, _, exec _ _ hr, ?_⟩
   ·simp only [List.length_drop, Array.length_toList]
    rw [hln, hc] at hfit ⊢
    rw [Nat.add_mul]; omega
   ·have h1 := hst.set hk (Keep.setRow r (cs.toList.take (n * inf.size) ++ news ++ cs.toList.drop (n * inf.size + news.length)).toArray) (setRow_heap _ _ _ _ _ _ hget)
    have h2 := h1.perm (wq (by exact (List.getElem?_eq_some_iff.1 hk).1) _)
    rw [hxx, hL] at h2
    rw [hxx]
    exact h2
  ·have holds : ∀ (j : Nat) (u : Value), xs[j]? = some u → w.cell? ((⟨r, 0, none⟩ : Addr).add j) = some u := X0 hget (by simpa using hxx)
   have hr := run_append_grow (P := c.P) w t ty e inf z (Ki ht) hinf hz' ⟨r, 0, none⟩ n cap xs hl holds ⟨r2, off2, none⟩ m c2 news hln hnews m0 m0 (growslice_fits m0 h47)
   obtain ⟨h1, h2⟩ := newcase xs L0 cap (by subst hL; exact List.eraseIdx_sublist _ _) hl
   refine ⟨⟨(w.heap.size, grownCap w (n + m) cap e, (Builtin.zeroCells z.cells (grownCap w (n + m) cap e - (n + m))).toList), h2⟩, _, exec _ _ hr, ?_⟩
   have e1 : (xs.toArray ++ news.toArray ++ Builtin.zeroCells z.cells (grownCap w (n + m) cap e - (n + m))) = (xs ++ news ++ (Builtin.zeroCells z.cells (grownCap w (n + m) cap e - (n + m))).toList).toArray := by
    apply Array.toList_inj.1; simp
   rw [← e1]
   exact h1
theorem Qu (z : Value) (n : Nat) : madeCells #[z] n = (List.replicate n z).toArray := by
 apply Array.toList_inj.1
 apply List.ext_getElem?
 intro j
 simp only [madeCells, Array.toList_map, Array.toList_range, List.getElem?_map, List.getElem?_replicate]
 by_cases h : j < n
 ·simp [h, List.getElem?_range h, Nat.mod_one]
 ·simp [h]
theorem WJ {e b n : Nat} {kx ky : IntKind} (hg : Kp l ops ⟨some i, .makeSlice t x y, ty, ps, af, gd⟩ = some true) (hi : Nat.ble (i + 1) c.n = true)
  (hx : Kh l x = some (.int kx (n : Int))) (hy : Kh l y = some (.int ky (n : Int))) (ht : Ks c.P t = some e) (hz : QL c.P e = some z) (hs : KQ c.P e = some 1) (hb : Jb6 c.P e = some b) (hzs : z.cells = #[z])
  (h48 : b * n ≤ 281474976710656) (h63 : n ≤ 9223372036854775807)
  (h : ∀ r, HL c d ((i, .slice (some ⟨r, 0, none⟩) n n) :: l) ((r, .cells (List.replicate n z).toArray e (0, 0)) :: L) X ops rest Q) : HL c d l L X ops (⟨some i, .makeSlice t x y, ty, ps, af, gd⟩ :: rest) Q := by
 obtain ⟨inf, hinf, hz', hs', hb'⟩ := vH hz hs hb
 refine Wo (V := fun r => .slice (some ⟨r, 0, none⟩) n n) (L' := fun r => (r, .cells (List.replicate n z).toArray e (0, 0)) :: L) (X' := fun _ => X) hg rfl rfl hi (fun a w hf hst => ?_) h
 refine ⟨w.heap.size, w.alloc (.cells (List.replicate n z).toArray e), ?_, hst.alloc _⟩
 have hr := run_make (P := c.P) w t e inf z (Ki ht) hinf hz' kx ky n n m0 m0 (by rw [hb']; rw [← Int.natCast_mul]; exact Int.ofNat_le.2 h48) m0
 rw [hs', hzs, Nat.mul_one, Qu] at hr
 simp only [Int.toNat_natCast] at hr
 refine Gl ?_
 rw [hf.eval hx, hf.eval hy, hr]
 rfl
theorem VA  {t e n : Nat} {r : List Value} (ht : Ks P t = some e) (hz : QL P e = some z) (hs : KQ P e = some sz) (hzs : z.cells.size = sz) (hb : n * sz ≤ 16777216) (h0 : 0 < n * sz)
  (h : Zc (fun i => some (i * sz, sz)) (madeCells z.cells (n * sz)).toList (parts.map fun p => (p.1, p.2.cells.toList)) = some r) (w : World) :
  (Instr.buildSlice t n parts.toArray).run P w = .ok (.slice (some ⟨w.heap.size, 0, none⟩) n n) (w.alloc (.cells r.toArray e)) := by
 have hf := vE (fun i => some (i * sz, sz)) parts (madeCells z.cells (n * sz)) r h
 have n1 : ¬ (n * sz > 2 ^ 24) := by omega
 have n2 : ¬ (n * sz = 0) := by omega
 have n1' : ¬ (16777216 < n * sz) := by omega
 unfold Instr.buildSlice
 simp only [Sem.run_bind, Qk (Ki ht), Result.andThen, V8 hs, n1, if_false, n2, Xz hz, Sem.run_pure]
 have e1 : (Array.range (n * sz)).map (fun x => z.cells[x % z.cells.size]!) = madeCells z.cells (n * sz) := rfl
 simp [hf, newRow, Xz hz, e1]
theorem J7 {n e : Nat} {vs : Ko} {r : List Value} (hg : Kp l ops ⟨some i, .buildSlice t n pa.toArray, ty, ps, af, gd⟩ = some true) (hi : Nat.ble (i + 1) c.n = true)
  (hp : WI l pa = some vs) (ht : Ks c.P t = some e) (hz : QL c.P e = some z) (hs : KQ c.P e = some sz) (hzs : z.cells.size = sz) (hb : Nat.ble (n * sz) 16777216 = true) (h0 : Nat.ble 1 (n * sz) = true)
  (hmk : (madeCells z.cells (n * sz)).toList = zs) (hf : Zc (fun i => some (i * sz, sz)) zs (QE vs) = some r)
  (h : ∀ q, HL c d ((i, .slice (some ⟨q, 0, none⟩) n n) :: l) ((q, .cells r.toArray e (0, 0)) :: L) X ops rest Q) : HL c d l L X ops (⟨some i, .buildSlice t n pa.toArray, ty, ps, af, gd⟩ :: rest) Q := by
 refine Wo (V := fun q => .slice (some ⟨q, 0, none⟩) n n) (L' := fun q => (q, .cells r.toArray e (0, 0)) :: L) (X' := fun _ => X) hg rfl rfl hi (fun a w hfr hst => ⟨w.heap.size, w.alloc (.cells r.toArray e), ?_, hst.alloc _⟩) h
 have h1 := Vp hfr hp
 have h2 : (pa.toArray.map fun (p : Nat × Operand) => (p.1, a.eval p.2)) = vs.toArray := by
  apply Array.toList_inj.1; rw [Array.toList_map]; simpa using h1
 rw [Qz] at hf
 subst hmk
 have h3 := VA ht hz hs hzs (Nat.le_of_ble_eq_true hb) (Nat.le_of_ble_eq_true h0) hf w
 rw [← h2] at h3
 refine Gl ?_
 have h4 : (Instr.buildSlice t n (pa.toArray.map fun (i, x) => (i, a.eval x))).run c.P w = .ok (.slice (some ⟨w.heap.size, 0, none⟩) n n) (w.alloc (.cells r.toArray e)) := h3
 rw [h4]; rfl
end
def vI (L : Jj) (w : World) : Prop := ∀ p ∈ L, w.heap[p.1]? = some p.2
theorem Keep.glue {xs : List Nat} {a b c : World} (h : Keep ids a b) (k : Keep xs b c) (hs : ∀ i ∈ xs, i ∈ ids ∨ a.heap.size ≤ i) : Keep ids a c :=
 ⟨k.os.trans h.os, k.tape.trans h.tape, k.output.trans h.output, Nat.le_trans h.size k.size, fun i hi hn => (k.block i (Nat.lt_of_lt_of_le hi h.size) fun hm => (hs i hm).elim hn m0).trans (h.block i hi hn)⟩
def YS (P : Program) (q : Nat) (vals : Array Value) (xs : List Nat) (w : World) (XT XF : XP) : Prop :=
 YieldAt (FW none) 0 P q vals w fun e w' => ∃ b xs', e = .returned (.bool b) ∧ (∀ k ∈ xs', k < w'.heap.size ∧ (k ∈ xs ∨ w.heap.size ≤ k)) ∧ Keep xs w w' ∧ Zf xs' (if b = true then XT else XF) w'
def xB {ι : Type} (P : Program) (gf : FuncId) (caps : List Value) (Rl : Jj) (p0 : ι) (nx : ι → List Value → ι → Prop) (fin : ι → Prop) : Prop :=
 ∀ (q : Nat) (xids : List Nat) (w2 : World) (XI : ι → XP) (XF : XP),
  (∀ p ∈ Rl, p.1 ∉ xids ∧ w2.heap[p.1]? = some p.2) → (∀ k ∈ xids, k < w2.heap.size) → Zf xids (XI p0) w2 →
  (∀ i v i', nx i v i' → ∀ xs w, (∀ k ∈ xs, k < w.heap.size ∧ (k ∈ xids ∨ w2.heap.size ≤ k)) → Keep xids w2 w → Zf xs (XI i) w → YS P q v.toArray xs w (XI i') XF) →
  Calls P gf (.func (.yield q) #[] #[] :: caps).toArray w2 fun e w' => (∃ v, e = .returned v) ∧ Keep xids w2 w' ∧ ((∃ i xs, fin i ∧ XI i xs w') ∨ ∃ xs, XF xs w')
def nxN (vals : Nat → List Value) (N : Nat) : Nat → List Value → Nat → Prop := fun i v i' => i < N ∧ v = vals i ∧ i' = i + 1
def Jfi (N : Nat) : Nat → Prop := fun i => i = N
section
variable {c : Cx} {l : Ko} {L : Jj} {X : XP} {Q : Exit → Act → World → Prop} {d : List Deferred}
variable {ops : Array Oper} {rest : List Oper} {i : Nat} {v : Value} {t : TypeId} {ps : String} {af : Array Edge} {gd : Option (Nat × Bool)} {ty : TypeId}
def Jma {ι : Type} (P : Program) (gf : FuncId) (caps : List Value) (Rl : Jj) (p0 : ι) (nx : ι → List Value → Jj → ι → Prop) (fin : ι → Prop) : Prop :=
 ∀ (q : Nat) (xids : List Nat) (w2 : World) (XI : ι → XP) (XF : XP),
  (∀ p ∈ Rl, p.1 ∉ xids ∧ w2.heap[p.1]? = some p.2) → (∀ k ∈ xids, k < w2.heap.size) → Zf xids (XI p0) w2 →
  (∀ i v B i', nx i v B i' → ∀ xs w, (∀ k ∈ xs, k < w.heap.size ∧ (k ∈ xids ∨ w2.heap.size ≤ k)) → Keep xids w2 w → Zf xs (XI i) w → vI B w → (∀ p ∈ B, p.1 ∉ xs ∧ p.1 ∉ xids) → YS P q v.toArray xs w (XI i') XF) →
  Calls P gf (.func (.yield q) #[] #[] :: caps).toArray w2 fun e w' => (∃ v, e = .returned v) ∧ Keep xids w2 w' ∧ ((∃ i xs, fin i ∧ XI i xs w') ∨ ∃ xs, XF xs w')
theorem zo  {XT : XP}
  (hg : Kp l ops ⟨some i, .call ⟨.value f, args, at_⟩, ty, ps, af, gd⟩ = some true) (hi : Nat.ble (i + 1) c.n = true)
  (hf : Kh l f = some (.func (.yield q) #[] #[])) (ha : evs l args.toList = some vs)
  (hY : ∀ xs w, (∀ k ∈ xs, k < w.heap.size ∧ (k ∈ c.xids ∨ c.w1.heap.size ≤ k)) → Keep (c.ids ++ c.xids) c.w1 w → Zf xs X w → vI B w → (∀ p ∈ B, p.1 ∉ xs ∧ p.1 ∉ c.xids) → YS c.P q vs.toArray xs w XT XF) (hBL : ∀ p ∈ B, p ∈ L)
  (h1 : HL c d ((i, .bool true) :: l) L XT ops rest Q) (h0 : HL c d ((i, .bool false) :: l) L XF ops rest Q) : HL c d l L X ops (⟨some i, .call ⟨.value f, args, at_⟩, ty, ps, af, gd⟩ :: rest) Q := fun a w hfr hs => by
 refine QT (JD hfr hg) rfl ?_
 obtain ⟨xs, hx1, hx2⟩ := hs.x
 obtain ⟨fn, tmps, assign, body, hy, hR⟩ := hY xs w (fun k hk => ⟨(hx1 k hk).2.1, (hx1 k hk).1⟩) hs.keep hx2 (fun p hp => (hs.own p (hBL p hp)).2.2) (fun p hp => ⟨fun hm => (hx1 _ hm).2.2 p (hBL p hp) rfl, (hs.own p (hBL p hp)).2.1⟩)
 have h2 := hfr.evals ha
 have h3 : args.map a.eval = vs.toArray := by apply Array.toList_inj.1; rw [Array.toList_map]; simpa using h2
 have h4 : a.eval f = .func (.yield q) #[] #[] := hfr.eval hf
 have hrun : (execOp a.eval ⟨some i, .call ⟨.value f, args, at_⟩, ty, ps, af, gd⟩).run c.P w = .ok (.round q fn tmps assign body) w := by
  refine Gl ?_
  simp [resolve, h3, h4, Deferred.ofValue, Result.andThen, invoke, hy]
 rw [hrun, Oper.uponIn_round]
 refine ⟨fun hdep => nH, ?_⟩
 refine RoundIn.mono M6 ?_
 rintro e w' ⟨b, xs', rfl, hxs, hk, hb⟩
 have hs' : ∀ X', Zf xs' X' w' → St c L X' w' := fun X' hx => by
  refine ⟨hs.keep.glue hk fun k hm => ?_, fun p hp => ?_, hs.distinct, hs.ext, hs.xlt, xs', fun k hm => ?_, hx⟩
  ·rcases (hx1 k hm).1 with g | g
   ·exact .inl (List.mem_append_right _ g)
   ·exact .inr g
  ·exact GO
  ·obtain ⟨g1, g2⟩ := hxs k hm
   refine ⟨g2.elim (fun g => (hx1 k g).1) fun g => .inr (Nat.le_trans hs.keep.size g), g1, fun p hp => ?_⟩
   rcases g2 with g | g
   ·exact (hx1 k g).2.2 p hp
   ·have := Jx (hs.own p hp).2.2; omega
 cases b with
 | true => exact h1 _ w' (hfr.put (Nat.le_of_ble_eq_true hi)) (hs' XT Mi)
 | false => exact h0 _ w' (hfr.put (Nat.le_of_ble_eq_true hi)) (hs' XF Mi)
theorem WP  {XT : XP}
  (hg : Kp l ops ⟨some i, .call ⟨.value f, args, at_⟩, ty, ps, af, gd⟩ = some true) (hi : Nat.ble (i + 1) c.n = true)
  (hf : Kh l f = some (.func (.yield q) #[] #[])) (ha : evs l args.toList = some vs)
  (hY : ∀ xs w, (∀ k ∈ xs, k < w.heap.size ∧ (k ∈ c.xids ∨ c.w1.heap.size ≤ k)) → Keep (c.ids ++ c.xids) c.w1 w → Zf xs X w → YS c.P q vs.toArray xs w XT XF)
  (h1 : HL c d ((i, .bool true) :: l) L XT ops rest Q) (h0 : HL c d ((i, .bool false) :: l) L XF ops rest Q) : HL c d l L X ops (⟨some i, .call ⟨.value f, args, at_⟩, ty, ps, af, gd⟩ :: rest) Q :=
 zo (B := []) hg hi hf ha (fun xs w a b e _ _ => hY xs w a b e) (fun _ h => absurd h List.not_mem_nil) h1 h0
def Vf (D : Nat) : Deferred := { target := .collected D, args := #[] }
theorem QQ {D k : Nat} (hk : L[k]? = some (D, .deferred (some []))) (hL : L.set k (D, .deferred none) = L')
  (h : HQ c d l L' X (bodyPostM (FW none) 0 P fn R .ret)) : HQ c (Vf D :: d) l L X (bodyPostM (FW none) 0 P fn R .ret) := fun a w hf hs => by
 subst hL
 have hget := hs.get hk
 have hs' := hs.set hk (Keep.putObj D (.deferred none)) (World.putObj_heap_same (Jx hget))
 have h1 := h { tmps := a.tmps, defers := d } _ ⟨hf.size, rfl, hf.slots⟩ hs'
 show LeavesInM _ _ _ _ _ _ _ _ _
 rw [hf.defers]
 exact ⟨by simp, .inl ⟨D, _, rfl, run_takeDeferred hget, h1⟩⟩
theorem St.jump {xs : List Nat} (h : St c L X w) (hk : Keep xs w w') (hx : ∀ k ∈ xs, ∃ o, (k, o) ∈ L) (hd : L'.Pairwise fun p q => p.1 ≠ q.1)
  (hL : ∀ p ∈ L', ((∃ o, (p.1, o) ∈ L) ∨ w.heap.size ≤ p.1) ∧ w'.heap[p.1]? = some p.2) : St c L' X w' := by
 refine ⟨h.keep.glue hk fun k hm => ?_, fun p hp => ?_, hd, h.ext, h.xlt, ?_⟩
 ·obtain ⟨o, ho⟩ := hx k hm
  exact ((h.own _ ho).1).imp (fun g => List.mem_append_left _ g) id
 ·obtain ⟨g, h2⟩ := hL p hp
  rcases g with ⟨o, ho⟩ | g
  ·obtain ⟨g1, g2, _⟩ := h.own _ ho
   exact ⟨g1, g2, h2⟩
  ·exact ⟨.inr (Nat.le_trans h.keep.size g), fun hm => by have := h.xlt _ hm; have := h.keep.size; omega, h2⟩
 ·obtain ⟨ys, h1, h2⟩ := h.x
  refine ⟨ys, fun i hi => ⟨(h1 i hi).1, Nat.lt_of_lt_of_le (h1 i hi).2.1 hk.size, fun p hp => ?_⟩, fun w2 hw2 => h2 w2 fun i hi => (hw2 i hi).trans (hk.block i (h1 i hi).2.1 fun hm => ?_)⟩
  ·rcases (hL p hp).1 with ⟨o, ho⟩ | g
   ·exact (h1 i hi).2.2 (p.1, o) ho
   ·have := (h1 i hi).2.1; omega
  ·obtain ⟨o, ho⟩ := hx i hm
   exact (h1 i hi).2.2 _ ho rfl
def xC (L : Jj) : List Nat → Jj
 | [] => []
 | j :: js => match W1 L j with | some p => p :: xC L js | none => xC L js
theorem Zh {L : Jj} : ∀ {js : List Nat} {p : Nat × Obj}, p ∈ xC L js → ∃ j ∈ js, L[j]? = some p
 | j :: js, p, h => by
  simp only [xC, Vd] at h
  cases hj : L[j]? with
  | none => simp only [hj] at h; obtain ⟨k, hk, hp⟩ := Zh h; exact ⟨k, List.mem_cons_of_mem _ hk, hp⟩
  | some q =>
   simp only [hj] at h
   rcases List.mem_cons.1 h with rfl | h
   ·exact ⟨j, List.mem_cons_self, hj⟩
   ·obtain ⟨k, hk, hp⟩ := Zh h; exact ⟨k, List.mem_cons_of_mem _ hk, hp⟩
theorem St.sel (h : St c L X w) (js : List Nat) (hn : js.Nodup) : St c (xC L js) X w := by
 refine ⟨h.keep, fun p hp => ?_, ?_, h.ext, h.xlt, h.x.sub fun p hp => let ⟨_, _, hj⟩ := Zh hp; ⟨p.2, List.mem_of_getElem? hj⟩⟩
 ·obtain ⟨j, _, hj⟩ := Zh hp; exact h.own p (List.mem_of_getElem? hj)
 ·have hdist := h.distinct
  clear h
  induction js with
  | nil => exact List.Pairwise.nil
  | cons j js ih =>
   simp only [xC, Vd]
   cases hj : L[j]? with
   | none => exact ih (List.nodup_cons.1 hn).2
   | some q =>
    refine List.pairwise_cons.2 ⟨fun p hp => ?_, ih (List.nodup_cons.1 hn).2⟩
    obtain ⟨k, hk, hp'⟩ := Zh hp
    exact jA hdist hj hp' fun e => (List.nodup_cons.1 hn).1 (e ▸ hk)
theorem YE (js : List Nat) (hn : js.Nodup) (hL : xC L js = L') (h : HC c d l L' X code Q) : HC c d l L X code Q := fun a w hf hs => h a w hf (hL ▸ hs.sel js hn)
theorem QG (js : List Nat) (hn : js.Nodup) (hL : xC L js = L') (h : HQ c d l L' X K) : HQ c d l L X K := fun a w hf hs => h a w hf (hL ▸ hs.sel js hn)
def ws : List Nat → List Value → Ko → Ko
 | p :: ps, v :: vs, l => ws ps vs ((p, v) :: l)
 | _, _, l => l
theorem Jfj {n : Nat} : ∀ (pp : List Nat) (vs : List Value) (l : Ko) (tm : Array Value), (∀ p ∈ pp, p < n) → Fr n [] l { tmps := tm, defers := [] } →
  Fr n [] (ws pp vs l) { tmps := (pp.zip vs).foldl (fun (t : Array Value) (pv : Nat × Value) => t.setIfInBounds pv.1 pv.2) tm, defers := [] }
 | [], vs, l, tm, _, h => by cases vs <;> simpa [ws] using h
 | p :: pp, [], l, tm, _, h => by simpa [ws] using h
 | p :: pp, v :: vs, l, tm, hp, h => by
  simp only [ws, List.zip_cons_cons, List.foldl_cons]
  exact Jfj pp vs _ _ (fun q hq => hp q (List.mem_cons_of_mem _ hq)) (h.put (hp p List.mem_cons_self))
def yX (c : Cx) (q : Nat) (w3 : World) (M : List Nat) (Lk : Jj) : Cx := ⟨c.P, some q, w3, M, [q], Lk ++ c.R, c.n⟩
def QJ (L : Jj) : List Nat := L.map (·.1)
def Xa (q : Nat) (r : Loop) : XP := fun _ w => w.heap[q]? = some (.loop r)
theorem St.recd {r : Loop} (h : St c L (Xa q r) w) : w.heap[q]? = some (.loop r) := let ⟨_, h⟩ := h.now; h
def q4 {σ τ : Type} (c3 : Cx) (Xb : XP) (I : σ → Prop) (LI : σ → Jj) (E : Code → τ → Prop) (LE : τ → Jj) : Exit → Act → World → Prop
 | .normal, _, w => ∃ s, I s ∧ St c3 (LI s) Xb w
 | .ret, _, w => ∃ s, E .ret s ∧ St c3 (LE s) Xb w
 | .exit id, _, w => ∃ s, E (.exit id) s ∧ St c3 (LE s) Xb w
 | _, _, _ => False
def Jg7 (c3 : Cx) (Xr Xb : XP) (body : Code) (Qb : Exit → Act → World → Prop) (K : Act → World → Prop) : Prop :=
 ∀ l L, HC c3 [] l L Xb body Qb → HQ c3 [] l L Xr K
theorem Jb7 {r : Loop} {LE : τ → Jj}
  (h1 : ∀ s w, I s → St c3 (LI s) (Xa q { r with state := .busy }) w → R (.returned (.bool true)) (w.putObj q (.loop { r with state := .ready, pending := none })))
  (h2 : ∀ j s w, E j s → St c3 (LE s) (Xa q { r with state := .busy }) w → R (.returned (.bool false)) (w.putObj q (.loop { r with state := .done, pending := some j })))
  (e : Exit) (a : Act) (w : World) (h : q4 c3 (Xa q { r with state := .busy }) I LI E LE e a w) : roundPost c3.P q R e a w := by
 have hend : ∀ (w : World) (jump : Option Code), w.heap[q]? = some (.loop { r with state := .busy }) → (Instr.endRound q jump).run c3.P w = .ok (.bool jump.isNone) (w.putObj q (.loop { r with state := if jump.isNone then .ready else .done, pending := jump })) := fun w jump hw => run_endRound (r := { r with state := .busy }) jump hw
 cases e with
 | normal => obtain ⟨s, hs, hst⟩ := h; exact ⟨_, _, hend w none hst.recd, h1 s w hs hst⟩
 | ret => obtain ⟨s, hs, hst⟩ := h; exact ⟨_, _, hend w (some .ret) hst.recd, h2 _ s w hs hst⟩
 | exit id => obtain ⟨s, hs, hst⟩ := h; exact ⟨_, _, hend w (some (.exit id)) hst.recd, h2 _ s w hs hst⟩
 | goto t => exact h.elim
 | panic ch => exact h.elim
 | outgrown => exact h.elim
def Jb8 {σ : Type} (q B : Nat) (M : List Nat) (rec : Loop) (I : σ → Prop) (LI : σ → Jj) : XP := fun xs w =>
 (∃ s, I s ∧ (LI s).Pairwise (fun p q => p.1 ≠ q.1) ∧ (∀ p ∈ LI s, p.1 ∈ M ∨ B ≤ p.1) ∧ vI (LI s) w ∧ xs = q :: QJ (LI s)) ∧ w.heap[q]? = some (.loop rec)
theorem W8  {B : Nat} {M : List Nat} {rec : Loop} (s : σ) (h1 : I s) (h2 : (LI s).Pairwise (fun p q => p.1 ≠ q.1)) (h3 : ∀ p ∈ LI s, p.1 ∈ M ∨ B ≤ p.1) (h4 : vI (LI s) w)
  (h5 : w.heap[q]? = some (.loop rec)) : Zf (q :: QJ (LI s)) (Jb8 q B M rec I LI) w := fun w' hw' =>
 ⟨⟨s, h1, h2, h3, fun p hp => (hw' p.1 (List.mem_cons_of_mem _ (List.mem_map_of_mem (f := (·.1)) hp))).trans (h4 p hp), rfl⟩, (hw' q List.mem_cons_self).trans h5⟩
theorem q5 {nx : ι → List Value → Jj → ι → Prop}
  (I : ι → σ → Prop) (LI : σ → Jj) (E : Code → τ → Prop) (LE : τ → Jj) (Lk : Jj) (s0 : σ)
  (hro : c.ro = none) (hf : Kh l f = some (.func (.func gf) #[] caps.toArray)) (eg : Enters c.P gf) (hit : Jma c.P gf caps Rl p0 nx fi) (hlen : ∀ i v B i', nx i v B i' → v.length = pp.length) (hpp : pp.all (Nat.blt · c.n) = true)
  (hRl : ∀ p ∈ Rl, p ∈ Lk ∨ p ∈ c.R) (hL : L = LI s0 ++ Lk) (h0 : I p0 s0)
  (hround : ∀ (q : Nat) (Xr Xb : XP) (w3 : World) (i : ι) (v : List Value) (B : Jj) (i' : ι) (s : σ), nx i v B i' → I i s → ∀ K, Jg7 (yX c q w3 (QJ (LI s)) (B ++ Lk)) Xr Xb body (q4 (yX c q w3 (QJ (LI s)) (B ++ Lk)) Xb (I i') LI E LE) K →
   HC (yX c q w3 (QJ (LI s)) (B ++ Lk)) [] (ws pp v l) (LI s) Xr assign (Exit.then K fun _ _ _ => False))
  (hdone : ∀ D i s, fi i → I i s → HQ c (Vf D :: d) l ((D, .deferred (some [])) :: (LI s ++ Lk)) X (Q .normal))
  (hstop : ∀ D j s, E j s → HC c (Vf D :: d) l ((D, .deferred (some [])) :: (LE s ++ Lk)) X j Q) :
  HC c d l L X (.rangeFunc f pp.toArray assign body) Q := fun a w hfr hs => by
 subst hL
 refine wpIn_rangeFunc ?_
 intro fn _
 have e0 : (FW c.ro).round = none := by rw [hro]; rfl
 rw [e0]
 obtain ⟨r, hr⟩ : ∃ r : Loop, r = { state := .ready, pending := none, fn, tmps := a.tmps, params := pp.toArray, assign, body, defers := w.heap.size } := ⟨_, rfl⟩
 obtain ⟨w2, hw2⟩ : ∃ w2, (w.alloc (.deferred (some []))).alloc (.loop r) = w2 := ⟨_, rfl⟩
 have hq : (w.alloc (.deferred (some []))).heap.size = w.heap.size + 1 := World.size_alloc _ _
 have hs2 : St c ((w.heap.size + 1, .loop r) :: (w.heap.size, .deferred (some [])) :: (LI s0 ++ Lk)) X w2 := by
  have := (hs.alloc (.deferred (some []))).alloc (.loop r)
  rw [hq, hw2] at this
  exact this
 have hq2 : w2.heap[w.heap.size + 1]? = some (.loop r) := (hs2.own _ List.mem_cons_self).2.2
 have hrr : ({ r with state := .ready, pending := none } : Loop) = r := by rw [hr]
 obtain ⟨M, hM⟩ : ∃ M, QJ (LI s0) = M := ⟨_, rfl⟩
 refine ⟨w.heap.size + 1, [Vf w.heap.size], w2, { target := .fn (.func gf) caps.toArray, args := #[.func (.yield (w.heap.size + 1)) #[] #[]] }, w2, gf, (.func (.yield (w.heap.size + 1)) #[] #[] :: caps).toArray, w2, ?_, ?_, fun _ _ => trivial, ?_, fun hdep => nH, ?_⟩
 rw [← hw2, hr]; exact run_enterLoop_outer _ _ _ _ _
 have := hfr.eval hf
 simp only [resolve, this]
 simp [Deferred.ofValue]
 rfl
 have := eg (#[.func (.yield (w.heap.size + 1)) #[] #[]] ++ caps.toArray) w2
 have e1 : (#[Value.func (.yield (w.heap.size + 1)) #[] #[]] ++ caps.toArray) = (Value.func (.yield (w.heap.size + 1)) #[] #[] :: caps).toArray := by apply Array.toList_inj.1; simp
 rw [e1] at this
 simpa [invoke] using this
 ·-- the iterator's contract at our invariant
  have hown := hs2.distinct
  have hMown : ∀ k ∈ M, ∃ o, (k, o) ∈ LI s0 := fun k hk => by
   rw [← hM] at hk
   obtain ⟨p, hp, rfl⟩ := List.mem_map.1 hk
   exact ⟨p.2, hp⟩
  have hpw := List.pairwise_cons.1 hown
  have hpw2 := List.pairwise_cons.1 hpw.2
  have hpw3 := List.pairwise_append.1 hpw2.2
  have hsz2 : w2.heap.size = w.heap.size + 2 := by rw [← hw2, World.size_alloc, World.size_alloc]
  have hLk2 : ∀ p ∈ Lk, p.1 < w2.heap.size := fun p hp => Jx (hs2.own p (List.mem_cons_of_mem _ (List.mem_cons_of_mem _ (List.mem_append_right _ hp)))).2.2
  have hMk : ∀ p ∈ Lk, p.1 ∉ M ∧ p.1 ≠ w.heap.size + 1 := fun p hp => ⟨fun hm => by
   obtain ⟨o, ho⟩ := hMown _ hm
   exact hpw3.2.2 _ ho _ hp rfl, fun e => hpw.1 p (List.mem_cons_of_mem _ (List.mem_append_right _ hp)) e.symm⟩
  have hMq : w.heap.size + 1 ∉ M := fun hm => by
   obtain ⟨o, ho⟩ := hMown _ hm
   exact hpw.1 _ (List.mem_cons_of_mem _ (List.mem_append_left _ ho)) rfl
  have hMD : w.heap.size ∉ M := fun hm => by
   obtain ⟨o, ho⟩ := hMown _ hm
   exact hpw2.1 _ (List.mem_append_left _ ho) rfl
  have hMlt : ∀ k ∈ M, k < w2.heap.size := fun k hk => by
   obtain ⟨o, ho⟩ := hMown _ hk
   exact Jx (hs2.own _ (List.mem_cons_of_mem _ (List.mem_cons_of_mem _ (List.mem_append_left _ ho)))).2.2
  -- what a place of one's own is apart from
  have apart : ∀ {k : Nat}, (k ∈ M ∨ w2.heap.size ≤ k) → k ≠ w.heap.size + 1 ∧ k ≠ w.heap.size ∧ (∀ p ∈ Lk, p.1 ≠ k) := fun {k} hk => by
   rcases hk with hk | hk
   exact ⟨fun e => hMq (e ▸ hk), fun e => hMD (e ▸ hk), fun p hp e => (hMk p hp).1 (e ▸ hk)⟩
   exact ⟨by omega, by omega, fun p hp e => by have := hLk2 p hp; omega⟩
  have apartR : ∀ {k : Nat}, (k ∈ M ∨ w2.heap.size ≤ k) → ∀ p ∈ c.R, p.1 ≠ k := fun {k} hk p hp e => by
   obtain ⟨e1, _, e3⟩ := hs2.ext p hp
   have h1 := Jx e3
   have h2 := hs.keep.size
   rcases hk with hk | hk
   obtain ⟨o, ho⟩ := hMown _ hk
   rcases (hs2.own _ (List.mem_cons_of_mem _ (List.mem_cons_of_mem _ (List.mem_append_left _ ho)))).1 with g | g
   exact e1 (e ▸ g)
   simp only at g; omega
   omega
  have hcalls := hit (w.heap.size + 1) ((w.heap.size + 1) :: M) w2 (fun i => Jb8 (w.heap.size + 1) w2.heap.size M r (I i) LI)
   (fun xs w' => ∃ j, Jb8 (w.heap.size + 1) w2.heap.size M { r with state := .done, pending := some j } (E j) LE xs w')
   (fun p hp => by
    rcases hRl p hp with hL | hR
    refine ⟨fun hm => ?_, (hs2.own p (List.mem_cons_of_mem _ (List.mem_cons_of_mem _ (List.mem_append_right _ hL)))).2.2⟩
    obtain ⟨h1, h2⟩ := hMk p hL
    rcases List.mem_cons.1 hm with hm | hm
    exact h2 hm
    exact h1 hm
    refine ⟨fun hm => ?_, hs2.readR hR⟩
    rcases List.mem_cons.1 hm with hm | hm
    have h1 := Jx (hs2.ext p hR).2.2
    have h2 := hs.keep.size
    omega
    exact apartR (.inl hm) p hR rfl)
   (fun k hk => by
    rcases List.mem_cons.1 hk with rfl | hk
    exact Jx hq2
    exact hMlt k hk)
   (by
    have := W8 (q := w.heap.size + 1) (B := w2.heap.size) (M := M) (rec := r) (I := I p0) (LI := LI) s0 h0 hpw3.1 (fun p hp => .inl (by rw [← hM]; exact List.mem_map_of_mem (f := (·.1)) hp)) (fun p hp => (hs2.own _ (List.mem_cons_of_mem _ (List.mem_cons_of_mem _ (List.mem_append_left _ hp)))).2.2) hq2
    rw [hM] at this
    exact this)
   ?_
  ·refine CallsIn.mono nM ?_
   rintro e w' ⟨⟨v, rfl⟩, hk, hfin⟩
   have fin : ∀ (st : LoopState) (pe : Option Code) (LL : Jj), st ≠ .busy → LL.Pairwise (fun p q => p.1 ≠ q.1) → (∀ p ∈ LL, p.1 ∈ M ∨ w2.heap.size ≤ p.1) → vI LL w' → w'.heap[w.heap.size + 1]? = some (.loop { r with state := st, pending := pe }) →
     (Instr.endLoop (w.heap.size + 1)).run c.P w' = .ok pe (w'.putObj (w.heap.size + 1) (.loop { r with state := .exhausted, pending := pe })) ∧
     St c ((w.heap.size, .deferred (some [])) :: (LL ++ Lk)) X (w'.putObj (w.heap.size + 1) (.loop { r with state := .exhausted, pending := pe })) := by
    intro st pe LL hst hpwL hLM hLL hl
    refine ⟨run_endLoop hl hst, ?_⟩
    have hk2 : Keep ((w.heap.size + 1) :: M) w2 (w'.putObj (w.heap.size + 1) (.loop { r with state := .exhausted, pending := pe })) :=
     hk.trans ((Keep.putObj _ _).weak fun k hm => by simp at hm; subst hm; exact List.mem_cons_self)
    have hput : ∀ k, k ≠ w.heap.size + 1 → (w'.putObj (w.heap.size + 1) (.loop { r with state := .exhausted, pending := pe })).heap[k]? = w'.heap[k]? := fun k hne => World.putObj_heap_other hne
    refine hs2.jump hk2 (fun k hm => ?_) ?_ (fun p hp => ?_)
    rcases List.mem_cons.1 hm with rfl | hm
    exact ⟨_, List.mem_cons_self⟩
    obtain ⟨o, ho⟩ := hMown k hm
    exact ⟨o, List.mem_cons_of_mem _ (List.mem_cons_of_mem _ (List.mem_append_left _ ho))⟩
    refine List.pairwise_cons.2 ⟨fun p hp => ?_, List.pairwise_append.2 ⟨hpwL, hpw3.2.1, fun p hp p' hp' => ?_⟩⟩
    rcases List.mem_append.1 hp with hp | hp
    exact fun e => (apart (hLM p hp)).2.1 e.symm
    exact hpw2.1 p (List.mem_append_right _ hp)
    exact fun e => (apart (hLM p hp)).2.2 p' hp' e.symm
    rcases List.mem_cons.1 hp with rfl | hp
    refine ⟨.inl ⟨_, List.mem_cons_of_mem _ List.mem_cons_self⟩, ?_⟩
    rw [hput _ mf]
    refine (hk.block w.heap.size (Jx (hs2.own _ (List.mem_cons_of_mem _ List.mem_cons_self)).2.2) ?_).trans (hs2.own _ (List.mem_cons_of_mem _ List.mem_cons_self)).2.2
    simp only [List.mem_cons, not_or]; exact ⟨by omega, hMD⟩
    rcases List.mem_append.1 hp with hp | hp
    refine ⟨?_, ?_⟩
    rcases hLM p hp with g | g
    obtain ⟨o, ho⟩ := hMown _ g
    exact .inl ⟨o, List.mem_cons_of_mem _ (List.mem_cons_of_mem _ (List.mem_append_left _ ho))⟩
    exact .inr g
    rw [hput _ (apart (hLM p hp)).1]
    exact hLL p hp
    have hmem := List.mem_cons_of_mem (w.heap.size + 1, Obj.loop r) (List.mem_cons_of_mem (w.heap.size, Obj.deferred (some [])) (List.mem_append_right (LI s0) hp))
    refine ⟨.inl ⟨p.2, hmem⟩, ?_⟩
    obtain ⟨g1, g2⟩ := hMk p hp
    rw [hput _ g2]
    refine (hk.block p.1 (Jx (hs2.own _ hmem).2.2) ?_).trans (hs2.own _ hmem).2.2
    simp only [List.mem_cons, not_or]; exact ⟨g2, g1⟩
   have hfr2 : Fr c.n (Vf w.heap.size :: d) l { tmps := a.tmps, defers := [Vf w.heap.size] ++ a.defers } := ⟨hfr.size, by simp [hfr.defers], hfr.slots⟩
   rcases hfin with ⟨i, xs, hi, ⟨s, h1, h2, h3, h4, _⟩, h5⟩ | ⟨xs, j, ⟨s, h1, h2, h3, h4, _⟩, h5⟩
   obtain ⟨g1, g2⟩ := fin .ready none (LI s) mf h2 h3 h4 (by rw [hrr]; exact h5)
   exact ⟨none, _, g1, hdone _ i s hi h1 _ _ hfr2 g2⟩
   ·obtain ⟨g1, g2⟩ := fin .done (some j) (LE s) mf h2 h3 h4 h5
    exact ⟨some j, _, g1, hstop _ j s h1 _ _ hfr2 g2⟩
  ·-- a round
   rintro i v B i' hi xs w3 hxs hk3 hfoot hB hBx
   obtain ⟨⟨s, h1, hpwS, hMS, h2, rfl⟩, h3⟩ := hfoot w3 fun _ _ => rfl
   have hargs : v.toArray.size = r.params.size := by rw [hr]; simpa using hlen i v B i' hi
   have hy := run_yield (P := c.P) (args := v.toArray) h3 hargs
   refine ⟨_, _, _, _, hy, ?_⟩
   obtain ⟨c3, hc3⟩ : ∃ c3, yX c (w.heap.size + 1) w3 (QJ (LI s)) (B ++ Lk) = c3 := ⟨_, rfl⟩
   have hc3x : c3.xids = [w.heap.size + 1] := by rw [← hc3]; rfl
   have hc3i : c3.ids = QJ (LI s) := by rw [← hc3]; rfl
   have hc3w : c3.w1 = w3 := by rw [← hc3]; rfl
   have hmemS : ∀ p ∈ LI s, p.1 ∈ QJ (LI s) := fun p hp => List.mem_map_of_mem (f := (·.1)) hp
   have hidS : ∀ {k : Nat}, k ∈ QJ (LI s) → k ∈ M ∨ w2.heap.size ≤ k := fun {k} hk => by
    obtain ⟨p, hp, rfl⟩ := List.mem_map.1 hk
    exact hMS p hp
   have hst3 : St c3 (LI s) (Xa (w.heap.size + 1) r) w3 := by
    subst hc3
    refine ⟨Keep.refl _ _, fun p hp => ⟨.inl (hmemS p hp), ?_, h2 p hp⟩, hpwS, ?_, ?_, [w.heap.size + 1], fun k hk => ?_, fun w' hw' => (hw' _ mf).trans h3⟩
    simp only [yX, List.mem_singleton]; exact (apart (hMS p hp)).1
    intro p hp
    simp only [yX] at hp ⊢
    rcases List.mem_append.1 hp with hp | hp
    rcases List.mem_append.1 hp with hp | hp
    obtain ⟨b1, _⟩ := hBx p hp
    exact ⟨fun hm => b1 (List.mem_cons_of_mem _ hm), by simp only [List.mem_singleton]; exact fun e => b1 (by rw [e]; exact List.mem_cons_self), hB p hp⟩
    obtain ⟨g1, g2⟩ := hMk p hp
    refine ⟨fun hm => (apart (hidS hm)).2.2 p hp rfl, by simpa using g2, ?_⟩
    have hmem := List.mem_cons_of_mem (w.heap.size + 1, Obj.loop r) (List.mem_cons_of_mem (w.heap.size, Obj.deferred (some [])) (List.mem_append_right (LI s0) hp))
    exact (hk3.block p.1 (Jx (hs2.own _ hmem).2.2) Ms).trans (hs2.own _ hmem).2.2
    have e3 := hs2.readR hp
    have hlt := Jx (hs2.ext p hp).2.2
    have hsz := hs.keep.size
    have hnq : p.1 ≠ w.heap.size + 1 := fun e => by omega
    refine ⟨fun hm => apartR (hidS hm) p hp rfl, by simpa using hnq, ?_⟩
    exact (hk3.block p.1 (Jx e3) nG).trans e3
    intro k hk; simp only [yX, List.mem_singleton] at hk; subst hk; exact Jx h3
    simp only [List.mem_singleton] at hk
    subst hk
    exact ⟨.inl (by simp [yX]), Jx h3, fun p hp => (apart (hMS p hp)).1⟩
   have hbusy : ∀ {LL : Jj} {w' : World}, St c3 LL (Xa (w.heap.size + 1) r) w' →
     St c3 LL (Xa (w.heap.size + 1) { r with state := .busy, pending := none }) (w'.putObj (w.heap.size + 1) (.loop { r with state := .busy, pending := none })) := by
    intro LL w' hst
    have hlt : w.heap.size + 1 < w'.heap.size := Jx hst.recd
    refine ⟨hst.keep.trans ((Keep.putObj _ _).weak fun k hm => by simp at hm; subst hm; rw [hc3x]; simp), fun p hp => ?_, hst.distinct, hst.ext, hst.xlt, [w.heap.size + 1], fun k hk => ?_, fun w'' hw'' => (hw'' _ mf).trans (World.putObj_heap_same hlt)⟩
    obtain ⟨g1, g2, g3⟩ := hst.own p hp
    refine ⟨g1, g2, (World.putObj_heap_other ?_).trans g3⟩
    intro e; exact g2 (by rw [e, hc3x]; simp)
    simp only [List.mem_singleton] at hk
    subst hk
    exact ⟨.inl (by rw [hc3x]; simp), Nat.lt_of_lt_of_le hlt (Keep.putObj _ _).size, fun p hp e => (hst.own p hp).2.1 (by rw [hc3x, e]; simp)⟩
   have hfr3 : Fr c3.n [] (ws pp v l) { tmps := (r.params.zip v.toArray).foldl (fun (t : Array Value) (pv : Nat × Value) => t.setIfInBounds pv.1 pv.2) r.tmps, defers := [] } := by
    have h5 := Jfj (n := c.n) pp v l a.tmps (fun p hp => by have := List.all_eq_true.1 hpp p hp; simpa using this) ⟨hfr.size, rfl, hfr.slots⟩
    rw [hr, ← hc3]
    simp only [List.zip_toArray, List.foldl_toArray']
    exact h5
   have key : ∀ RR : Ending → World → Prop,
     (∀ s' w', I i' s' → St c3 (LI s') (Xa (w.heap.size + 1) { r with state := .busy, pending := none }) w' → RR (.returned (.bool true)) (w'.putObj (w.heap.size + 1) (.loop { r with state := .ready, pending := none }))) →
     (∀ j s' w', E j s' → St c3 (LE s') (Xa (w.heap.size + 1) { r with state := .busy, pending := none }) w' → RR (.returned (.bool false)) (w'.putObj (w.heap.size + 1) (.loop { r with state := .done, pending := some j }))) →
     RoundIn (FW none) 0 c.P (w.heap.size + 1) r.fn ((r.params.zip v.toArray).foldl (fun (t : Array Value) (pv : Nat × Value) => t.setIfInBounds pv.1 pv.2) r.tmps) r.assign r.body w3 RR := by
    intro RR g1 g2
    refine roundIn_of_wpIn (F := FW none) trivial ?_
    have hround' := hround (w.heap.size + 1) (Xa (w.heap.size + 1) r) (Xa (w.heap.size + 1) { r with state := .busy, pending := none }) w3 i v B i' s hi h1
     (fun a₁ w₁ => ∃ w₂, (Instr.beginRound (w.heap.size + 1)).run c.P w₁ = .ok () w₂ ∧ body.wpIn ((FW none).inRound (w.heap.size + 1)) 0 c.P (roundPost c.P (w.heap.size + 1) RR) a₁ w₂)
    rw [hc3] at hround'
    have hround'' := hround' (fun l' L' hb a₁ w₁ hf₁ hs₁ => ?_) _ w3 hfr3 hst3
    have e1 : r.assign = assign := by rw [hr]
    have e2 : r.body = body := by rw [hr]
    have e3 : c3.P = c.P := by rw [← hc3]; rfl
    have e4 : c3.ro = some (w.heap.size + 1) := by rw [← hc3]; rfl
    rw [e3, e4] at hround''
    rw [e1, e2]
    exact hround''
    have hx1 : w₁.heap[w.heap.size + 1]? = some (.loop r) := hs₁.recd
    refine ⟨_, run_beginRound hx1 (by rw [hr]), ?_⟩
    have hb2 := hb a₁ _ hf₁ (hbusy hs₁)
    have hb3 : ({ r with state := .busy } : Loop) = { r with state := .busy, pending := none } := by rw [hr]
    rw [hb3]
    have e3 : c3.P = c.P := by rw [← hc3]; rfl
    have e4 : c3.ro = some (w.heap.size + 1) := by rw [← hc3]; rfl
    rw [e3, e4] at hb2
    refine wpIn_mono nW ?_
    have := Jb7 (c3 := c3) (q := w.heap.size + 1) (r := { r with pending := none }) (R := RR) g1 g2
    rw [e3] at this
    exact this
   have turn : ∀ (st : LoopState) (pe : Option Code) (LL : Jj) (w' : World), St c3 LL (Xa (w.heap.size + 1) { r with state := .busy, pending := none }) w' →
     (∀ k ∈ (w.heap.size + 1) :: QJ LL, k < (w'.putObj (w.heap.size + 1) (.loop { r with state := st, pending := pe })).heap.size ∧ (k ∈ (w.heap.size + 1) :: QJ (LI s) ∨ w3.heap.size ≤ k)) ∧
     Keep ((w.heap.size + 1) :: QJ (LI s)) w3 (w'.putObj (w.heap.size + 1) (.loop { r with state := st, pending := pe })) ∧ (∀ p ∈ LL, p.1 ∈ M ∨ w2.heap.size ≤ p.1) ∧ vI LL (w'.putObj (w.heap.size + 1) (.loop { r with state := st, pending := pe })) ∧
     (w'.putObj (w.heap.size + 1) (.loop { r with state := st, pending := pe })).heap[w.heap.size + 1]? = some (.loop { r with state := st, pending := pe }) := by
    intro st pe LL w' hst'
    have hlt : w.heap.size + 1 < w'.heap.size := Jx hst'.recd
    have hk' := hst'.keep
    rw [hc3x, hc3i, hc3w] at hk'
    have hown' : ∀ p ∈ LL, (p.1 ∈ QJ (LI s) ∨ w3.heap.size ≤ p.1) ∧ p.1 ≠ w.heap.size + 1 ∧ w'.heap[p.1]? = some p.2 := fun p hp => by
     have := hst'.own p hp
     rw [hc3x, hc3i, hc3w] at this
     simpa using this
    refine ⟨fun k hk => ?_, ?_, fun p hp => ?_, fun p hp => (World.putObj_heap_other (hown' p hp).2.1).trans (hown' p hp).2.2, World.putObj_heap_same hlt⟩
    rcases List.mem_cons.1 hk with rfl | hk
    exact ⟨Nat.lt_of_lt_of_le hlt (Keep.putObj _ _).size, .inl List.mem_cons_self⟩
    obtain ⟨p, hp, rfl⟩ := List.mem_map.1 hk
    obtain ⟨e1, e2, e3⟩ := hown' p hp
    exact ⟨Nat.lt_of_lt_of_le (Jx e3) (Keep.putObj _ _).size, e1.imp (List.mem_cons_of_mem _) id⟩
    refine (hk'.weak fun k hm => ?_).trans ((Keep.putObj _ _).weak fun k hm => by simp at hm; subst hm; exact List.mem_cons_self)
    rcases List.mem_append.1 hm with hm | hm
    exact List.mem_cons_of_mem _ hm
    simp only [List.mem_singleton] at hm; subst hm; exact List.mem_cons_self
    rcases (hown' p hp).1 with g | g
    exact hidS g
    exact .inr (Nat.le_trans hk3.size g)
   refine key _ ?_ ?_
   intro s' w' hI' hst'
   obtain ⟨t1, t2, t3, t4, t5⟩ := turn .ready none (LI s') w' hst'
   refine ⟨true, _, rfl, t1, t2, ?_⟩
   rw [if_pos rfl]
   exact W8 s' hI' hst'.distinct t3 t4 (by rw [hrr] at t5 ⊢; exact t5)
   ·intro j s' w' hE' hst'
    obtain ⟨t1, t2, t3, t4, t5⟩ := turn .done (some j) (LE s') w' hst'
    refine ⟨false, _, rfl, t1, t2, ?_⟩
    rw [if_neg mf]
    exact fun w'' hw'' => ⟨j, W8 s' hE' hst'.distinct t3 t4 t5 w'' hw''⟩
theorem Xq
  (I : ι → σ → Prop) (LI : σ → Jj) (E : Code → τ → Prop) (LE : τ → Jj) (Lk : Jj) (s0 : σ)
  (hro : c.ro = none) (hf : Kh l f = some (.func (.func gf) #[] caps.toArray)) (eg : Enters c.P gf) (hit : xB c.P gf caps Rl p0 nx fi) (hlen : ∀ i v i', nx i v i' → v.length = pp.length) (hpp : pp.all (Nat.blt · c.n) = true)
  (hRl : ∀ p ∈ Rl, p ∈ Lk ∨ p ∈ c.R) (hL : L = LI s0 ++ Lk) (h0 : I p0 s0)
  (hround : ∀ (q : Nat) (Xr Xb : XP) (w3 : World) (i : ι) (v : List Value) (i' : ι) (s : σ), nx i v i' → I i s → ∀ K, Jg7 (yX c q w3 (QJ (LI s)) Lk) Xr Xb body (q4 (yX c q w3 (QJ (LI s)) Lk) Xb (I i') LI E LE) K →
   HC (yX c q w3 (QJ (LI s)) Lk) [] (ws pp v l) (LI s) Xr assign (Exit.then K fun _ _ _ => False))
  (hdone : ∀ D i s, fi i → I i s → HQ c (Vf D :: d) l ((D, .deferred (some [])) :: (LI s ++ Lk)) X (Q .normal))
  (hstop : ∀ D j s, E j s → HC c (Vf D :: d) l ((D, .deferred (some [])) :: (LE s ++ Lk)) X j Q) :
  HC c d l L X (.rangeFunc f pp.toArray assign body) Q :=
 q5 (nx := fun i v B i' => nx i v i' ∧ B = []) I LI E LE Lk s0 hro hf eg (fun q xids w2 XI XF a b e h => hit q xids w2 XI XF a b e fun i v i' hn xs w h1 h2 h3 => h i v [] i' ⟨hn, rfl⟩ xs w h1 h2 h3 (fun _ h => absurd h List.not_mem_nil) (fun _ h => absurd h List.not_mem_nil)) (fun i v B i' h => hlen i v i' h.1) hpp hRl hL h0 (fun q Xr Xb w3 i v B i' s h hI K hK => by obtain ⟨h, rfl⟩ := h; exact hround q Xr Xb w3 i v i' s h hI K hK) hdone hstop
theorem Yr
  (I : ι → σ → Prop) (LI : σ → Jj) (E : Code → τ → Prop) (LE : τ → Jj) (Lk : Jj) (s0 : σ)
  (hro : c.ro = none) (hf : Kh l f = some (.func (.func gf) #[] caps.toArray)) (eg : Enters c.P gf) (hit : xB c.P gf caps Rl p0 nx fi) (hlen : ∀ i v i', nx i v i' → v.length = pp.length) (hpp : pp.all (Nat.blt · c.n) = true)
  (hRl : ∀ p ∈ Rl, p ∈ Lk) (hL : L = LI s0 ++ Lk) (h0 : I p0 s0)
  (hround : ∀ (q : Nat) (Xr Xb : XP) (w3 : World) (i : ι) (v : List Value) (i' : ι) (s : σ), nx i v i' → I i s → ∀ K, Jg7 (yX c q w3 (QJ (LI s)) Lk) Xr Xb body (q4 (yX c q w3 (QJ (LI s)) Lk) Xb (I i') LI E LE) K →
   HC (yX c q w3 (QJ (LI s)) Lk) [] (ws pp v l) (LI s) Xr assign (Exit.then K fun _ _ _ => False))
  (hdone : ∀ D i s, fi i → I i s → HQ c (Vf D :: d) l ((D, .deferred (some [])) :: (LI s ++ Lk)) X (Q .normal))
  (hstop : ∀ D j s, E j s → HC c (Vf D :: d) l ((D, .deferred (some [])) :: (LE s ++ Lk)) X j Q) :
  HC c d l L X (.rangeFunc f pp.toArray assign body) Q :=
 Xq I LI E LE Lk s0 hro hf eg hit hlen hpp (fun p hp => .inl (hRl p hp)) hL h0 hround hdone hstop
end
def Zi (eq : Value → Value → Bool) (k : Value) : List MapEntry → Nat → Option (Nat × Value)
 | [], _ => none
 | e :: es, i => if eq k e.key then some (i, e.val) else Zi eq k es (i + 1)
def Yg (e : MapEntry) : Value × Value := (e.key, e.val)
def QY (eq : Value → Value → Bool) (k : Value) : List (Value × Value) → Option Value
 | [] => none
 | (k', v) :: r => if eq k k' then some v else QY eq k r
structure KeyL (P : Program) (kt : TypeId) (dom : Value → Prop) (eq : Value → Value → Bool) : Prop where
  now : ∃ dsc, P.underlying kt = some dsc ∧ ∀ a b, dom a → dom b → Instr.sameNow dsc a b = none ∨ Instr.sameNow dsc a b = some (eq a b)
  equal : ∀ a b w, dom a → dom b → (Op.equal kt a b).run P w = .ok (eq a b) w
  check : ∀ a b w, dom a → (Instr.checkKey b 10000 kt a).run P w = .ok () w
theorem q6 (eq : Value → Value → Bool) (k : Value) : ∀ (es : List MapEntry) (i : Nat), (Zi eq k es i).map (·.2) = QY eq k (es.map Yg)
 | [], _ => rfl
 | e :: es, i => by
  simp only [Zi, List.map_cons, Yg, QY]
  split
  ·rfl
  ·exact q6 eq k es (i + 1)
theorem qY (K : KeyL P kt dom eq) {k : Value} (hk : dom k) {es : List MapEntry} (he : ∀ e ∈ es, dom e.key) (w : World) :
  (Instr.findKey kt k es).run P w = .ok (Zi eq k es 0) w := by
 obtain ⟨dsc, hu, hn⟩ := K.now
 have h1 : ∀ (es : List MapEntry) (i : Nat), (∀ e ∈ es, dom e.key) → (Instr.findAsking kt k es i).run P w = .ok (Zi eq k es i) w := by
  intro es
  induction es with
  | nil => intro i _; rfl
  | cons e es ih =>
   intro i he
   simp only [Instr.findAsking, Sem.run_bind, K.equal k e.key w hk (he e List.mem_cons_self), Result.andThen, Zi]
   split
   ·rfl
   ·exact ih (i + 1) fun e' h' => he e' (List.mem_cons_of_mem _ h')
 have h2 : ∀ (es : List MapEntry) (i : Nat), (∀ e ∈ es, dom e.key) → ∀ r, Instr.findNow dsc k es i = some r → r = Zi eq k es i := by
  intro es
  induction es with
  | nil => intro i _ r h; simp only [Instr.findNow, Option.some.injEq] at h; subst h; rfl
  | cons e es ih =>
   intro i he r h
   simp only [Instr.findNow] at h
   rcases hn k e.key hk (he e List.mem_cons_self) with h' | h'
   ·rw [h'] at h; cases h
   ·rw [h'] at h
    simp only [Zi]
    cases hb : eq k e.key with
    | true => rw [hb] at h; simp only [Option.some.injEq] at h; subst h; rfl
    | false => rw [hb] at h; simp only at h; simpa using ih (i + 1) (fun e' h' => he e' (List.mem_cons_of_mem _ h')) r h
 unfold Instr.findKey
 simp only [Sem.run_bind, Qk hu, Result.andThen]
 split
 ·rename_i r hr; rw [h2 es 0 he r hr]; rfl
 ·exact h1 es 0 he
def zp (P : Program) (t : TypeId) : Option (TypeId × TypeId) := match P.underlying t with | some (.map k e) => some (k, e) | _ => none
theorem Jg8 {t k e : Nat} (h : zp P t = some (k, e)) : P.underlying t = some (.map k e) := by
 unfold zp at h; split at h <;> simp_all
theorem Jfk  {et : TypeId} {k : Value} (K : KeyL P kt dom eq) (ht : zp P t = some (kt, et)) (hz : QL P et = some z)
  (hr : w.heap[r]? = some (.map es clock)) (hk : dom k) (he : ∀ e ∈ es.toList, dom e.key) (ok : Bool) :
  (Instr.lookup t (.map (some r)) k ok).run P w = .ok (if ok then .tuple #[((QY eq k (es.toList.map Yg)).getD z), .bool (QY eq k (es.toList.map Yg)).isSome] else (QY eq k (es.toList.map Yg)).getD z) w := by
 have hget : (getObj r).run P w = .ok (.map es clock) w := by simp [getObj, Sem.run, hr]
 rw [← q6 eq k es.toList 0]
 unfold Instr.lookup
 simp only [Sem.run_bind, Qk (Jg8 ht), Result.andThen, hget, Sem.run_pure, K.check k _ w hk, qY K hk he w]
 cases Zi eq k es.toList 0 with
 | none => simp [Xz hz]
 | some p => simp
theorem Jfl  {et : TypeId} {k : Value} (K : KeyL P kt dom eq) (ht : zp P t = some (kt, et))
  (hr : w.heap[r]? = some (.map es clock)) (hk : dom k) (he : ∀ e ∈ es.toList, dom e.key) (hn : QY eq k (es.toList.map Yg) = none) :
  (Instr.mapUpdate t (.map (some r)) k v).run P w = .ok () (w.putObj r (.map (es.push { key := k, val := v, born := clock }) (clock + 1))) := by
 have hget : (getObj r).run P w = .ok (.map es clock) w := by simp [getObj, Sem.run, hr]
 have hl : Zi eq k es.toList 0 = none := by
  have := q6 eq k es.toList 0
  rw [hn] at this
  cases h : Zi eq k es.toList 0 with
  | none => rfl
  | some p => rw [h] at this; cases this
 unfold Instr.mapUpdate
 simp only [Sem.run_bind, Qk (Jg8 ht), Result.andThen, hget, K.check k _ w hk, qY K hk he w, hl]
 simp [setObj, Sem.run, hr, World.putObj]
section
variable {c : Cx} {l : Ko} {L : Jj} {X : XP} {Q : Exit → Act → World → Prop} {d : List Deferred}
variable {ops : Array Oper} {rest : List Oper} {i : Nat} {v : Value} {t : TypeId} {ps : String} {af : Array Edge} {gd : Option (Nat × Bool)} {ty : TypeId}
theorem Ys  {kt et : Nat} {k : Value} {ok : Bool} (K : KeyL c.P kt dom eq) (hx : Kh l x = some (.map (some r))) (hy : Kh l y = some k) (hk : known c L r (.map es clock))
  (ht : zp c.P t = some (kt, et)) (hz : QL c.P et = some z) (hd : dom k) (he : ∀ e ∈ es.toList, dom e.key) (hv : (if ok then .tuple #[((QY eq k (es.toList.map Yg)).getD z), .bool (QY eq k (es.toList.map Yg)).isSome] else (QY eq k (es.toList.map Yg)).getD z) = v) :
  J9 c d l L X ⟨some i, .lookup t x y ok, ty, ps, af, gd⟩ v := fun a w hf hs => by
 simp only [execOp, Sem.run_bind]; rw [hf.eval hx, hf.eval hy, Jfk K ht hz (hs.known hk) hd he ok, hv]; rfl
end
def Jmb : List Edge → Nat → Bool
 | [], _ => false
 | e :: es, j => match Region.binds .any e, Nat.beq e.on j with | true, true => true | _, _ => Jmb es j
def q7 (o : Oper) (j : Nat) : Bool := Jmb o.after.toList j
def Jzw (pu : List (Nat × Nat × Value)) (o : Oper) : Ko := (pu.filter fun p => q7 o p.1).map (·.2)
theorem Kn {l : List α} {n : Nat} {x : α} (h : W1 l n = some x) : x ∈ l := by rw [Vd] at h; exact List.mem_of_getElem? h
inductive MLit (c : Cx) (d : List Deferred) (t m : Nat) (pu : List (Nat × Nat × Value)) (ins : List (Nat × Value × Value)) (mv : List (Nat × Nat)) : Nat → Oper → Prop
  | mk {ty : TypeId} {ps : String} {af : Array Edge} : MLit c d t m pu ins mv 0 ⟨some m, .makeMap t none, ty, ps, af, none⟩
  | pure {i s : Nat} {v : Value} {o : Oper} (h : (i, s, v) ∈ pu) (hd : o.dst = some s) (hg : o.guard = none) (hn : Kx o.op = true) (hr : J9 c d (Jzw pu o) [] (fun _ _ => True) o v) : MLit c d t m pu ins mv i o
  | ins {i j1 j2 ks vs : Nat} {k v : Value} {ty : TypeId} {ps : String} {af : Array Edge} (h : (i, k, v) ∈ ins) (h1 : (j1, ks, k) ∈ pu) (h2 : (j2, vs, v) ∈ pu)
      (hw0 : q7 ⟨none, .insert t (.tmp m) (.tmp ks) (.tmp vs), ty, ps, af, none⟩ 0 = true) (hw1 : q7 ⟨none, .insert t (.tmp m) (.tmp ks) (.tmp vs), ty, ps, af, none⟩ j1 = true)
      (hw2 : q7 ⟨none, .insert t (.tmp m) (.tmp ks) (.tmp vs), ty, ps, af, none⟩ j2 = true) : MLit c d t m pu ins mv i ⟨none, .insert t (.tmp m) (.tmp ks) (.tmp vs), ty, ps, af, none⟩
  | mv {i s x : Nat} {o : Oper} (h : (i, s) ∈ mv) (hd : o.dst = some s) (hg : o.guard = none) (hop : o.op = .move (.tmp x) ∨ o.op = .assign (.tmp x)) (hw : q7 o 0 = true) (hx : x = m ∨ ∃ j, (j, x) ∈ mv ∧ q7 o j = true) : MLit c d t m pu ins mv i o
structure PureE {α : Type} (P : Program) (f : FuncId) (args : Array Value) (V : α → Value) (LL : α → Jj) : Prop where
  run : ∀ w, Calls P f args w fun e w' => ∃ x, e = .returned (V x) ∧ Keep [] w w' ∧ (∀ p ∈ LL x, w.heap.size ≤ p.1 ∧ w'.heap[p.1]? = some p.2) ∧ (LL x).Pairwise fun p q => p.1 ≠ q.1
theorem St.freshs (h : St c L X w) (k : Keep [] w w') : ∀ {LL : Jj}, (∀ p ∈ LL, w.heap.size ≤ p.1 ∧ w'.heap[p.1]? = some p.2) → (LL.Pairwise fun p q => p.1 ≠ q.1) → St c (LL ++ L) X w'
 | [], _, _ => h.more k
 | p :: LL, h1, h2 => by
  have ih := h.freshs k (fun q hq => h1 q (List.mem_cons_of_mem _ hq)) (List.pairwise_cons.1 h2).2
  obtain ⟨g1, g2⟩ := h1 p List.mem_cons_self
  refine ⟨ih.keep, fun q hq => ?_, List.pairwise_cons.2 ⟨fun q hq => ?_, ih.distinct⟩, ih.ext, ih.xlt, ?_⟩
  rotate_left 2
  ·obtain ⟨xs, e1, e2⟩ := h.x
   refine ⟨xs, fun i hi => ⟨(e1 i hi).1, Nat.lt_of_lt_of_le (e1 i hi).2.1 k.size, fun q hq => ?_⟩, fun w2 hw2 => e2 w2 fun i hi => (hw2 i hi).trans (k.block i (e1 i hi).2.1 mf)⟩
   have h3 := (e1 i hi).2.1
   rcases List.mem_append.1 hq with hq | hq
   ·have := (h1 q hq).1; omega
   ·exact (e1 i hi).2.2 q hq
  ·rcases List.mem_cons.1 hq with rfl | hq
   ·exact ⟨.inr (Nat.le_trans h.keep.size g1), fun hx => (by have := h.xlt _ hx; have := h.keep.size; omega), g2⟩
   ·exact ih.own q hq
  ·rcases List.mem_append.1 hq with hq | hq
   ·exact (List.pairwise_cons.1 h2).1 q hq
   ·have := Jx (h.own q hq).2.2
    omega
section
variable {c : Cx} {l : Ko} {L : Jj} {X : XP} {Q : Exit → Act → World → Prop} {d : List Deferred}
structure MInv (c : Cx) (d : List Deferred) (l : Ko) (L : Jj) (X : XP) (m : Nat) (pu : List (Nat × Nat × Value)) (ins : List (Nat × Value × Value)) (mv : List (Nat × Nat)) (N : Nat) (listed : Array Bool) (a : Act) (w : World) : Prop where
  lsz : listed.size = N
  size : a.tmps.size = c.n
  defers : a.defers = d
  base : ∀ i v, Vu l i = some v → a.tmps[i]? = some v
  pure : ∀ p ∈ pu, listed.getD p.1 false = true → a.tmps[p.2.1]? = some p.2.2
  world : (listed.getD 0 false = false ∧ (∀ p ∈ ins, listed.getD p.1 false = false) ∧ (∀ p ∈ mv, listed.getD p.1 false = false) ∧ St c L X w) ∨
    ∃ r es, listed.getD 0 false = true ∧ a.tmps[m]? = some (.map (some r)) ∧ (∀ p ∈ mv, listed.getD p.1 false = true → a.tmps[p.2]? = some (.map (some r))) ∧ St c ((r, .map es es.size) :: L) X w ∧
      (es.toList.map Yg).Perm ((ins.filter fun p => listed.getD p.1 false).map (·.2)) ∧ es.toList.map (·.born) = List.range es.size
theorem getD_set (listed : Array Bool) (i j : Nat) (hi : i < listed.size) : (listed.setIfInBounds i true).getD j false = (if j = i then true else listed.getD j false) := by
 by_cases h : j = i
 ·subst h; simp [hi]
 ·rw [if_neg h]; exact getD_set_ne false (fun e => h e.symm)
theorem Vx
  (hg : Kp l ops ⟨some i, .call ⟨.value f, args, at_⟩, ty, ps, af, gd⟩ = some true) (hi : Nat.ble (i + 1) c.n = true) (hca : KD l f args = some (g, vs)) (eg : Enters c.P g)
  (hp : PureE c.P g vs.toArray V LL) (h : ∀ x, HL c d ((i, V x) :: l) (LL x ++ L) X ops rest Q) : HL c d l L X ops (⟨some i, .call ⟨.value f, args, at_⟩, ty, ps, af, gd⟩ :: rest) Q :=
 Yq (V := V) (L' := fun x => LL x ++ L) (X' := fun _ => X) hg hi hca eg (fun w hs => (hp.run w).mono fun _ _ ⟨x, he, hk, h1, h2⟩ => ⟨x, he, hs.freshs hk h1 h2⟩) h
theorem VB {f : FuncId} (hf : P.funcs[f]? = some fn) (hb : fn.body = some code) (hlen : Nat.ble vs.length fn.ntmps = true)
  (h : ∀ w, HC ⟨P, none, w, [], [], [], fn.ntmps⟩ [] (Vo 0 vs) [] (fun _ _ => True) code (bodyPostM (FW none) 0 P fn (fun e w' => ∃ x, e = .returned (V x) ∧ St ⟨P, none, w, [], [], [], fn.ntmps⟩ (LL x) (fun _ _ => True) w'))) : PureE P f vs.toArray V LL := ⟨fun w =>
 (QI ⟨P, none, w, [], [], [], fn.ntmps⟩ hf hb rfl rfl rfl hlen (St.start P none w _) (h w)).mono fun _ _ ⟨x, he, hs⟩ => ⟨x, he, hs.keep, fun p hp => ⟨((hs.own p hp).1).elim (fun h => by cases h) id, (hs.own p hp).2.2⟩, hs.distinct⟩⟩
end
theorem W9 {f : FuncId} (hf : P.funcs[f]? = some fn) (hb : fn.body = some code) (hlen : Nat.ble (caps.length + 1) fn.ntmps = true)
  (h : ∀ (q : Nat) (xids : List Nat) (w2 : World) (XI : ι → XP) (XF : XP),
   (∀ i v i', nx i v i' → ∀ xs w, (∀ k ∈ xs, k < w.heap.size ∧ (k ∈ xids ∨ w2.heap.size ≤ k)) → Keep ([] ++ xids) w2 w → Zf xs (XI i) w → YS P q v.toArray xs w (XI i') XF) →
   HC ⟨P, none, w2, [], xids, Rl, fn.ntmps⟩ [] (Vo 0 (.func (.yield q) #[] #[] :: caps)) [] (XI p0) code
    (bodyPostM (FW none) 0 P fn (fun e w' => (∃ v, e = .returned v) ∧ Keep ([] ++ xids) w2 w' ∧ ((∃ i xs, fin i ∧ XI i xs w') ∨ ∃ xs, XF xs w')))) : xB P f caps Rl p0 nx fin :=
 fun q xids w2 XI XF hR hlt h0 hY =>
  QI ⟨P, none, w2, [], xids, Rl, fn.ntmps⟩ hf hb rfl rfl rfl hlen
   ⟨Keep.refl _ _, by simp, by simp, fun p hp => ⟨by simp, (hR p hp).1, (hR p hp).2⟩, hlt, xids, fun k hk => ⟨.inl hk, hlt k hk, by simp⟩, h0⟩ (h q xids w2 XI XF hY)
theorem JY {l : Ko} (hp : L.Perm L') (h : HL c d l L' X ops rest Q) : HL c d l L X ops rest Q :=
 fun a w hf hs => h a w hf (hs.perm hp)
theorem xD {l : Ko} (hp : L.Perm L') (h : HQ c d l L' X K) : HQ c d l L X K :=
 fun a w hf hs => h a w hf (hs.perm hp)
abbrev Vg : Type := Option (Nat × Nat × List Value)
variable {row : Vg}
def J3 (n : Nat) : Vg → Value
 | none => .slice none 0 0
 | some (r, cap, _) => .slice (some ⟨r, 0, none⟩) n cap
def JL (e : TypeId) (xs : List Value) : Vg → Jj
 | none => []
 | some (r, _, sp) => [(r, .cells (xs ++ sp).toArray e (0, 0))]
def rowOk (sz n : Nat) (xs : List Value) : Vg → Prop
 | none => n = 0 ∧ xs = []
 | some (_, cap, sp) => xs.length = n * sz ∧ n * sz + sp.length = cap * sz
theorem rowOk.len {n : Nat} {xs : List Value} (h : rowOk sz n xs row) : xs.length = n * sz := by
 cases row with
 | none => obtain ⟨rfl, rfl⟩ := h; simp
 | some p => obtain ⟨r, cap, sp⟩ := p; exact h.1
theorem rowOk.same {n : Nat} {xs : List Value} (h : rowOk sz n xs row) (hl : ys.length = xs.length) : rowOk sz n ys row := by
 cases row with
 | none => obtain ⟨h1, rfl⟩ := h; exact ⟨h1, by simpa using hl⟩
 | some p => obtain ⟨r, cap, sp⟩ := p; exact ⟨hl.trans h.1, h.2⟩
theorem jK {xs sp : List Value} (h : xs[j]? = some v) : W1 (xs ++ sp).toArray.toList j = some v := by
 rw [Vd]
 simp only [List.toList_toArray]
 rw [List.getElem?_append_left (List.getElem?_eq_some_iff.1 h).1]
 exact h
section
variable {c : Cx} {l : Ko} {L : Jj} {X : XP} {Q : Exit → Act → World → Prop} {d : List Deferred}
variable {ops : Array Oper} {rest : List Oper} {i : Nat} {v : Value} {t : TypeId} {ps : String} {af : Array Edge} {gd : Option (Nat × Bool)} {ty : TypeId}
theorem JF  {e b e2 n : Nat} {xs : List Value}
  (hp : L.Perm (JL e xs row ++ L0))
  (hg : Kp l ops ⟨some i, .call ⟨.builtin .append, #[x, y], #[t, t]⟩, ty, ps, af, gd⟩ = some true) (hi : Nat.ble (i + 1) c.n = true)
  (hx : Kh l x = some (J3 n row)) (hy : Kh l y = some (.slice (some ⟨r2, off2, none⟩) m c2)) (hk2 : known c L0 r2 (.cells cs2 e2 fr2))
  (ht : Ks c.P t = some e) (hz : QL c.P e = some z) (hs : KQ c.P e = some sz) (hb : Jb6 c.P e = some b) (hzs : z.cells.size = sz) (hsz : 0 < sz)
  (hn : (cs2.toList.drop off2).take (m * sz) = news) (hln : news.length = m * sz) (hone : news.all QW = true) (hm : 0 < m)
  (ho : rowOk sz n xs row) (h63 : n + m ≤ 9223372036854775807) (h47 : (n + m) * b ≤ 140737488355328)
  (h : ∀ r' cap' spare, rowOk sz (n + m) (xs ++ news) (some (r', cap', spare)) → HL c d ((i, .slice (some ⟨r', 0, none⟩) (n + m) cap') :: l) ((r', .cells (xs ++ news ++ spare).toArray e (0, 0)) :: L0) X ops rest Q) :
  HL c d l L X ops (⟨some i, .call ⟨.builtin .append, #[x, y], #[t, t]⟩, ty, ps, af, gd⟩ :: rest) Q := by
 have hlen := ho.len
 have fin : ∀ r' cap' spare, (n + m) * sz + spare.length = cap' * sz → HL c d ((i, .slice (some ⟨r', 0, none⟩) (n + m) cap') :: l) ((r', .cells (xs ++ news ++ spare).toArray e (0, 0)) :: L0) X ops rest Q :=
  fun r' cap' spare hsp => h r' cap' spare ⟨by rw [List.length_append, hlen, hln, Nat.add_mul], hsp⟩
 refine JY hp ?_
 cases row with
 | none =>
  obtain ⟨rfl, rfl⟩ := ho
  exact W7 hg hi hx hy hk2 ht hz hs hb hzs hsz hn hln hone hm SlOwn.nil h63 h47 fin
 | some p =>
  obtain ⟨r, cap, sp⟩ := p
  refine W7 hg hi hx hy (hk2.imp (List.mem_cons_of_mem _) id) ht hz hs hb hzs hsz hn hln hone hm (SlOwn.own (k := 0) rfl ?_ ho.1 ?_ rfl) h63 h47 fin
  ·simp only [List.toList_toArray]
   rw [← ho.1]; simp
  ·simp only [List.size_toArray, List.length_append]; rw [ho.1]; exact ho.2
end
section
variable {c : Cx} {l : Ko} {L : Jj} {X : XP} {d : List Deferred}
variable {i : Nat} {v : Value} {t : TypeId} {ps : String} {af : Array Edge} {gd : Option (Nat × Bool)} {ty : TypeId}
theorem KO {p : Option Addr} {n : Nat} (hx : Kh l x = some (.slice p n cap)) (ht : Ks c.P t = some e) :
  J9 c d l L X ⟨some i, .call ⟨.builtin .len, #[x], #[t]⟩, ty, ps, af, gd⟩ (.int .i64 n) := fun a w hf _ => by
 have ex := hf.eval hx
 simp [execOp, resolve, Sem.run_bind, ex, Result.andThen, invoke, builtin, Builtin.len_, Qk (Ki ht), goInt]
def wt (P : Program) (t : TypeId) : Bool := match P.underlying t with | some .string => true | _ => false
theorem Vq (h : wt P t = true) : P.underlying t = some .string := by
 unfold wt at h; split at h <;> simp_all
theorem wu {s : ByteArray} {n : Nat} (hx : Kh l x = some (.string s)) (ht : wt c.P t = true) (hn : s.size = n) :
  J9 c d l L X ⟨some i, .call ⟨.builtin .len, #[x], #[t]⟩, ty, ps, af, gd⟩ (.int .i64 n) := fun a w hf _ => by
 have ex := hf.eval hx
 simp [execOp, resolve, Sem.run_bind, ex, Result.andThen, invoke, builtin, Builtin.len_, Qk (Vq ht), goInt, hn]
theorem KA {fn : Fn} {first caps : Array Operand} {fs cs : List Value} (h1 : evs l first.toList = some fs) (h2 : evs l caps.toList = some cs) :
  J9 c d l L X ⟨some i, .makeFunc fn first caps, ty, ps, af, gd⟩ (.func fn fs.toArray cs.toArray) := fun a w hf _ => by
 have e1 : first.map a.eval = fs.toArray := by apply Array.toList_inj.1; rw [Array.toList_map]; simpa using hf.evals h1
 have e2 : caps.map a.eval = cs.toArray := by apply Array.toList_inj.1; rw [Array.toList_map]; simpa using hf.evals h2
 simp only [execOp, e1, e2, Sem.run_bind]
 rfl
end
def Jyf : Vg → Nat
 | none => 0
 | some (r, _, _) => r
section
variable {c : Cx} {l : Ko} {L : Jj} {X : XP} {d : List Deferred}
variable {i : Nat} {v : Value} {t : TypeId} {ps : String} {af : Array Edge} {gd : Option (Nat × Bool)} {ty : TypeId}
theorem Wp {n : Nat} (hx : Kh l x = some (J3 n row)) (hok : row = none → n = 0) (ht : Ks c.P t = some e) :
  J9 c d l L X ⟨some i, .call ⟨.builtin .len, #[x], #[t]⟩, ty, ps, af, gd⟩ (.int .i64 n) := by
 cases row with
 | none => rw [hok rfl] at hx ⊢; exact KO hx ht
 | some p => obtain ⟨r, cap, sp⟩ := p; exact KO hx ht
theorem wv  {n e : Nat} {k : IntKind} {z : Int} {xs : List Value} (hx : Kh l x = some (J3 n row)) (hok : rowOk m n xs row) (hy : Kh l y = some (.int k z)) (ha : Ks c.P t = some e) (hm : KQ c.P e = some m) (hz : z = (j : Int)) (hj : j < n) (ho : j * m = off') :
  J9 c d l L X ⟨some i, .indexAddr t x y, ty, ps, af, gd⟩ (.pointer (some ⟨Jyf row, off', none⟩)) := by
 cases row with
 | none => obtain ⟨rfl, _⟩ := hok; omega
 | some p => obtain ⟨r, cap, sp⟩ := p; exact Kc hx hy ha hm hz hj m0
theorem Jjv  {n : Nat} {xs : List Value} (hx : Kh l x = some (.pointer (some ⟨Jyf row, off, none⟩))) (hok : rowOk m n xs row) (hk : ∀ p ∈ JL e xs row, known c L p.1 p.2) (ht : Wg c.P t = some false) (hv : xs[off]? = some v) :
  J9 c d l L X ⟨some i, .load t x, ty, ps, af, gd⟩ v := by
 cases row with
 | none => obtain ⟨_, rfl⟩ := hok; simp at hv
 | some p => obtain ⟨r, cap, sp⟩ := p; exact Je hx (hk _ List.mem_cons_self) ht (jK hv)
end
theorem rowOk.zero {n : Nat} {xs : List Value} (h : rowOk sz n xs row) : row = none → n = 0 := fun e => by subst e; exact h.1
structure PureR (P : Program) (f : FuncId) (args : Array Value) (v : Value) (Rl : Jj) : Prop where
  run : ∀ w, vI Rl w → Calls P f args w fun e w' => e = .returned v ∧ Keep [] w w'
section
variable {c : Cx} {l : Ko} {L : Jj} {X : XP} {Q : Exit → Act → World → Prop} {d : List Deferred}
variable {ops : Array Oper} {rest : List Oper} {i : Nat} {v : Value} {t : TypeId} {ps : String} {af : Array Edge} {gd : Option (Nat × Bool)} {ty : TypeId}
theorem Jb
  (hg : Kp l ops ⟨some i, .call ⟨.value f, args, at_⟩, ty, ps, af, gd⟩ = some true) (hi : Nat.ble (i + 1) c.n = true) (hca : KD l f args = some (g, vs)) (eg : Enters c.P g)
  (hp : PureR c.P g vs.toArray v Rl) (hk : ∀ p ∈ Rl, known c L p.1 p.2) (h : HL c d ((i, v) :: l) L X ops rest Q) : HL c d l L X ops (⟨some i, .call ⟨.value f, args, at_⟩, ty, ps, af, gd⟩ :: rest) Q :=
 Yq (α := Unit) (V := fun _ => v) (L' := fun _ => L) (X' := fun _ => X) hg hi hca eg (fun w hs => (hp.run w fun p hp => hs.known (hk p hp)).mono fun _ _ ⟨he, hk⟩ => ⟨(), he, hs.more hk⟩) (fun _ => h)
end
theorem Ja {f : FuncId} (hf : P.funcs[f]? = some fn) (hb : fn.body = some code) (hlen : Nat.ble vs.length fn.ntmps = true)
  (h : ∀ w, HC ⟨P, none, w, [], [], Rl, fn.ntmps⟩ [] (Vo 0 vs) [] (fun _ _ => True) code (bodyPostM (FW none) 0 P fn (fun e w' => e = .returned v ∧ Keep [] w w'))) : PureR P f vs.toArray v Rl := ⟨fun w hR =>
 QI ⟨P, none, w, [], [], Rl, fn.ntmps⟩ hf hb rfl rfl rfl hlen
  ⟨Keep.refl _ _, by simp, by simp, fun p hp => ⟨by simp, by simp, hR p hp⟩, by simp, [], by simp, fun _ _ => trivial⟩ (h w)⟩
theorem QU {l : Ko} {LE : τ → Jj} (s : σ) (hI : I s) (hL : L = LI s) :
  HQ c [] l L Xb (q4 c Xb I LI E LE .normal) := fun _ _ _ hs => ⟨s, hI, hL ▸ hs⟩
theorem zq {l : Ko} {LE : τ → Jj} (s : τ) (hI : E .ret s) (hL : L = LE s) :
  HQ c [] l L Xb (q4 c Xb I LI E LE .ret) := fun _ _ _ hs => ⟨s, hI, hL ▸ hs⟩
section
variable {c : Cx} {l : Ko} {L : Jj} {X : XP} {Q : Exit → Act → World → Prop} {d : List Deferred}
variable {i : Nat} {v : Value} {t : TypeId} {ps : String} {af : Array Edge} {gd : Option (Nat × Bool)} {ty t2 : TypeId}
theorem jL {k yk : IntKind} {a z b : Int} {n : Nat} (hx : Kh l x = some (.int k a)) (hy : Kh l y = some (.int yk z)) (hz : z = (n : Int)) (hn : n ≤ k.bits) (ha : 0 ≤ a) (hb : a / (2 ^ n : Nat) = b) :
  J9 c d l L X ⟨some i, .binOp .shr t x y t2, ty, ps, af, gd⟩ (.int k b) := fun a' w hf _ => by
 subst hz
 have e1 : ¬ ((n : Int) < 0) := by omega
 have e2 : Int.fdiv a (2 ^ n : Int) = a / (2 ^ n : Nat) := by
  rw [Int.fdiv_eq_ediv_of_nonneg _ (by exact Int.le_of_lt (Int.pow_pos m7))]; simp
 simp only [execOp]
 rw [hf.eval hx, hf.eval hy]
 subst hb
 simp [binOp, eqGuard, Op.shift, Sem.run_bind, Result.andThen, e1, Nat.min_eq_left hn, e2]
theorem ww {k yk : IntKind} {a z b : Int} {n : Nat} (hx : Kh l x = some (.int k a)) (hy : Kh l y = some (.int yk z)) (hz : z = (n : Int)) (hn : n ≤ k.bits) (hb : k.wrap (a * (2 ^ n : Nat)) = b) :
  J9 c d l L X ⟨some i, .binOp .shl t x y t2, ty, ps, af, gd⟩ (.int k b) := fun a' w hf _ => by
 subst hz
 have e1 : ¬ ((n : Int) < 0) := by omega
 subst hb
 simp only [execOp]
 rw [hf.eval hx, hf.eval hy]
 simp [binOp, eqGuard, Op.shift, Sem.run_bind, Result.andThen, e1, Nat.min_eq_left hn]
def xE : BinOp → Option (Nat → Nat → Nat)
 | .and => some Nat.land
 | .or => some Nat.lor
 | .xor => some Nat.xor
 | _ => none
theorem VC  {n : Nat} {f : Nat → Nat → Nat} {b : Int} (hf : xE op = some f) (hx : Kh l x = some (.int .u64 (m : Int))) (hy : Kh l y = some (.int .u64 (n : Int))) (hm : m < 18446744073709551616) (hn : n < 18446744073709551616) (hb : ((f m n : Nat) : Int) = b) :
  J9 c d l L X ⟨some i, .binOp op t x y t2, ty, ps, af, gd⟩ (.int .u64 b) := fun a' w hfr _ => by
 subst hb
 have e1 : (BitVec.ofInt 64 (m : Int)).toNat = m := by simp [BitVec.toNat_ofInt]; omega
 have e2 : (BitVec.ofInt 64 (n : Int)).toNat = n := by simp [BitVec.toNat_ofInt]; omega
 have hm' : m < 2 ^ 64 := hm
 have hn' : n < 2 ^ 64 := hn
 have wr : ∀ q : Nat, q < 2 ^ 64 → IntKind.u64.wrap (q : Int) = q := fun q hq => wrap_u64 m0 m0
 simp only [execOp]
 rw [hfr.eval hx, hfr.eval hy]
 cases op <;> simp only [xE, Option.some.injEq, reduceCtorEq] at hf
 all_goals subst hf
 ·have := wr (m &&& n) (Nat.lt_of_le_of_lt Nat.and_le_left hm')
  have e3 : (BitVec.ofInt 64 (m : Int) &&& BitVec.ofInt 64 (n : Int)).toNat = m &&& n := by rw [BitVec.toNat_and, e1, e2]
  show Sem.run c.P (pure (Next.value (Value.int .u64 (IntKind.u64.wrap (((BitVec.ofInt 64 (m : Int) &&& BitVec.ofInt 64 (n : Int)).toNat : Nat) : Int))))) w = _
  rw [e3, this]; rfl
 ·have := wr (m ||| n) (Nat.or_lt_two_pow hm' hn')
  have e3 : (BitVec.ofInt 64 (m : Int) ||| BitVec.ofInt 64 (n : Int)).toNat = m ||| n := by rw [BitVec.toNat_or, e1, e2]
  show Sem.run c.P (pure (Next.value (Value.int .u64 (IntKind.u64.wrap (((BitVec.ofInt 64 (m : Int) ||| BitVec.ofInt 64 (n : Int)).toNat : Nat) : Int))))) w = _
  rw [e3, this]; rfl
 ·have := wr (m ^^^ n) (Nat.xor_lt_two_pow hm' hn')
  have e3 : (BitVec.ofInt 64 (m : Int) ^^^ BitVec.ofInt 64 (n : Int)).toNat = m ^^^ n := by rw [BitVec.toNat_xor, e1, e2]
  show Sem.run c.P (pure (Next.value (Value.int .u64 (IntKind.u64.wrap (((BitVec.ofInt 64 (m : Int) ^^^ BitVec.ofInt 64 (n : Int)).toNat : Nat) : Int))))) w = _
  rw [e3, this]; rfl
def bs (l : List UInt8) : ByteArray := ⟨l.toArray⟩
theorem YF (a : List UInt8) : (bs a).size = a.length := by simp [bs, ByteArray.size]
theorem bs_data (s : ByteArray) : bs s.data.toList = s := by simp [bs]
theorem Jjw (a b : List UInt8) : bs a ++ bs b = bs (a ++ b) := by
 apply ByteArray.ext; simp [bs]
theorem Yt (a : List UInt8) : (bs a).toList = a := by
 rw [ByteArray.toList_eq]; rfl
theorem Jr1 (a : List UInt8) (b : UInt8) : (bs a).push b = bs (a ++ [b]) := by
 apply ByteArray.ext; simp [bs, ByteArray.push]
theorem VD {a b : List UInt8} (hx : Kh l x = some (.string (bs a))) (hy : Kh l y = some (.string (bs b))) (h : a.length + b.length ≤ 9223372036854775807) :
  J9 c d l L X ⟨some i, .binOp .add t x y t2, ty, ps, af, gd⟩ (.string (bs (a ++ b))) := fun a' w hf _ => by
 have e1 : ¬ (((bs a).size + (bs b).size : Nat) : Int) > IntKind.i64.max := by
  rw [YF, YF]
  show ¬ (_ > (9223372036854775807 : Int))
  omega
 simp only [execOp]
 rw [hf.eval hx, hf.eval hy]
 simp only [binOp, eqGuard, Op.stringOp, Sem.run_bind]
 simp only [e1, if_false, Jjw]
 rfl
theorem xF (a b : List UInt8) : ((bs a).toList == (bs b).toList) = decide (a = b) := by
 rw [Yt, Yt]
 by_cases h : a = b <;> simp [h]
theorem Vc {a b : List UInt8} (hx : Kh l x = some (.string (bs a))) (hy : Kh l y = some (.string (bs b))) :
  J9 c d l L X ⟨some i, .binOp .eql t x y t2, ty, ps, af, gd⟩ (.bool (decide (a = b))) := fun a' w hf _ => by
 simp only [execOp]
 rw [hf.eval hx, hf.eval hy]
 simp only [binOp, eqGuard, Op.stringOp, Sem.run_bind, xF]
 rfl
theorem ZL {a b : List UInt8} (hx : Kh l x = some (.string (bs a))) (hy : Kh l y = some (.string (bs b))) :
  J9 c d l L X ⟨some i, .binOp .neq t x y t2, ty, ps, af, gd⟩ (.bool (!decide (a = b))) := fun a' w hf _ => by
 simp only [execOp]
 rw [hf.eval hx, hf.eval hy]
 simp only [binOp, eqGuard, Op.stringOp, Sem.run_bind, xF]
 rfl
theorem Jr2 {a b : List UInt8} (hx : Kh l x = some (.string (bs a))) (hy : Kh l y = some (.string (bs b))) :
  J9 c d l L X ⟨some i, .binOp .lss t x y t2, ty, ps, af, gd⟩ (.bool (Op.bytesLess a b)) := fun a' w hf _ => by
 simp only [execOp]
 rw [hf.eval hx, hf.eval hy]
 simp only [binOp, eqGuard, Op.stringOp, Sem.run_bind, Yt]
 rfl
theorem JI {a : List UInt8} (hx : Kh l x = some (.string (bs a))) (ht : wt c.P t = true) :
  J9 c d l L X ⟨some i, .call ⟨.builtin .len, #[x], #[t]⟩, ty, ps, af, gd⟩ (.int .i64 (a.length : Nat)) := wu hx ht (YF a)
theorem KU {k : IntKind} {z : Int} {a : List UInt8} {n : Int} (hx : Kh l x = some (.string (bs a))) (hy : Kh l y = some (.int k z)) (hu : wt c.P t = true) (hz : z = (j : Int)) (hj : j < a.length) (hn : ((a.getD j 0).toNat : Int) = n) :
  J9 c d l L X ⟨some i, .index t x y, ty, ps, af, gd⟩ (.int .u8 n) := by
 subst hn
 refine Jfe hx hy (Vq hu) hz ?_
 show (bs a)[j]? = some (a.getD j 0)
 have h1 : j < (bs a).size := by rw [YF]; exact hj
 rw [getElem?_pos (bs a) j h1]
 have h2 : (bs a)[j] = a.getD j 0 := by
  show (bs a).data[j] = _
  simp only [bs, List.getElem_toArray, List.getD_eq_getElem?_getD, List.getElem?_eq_getElem hj, Option.getD_some]
 exact congrArg some h2
def Jmc : Option Int → Int
 | none => 0
 | some z => z
theorem wx (a : List UInt8) (lo hi : Nat) : (bs a).extract lo hi = bs ((a.take hi).drop lo) := by
 apply ByteArray.ext
 simp only [bs, ByteArray.data_extract, List.extract_toArray, List.extract_eq_take_drop]
 rw [List.drop_take]
theorem KV {lo hi : Option Operand} {a r : List UInt8} {n : Nat} {kl kh : Option (IntKind × Int)} (hx : Kh l x = some (.string (bs a))) (ht : wt c.P t = true)
  (hlo : lo.map (Kh l) = kl.map fun p => some (Value.int p.1 p.2)) (hhi : hi.map (Kh l) = kh.map fun p => some (Value.int p.1 p.2)) (hm : Jmc (kl.map (·.2)) = (m : Int)) (hn : (match kh with | none => (a.length : Int) | some p => p.2) = (n : Int)) (h1 : m ≤ n) (h2 : n ≤ a.length) (hr : (a.take n).drop m = r) :
  J9 c d l L X ⟨some i, .slice t x lo hi none, ty, ps, af, gd⟩ (.string (bs r)) := fun a' w hf _ => by
 subst hr
 rw [← wx]
 have ex := hf.eval hx
 have e1 : lo.map a'.eval = kl.map fun p => Value.int p.1 p.2 := by
  cases lo with
  | none => cases kl with
   | none => rfl
   | some p => simp at hlo
  | some o => cases kl with
   | none => simp at hlo
   | some p => simp only [Option.map_some, Option.some.injEq] at hlo ⊢; exact hf.eval hlo
 have e2 : hi.map a'.eval = kh.map fun p => Value.int p.1 p.2 := by
  cases hi with
  | none => cases kh with
   | none => rfl
   | some p => simp at hhi
  | some o => cases kh with
   | none => simp at hhi
   | some p => simp only [Option.map_some, Option.some.injEq] at hhi ⊢; exact hf.eval hhi
 simp only [execOp, ex, e1, e2, Option.map_none]
 have hsz := YF a
 cases kl with
 | none =>
  simp only [Option.map_none, Jmc] at hm
  have hm0 : m = 0 := by omega
  subst hm0
  cases kh with
  | none =>
   simp only at hn
   have : n = a.length := by omega
   subst this
   simp [Instr.sliceAt, Instr.slice, Sem.run_bind, Qk (Vq ht), Result.andThen, Instr.sliceBounds, hsz, wx]
  | some p =>
   simp only at hn
   simp [Instr.sliceAt, Instr.slice, Sem.run_bind, Qk (Vq ht), Result.andThen, Instr.sliceBounds, hsz, Instr.sliceBound, asIntOf, hn, h2]
 | some q =>
  simp only [Option.map_some, Jmc] at hm
  cases kh with
  | none =>
   simp only at hn
   have : n = a.length := by omega
   subst this
   simp [Instr.sliceAt, Instr.slice, Sem.run_bind, Qk (Vq ht), Result.andThen, Instr.sliceBounds, hsz, Instr.sliceBound, asIntOf, hm, h1]
  | some p =>
   simp only at hn
   simp [Instr.sliceAt, Instr.slice, Sem.run_bind, Qk (Vq ht), Result.andThen, Instr.sliceBounds, hsz, Instr.sliceBound, asIntOf, hn, h2, hm, h1]
end
def eqS : Value → Value → Bool
 | .int _ a, .int _ b => a == b
 | .string a, .string b => a.toList == b.toList
 | .bool a, .bool b => a == b
 | _, _ => false
def Wq (P : Program) (e : TypeId) (v : Value) : Bool :=
 match P.underlying e, v with
 | some (.int k), .int k' _ => decide (k' = k)
 | some .string, .string _ => true
 | some .bool, .bool _ => true
 | _, _ => false
def Vr : List Value → List Value → Bool
 | x :: xs, y :: ys => eqS x y && Vr xs ys
 | _, _ => true
theorem xG {a b : Value} (ha : Wq P e a = true) (hb : Wq P e b = true) (d : Nat) (w : World) : (Op.equalIn (d + 1) e a b).run P w = .ok (eqS a b) w := by
 unfold Wq at ha hb
 cases hu : P.underlying e with
 | none => simp [hu] at ha
 | some D =>
  simp only [hu] at ha hb
  cases D <;> try (simp only [Bool.false_eq_true] at ha; done)
  all_goals (cases a <;> try (simp only [Bool.false_eq_true] at ha; done))
  all_goals (cases b <;> try (simp only [Bool.false_eq_true] at hb; done))
  ·exact run_equalIn_bool' w d e _ _ hu
  ·simp only [decide_eq_true_eq] at ha hb; subst ha; subst hb; exact run_equalIn_int w d e _ _ _ _ hu
  ·exact run_equalIn_string w d e _ _ hu
theorem ZM (he : Wg P e = some false) (h : cs[j]? = some v) (w : World) : (part e cs j).run P w = .ok v w := by
 unfold part
 simp [Sem.run_bind, jC he, Result.andThen, h]
theorem q8 {t e n : Nat} {xs : List Value} (ht : jH P t = some (n, e)) (he : Wg P e = some false) (hs : KQ P e = some 1) (hx : xs.length = n) (hy : ys.length = n) (h1 : xs.all (Wq P e) = true) (h2 : ys.all (Wq P e) = true) (d : Nat) (w : World) :
  (Op.equalIn (d + 2) t (.agg xs.toArray) (.agg ys.toArray)).run P w = .ok (Vr xs ys) w := by
 have hu := vF ht
 obtain ⟨inf, hinf, hsz⟩ : ∃ inf, P.info? e = some inf ∧ inf.size = 1 := by
  unfold KQ at hs
  split at hs
  ·rename_i i hi; exact ⟨i, hi, by simpa using hs⟩
  ·cases hs
 have hc : P.cellsOf e = 1 := by simp [Program.cellsOf, hinf, hsz]
 rw [run_equalIn_array w (d + 1) xs.toArray ys.toArray hu hinf, hc]
 have key : ∀ (m s : Nat) (xs' ys' : List Value), xs.drop s = xs' → ys.drop s = ys' → xs'.length = m → ys'.length = m →
   (Op.eqItems (d + 1) e 1 xs.toArray ys.toArray (List.range' s m)).run P w = .ok (Vr xs' ys') w := by
  intro m
  induction m with
  | zero =>
   intro s xs' ys' _ _ h3 h4
   have : xs' = [] := List.eq_nil_of_length_eq_zero h3
   subst this
   simp [Vr, Op.eqItems, Sem.run_pure]
  | succ m ih =>
   intro s xs' ys' h1' h2' h3 h4
   cases xs' with
   | nil => simp at h3
   | cons a xs' =>
    cases ys' with
    | nil => simp at h4
    | cons b ys' =>
     have ga : xs[s]? = some a := by have := congrArg (·[0]?) h1'; simpa using this
     have gb : ys[s]? = some b := by have := congrArg (·[0]?) h2'; simpa using this
     have ha : Wq P e a = true := List.all_eq_true.1 h1 a (List.mem_of_getElem? ga)
     have hb : Wq P e b = true := List.all_eq_true.1 h2 b (List.mem_of_getElem? gb)
     rw [List.range'_succ]
     simp only [Op.eqItems, Nat.mul_one, Sem.run_bind, ZM he (show xs.toArray[s]? = some a by simpa using ga), ZM he (show ys.toArray[s]? = some b by simpa using gb), Result.andThen, xG ha hb]
     have := ih (s + 1) xs' ys' (by rw [← List.tail_drop, h1']; rfl) (by rw [← List.tail_drop, h2']; rfl) (by simpa using h3) (by simpa using h4)
     cases hab : eqS a b with
     | false => simp [Vr, hab]
     | true => simpa [Vr, hab] using this
 rw [List.range_eq_range']
 exact key n 0 xs ys rfl rfl hx hy
section
variable {c : Cx} {l : Ko} {L : Jj} {X : XP} {Q : Exit → Act → World → Prop} {d : List Deferred}
variable {i : Nat} {v : Value} {t : TypeId} {ps : String} {af : Array Edge} {gd : Option (Nat × Bool)} {ty t2 : TypeId}
theorem xH {e n : Nat} {xs : List Value} (hx : Kh l x = some (.agg xs.toArray)) (hy : Kh l y = some (.agg ys.toArray)) (ht : jH c.P t = some (n, e)) (he : Wg c.P e = some false) (hs : KQ c.P e = some 1) (hgt : c.P.eqGuardType c.P.depth t = false) (hlx : xs.length = n) (hly : ys.length = n) (h1 : xs.all (Wq c.P e) = true) (h2 : ys.all (Wq c.P e) = true) :
  J9 c d l L X ⟨some i, .binOp .eql t x y t2, ty, ps, af, gd⟩ (.bool (Vr xs ys)) := fun a' w hf _ => by
 have hr := q8 ht he hs hlx hly h1 h2 9998 w
 simp only [execOp]
 rw [hf.eval hx, hf.eval hy]
 simp [binOp, eqGuard, Op.equal, Op.maxDepth, Sem.run_bind, Result.andThen, run_program, hgt, hr]
theorem Jg9 {e n : Nat} {xs : List Value} (hx : Kh l x = some (.agg xs.toArray)) (hy : Kh l y = some (.agg ys.toArray)) (ht : jH c.P t = some (n, e)) (he : Wg c.P e = some false) (hs : KQ c.P e = some 1) (hgt : c.P.eqGuardType c.P.depth t = false) (hlx : xs.length = n) (hly : ys.length = n) (h1 : xs.all (Wq c.P e) = true) (h2 : ys.all (Wq c.P e) = true) :
  J9 c d l L X ⟨some i, .binOp .neq t x y t2, ty, ps, af, gd⟩ (.bool (!Vr xs ys)) := fun a' w hf _ => by
 have hr := q8 ht he hs hlx hly h1 h2 9998 w
 simp only [execOp]
 rw [hf.eval hx, hf.eval hy]
 simp [binOp, eqGuard, Op.equal, Op.maxDepth, Sem.run_bind, Result.andThen, run_program, hgt, hr]
def bV (b : UInt8) : Value := .int .u8 (b.toNat : Int)
theorem Jha {n : Nat} (h : n < 256) : Value.int .u8 (n : Int) = bV (UInt8.ofNat n) := by
 unfold bV
 rw [UInt8.toNat_ofNat', Nat.mod_eq_of_lt h]
theorem ZN : ∀ (b a : List UInt8), (b.map fun x => ((x.toNat : Nat) : Int)).foldl (fun (r : ByteArray) (n : Int) => r.push (UInt8.ofNat n.toNat)) (bs a) = bs (a ++ b)
 | [], a => by simp
 | x :: b, a => by
  simp only [List.map_cons, List.foldl_cons, Int.toNat_natCast, UInt8.ofNat_toNat, Jr1]
  rw [ZN b]
  simp
theorem qZ {xs : List Value} (h : w.heap[r]? = some (.cells cs e fr)) (hx : cs.toList.take xs.length = xs) : (loadCells ⟨r, 0, none⟩ xs.length).run P w = .ok xs.toArray w :=
 run_loadCells_list w ⟨r, 0, none⟩ xs fun j v hj => by
  have hlt := (List.getElem?_eq_some_iff.1 hj).1
  have hj2 : cs[j]? = some v := by
   rw [← hx, List.getElem?_take, if_pos hlt] at hj
   simpa using hj
  rw [jJ, Nat.zero_add, Wn h]; exact hj2
theorem Qq {b : List UInt8} {dst : TypeId} (hx : Kh l x = some (J3 b.length row)) (hok : rowOk 1 b.length (b.map bV) row) (hk : ∀ p ∈ JL e (b.map bV) row, known c L p.1 p.2)
  (hs : Ks c.P src = some e) (he : c.P.underlying e = some (.int .u8)) (hd : wt c.P dst = true) :
  J9 c d l L X ⟨some i, .convert src dst x, ty, ps, af, gd⟩ (.string (bs b)) := fun a' w hf hst => by
 simp only [execOp]
 rw [hf.eval hx]
 cases row with
 | none =>
  obtain ⟨h1, _⟩ := hok
  have : b = [] := List.eq_nil_of_length_eq_zero h1
  subst this
  simp only [J3, List.length_nil, Sem.run_bind]
  rw [run_convert_bytes_string w src dst e none 0 0 (Ki hs) he (Vq hd)]
  rfl
 | some p =>
  obtain ⟨r, cap, sp⟩ := p
  have hget := hst.known (hk _ List.mem_cons_self)
  have hl := qZ (P := c.P) (xs := b.map bV) hget mf
  rw [List.length_map] at hl
  simp only [J3, Sem.run_bind]
  rw [run_convert_bytes_string w src dst e _ _ _ (Ki hs) he (Vq hd)]
  rw [run_bytesToString w _ _ _ (b.map fun x => ((x.toNat : Nat) : Int)) Mm]
  have := ZN b []
  rw [show (bs [] : ByteArray) = ByteArray.empty from rfl] at this
  rw [this]
  rfl
end
theorem Jwb (off : Nat) : frB (0, 0) off = false := by simp [frB, Nat.blt, Nat.ble]
theorem Jmd {xs : List Value} (h : xs[off]? = some v) : W1 xs.toArray.toList off = some v := by rw [Vd]; simpa using h
section
variable {c : Cx} {l : Ko} {L : Jj} {X : XP} {Q : Exit → Act → World → Prop} {d : List Deferred}
variable {ops : Array Oper} {rest : List Oper} {i : Nat} {v : Value} {t : TypeId} {ps : String} {af : Array Edge} {gd : Option (Nat × Bool)} {ty : TypeId}
theorem Jm  {n : Nat} {xs : List Value} (hx : Kh l x = some (.pointer (some ⟨r, 0, none⟩))) (hk : known c L r (.cells xs.toArray e fr)) (ht : Wg c.P t = some true) (hn : KQ c.P t = some n) (hl : xs.length = n) :
  J9 c d l L X ⟨some i, .load t x, ty, ps, af, gd⟩ (.agg xs.toArray) :=
 Jo (vs := xs) hx hk ht hn (by simp [← hl]) hl
theorem KJ {xs : List Value} (hx : Kh l x = some (.pointer (some ⟨r, off, none⟩))) (hk : known c L r (.cells xs.toArray e fr)) (ht : Wg c.P t = some false) (hv : xs[off]? = some v) :
  J9 c d l L X ⟨some i, .load t x, ty, ps, af, gd⟩ v := Je hx hk ht (Jmd hv)
theorem Ju  {k n : Nat} (hg : Kp l ops ⟨none, .store t x y, ty, ps, af, gd⟩ = some true)
  (hx : Kh l x = some (.pointer (some ⟨r, 0, none⟩))) (hk : L[k]? = some (r, .cells cs e (0, 0))) (hy : Kh l y = some (.agg ys.toArray)) (ht : KQ c.P t = some n) (hn : ys.length = n) (hs : cs.size = n) (ho : ys.all QW = true) (hL : L.set k (r, .cells ys.toArray e (0, 0)) = L')
  (h : HL c d l L' X ops rest Q) : HL c d l L X ops (⟨none, .store t x y, ty, ps, af, gd⟩ :: rest) Q :=
 Ve (n := n) (cs' := ys.toArray) (vs := ys.toArray) hg hx hk hy ht (by simpa using hn) MQ m0 (by
  apply Array.toList_inj.1
  simp [← hs]) hL h
theorem KS  {k : Nat} {xs : List Value} (hg : Kp l ops ⟨none, .store t x y, ty, ps, af, gd⟩ = some true)
  (hx : Kh l x = some (.pointer (some ⟨r, off, none⟩))) (hk : L[k]? = some (r, .cells xs.toArray e (0, 0))) (hy : Kh l y = some v) (ht : KQ c.P t = some 1) (ho : QW v = true) (hlt : off < xs.length) (hys : xs.set off v = ys) (hL : L.set k (r, .cells ys.toArray e (0, 0)) = L')
  (h : HL c d l L' X ops rest Q) : HL c d l L X ops (⟨none, .store t x y, ty, ps, af, gd⟩ :: rest) Q :=
 Kt (cs' := ys.toArray) hg hx hk hy ht ho (by simp [hlt]) (Jwb off) (by rw [← hys]; simp) hL h
theorem Jr3 (hf : Kh l f = some (.func (.func g) #[] #[])) (ha : evs l args.toList = some vs) (hr : ∀ w, (callFunc g vs.toArray).run c.P w = .ok (.value v) w) :
  J9 c d l L X ⟨some i, .call ⟨.value f, args, at_⟩, ty, ps, af, gd⟩ v := fun a w hfr _ => by
 have h2 := hfr.evals ha
 have h3 : args.map a.eval = vs.toArray := by apply Array.toList_inj.1; rw [Array.toList_map]; simpa using h2
 have h4 : a.eval f = .func (.func g) #[] #[] := hfr.eval hf
 simp only [execOp, Sem.run_bind]
 simp [resolve, h3, h4, Deferred.ofValue, Result.andThen, invoke, hr]
end
def actAt (c : Cx) (o : Oper) (a : Act) (w : World) (R : Value → World → Prop) : Prop :=
 match (execOp a.eval o).run c.P w with
 | .ok (.value v) w' => R v w'
 | .ok .skip w' => R undef w'
 | .ok (.enter f args) w' => Calls c.P f args w' fun e w2 => ∃ v, e = .returned v ∧ R v w2
 | _ => False
theorem actAt.mono {R R' : Value → World → Prop} (h : actAt c o a w R) (hR : ∀ v w', R v w' → R' v w') : actAt c o a w R' := by
 unfold actAt at *
 revert h
 cases (execOp a.eval o).run c.P w with
 | halt x w2 => exact id
 | ok x w2 =>
  cases x <;> simp only <;> try exact id
  case value v => exact hR _ _
  case skip => exact hR _ _
  case enter f args => exact fun h => h.mono fun _ _ ⟨v, e, hv⟩ => ⟨v, e, hR _ _ hv⟩
theorem actAt.same {R : Value → World → Prop} (h : actAt c o a w R) (he : execOp a'.eval o = execOp a.eval o) : actAt c o a' w R := by
 unfold actAt at *; rw [he]; exact h
theorem YH {R : Value → World → Prop} (h : (execOp a.eval o).run c.P w = .ok (.value v) w') (hR : R v w') : actAt c o a w R := by
 unfold actAt; rw [h]; exact hR
theorem Jme {R : Value → World → Prop} (h : (execOp a.eval o).run c.P w = .ok .skip w') (hR : R undef w') : actAt c o a w R := by
 unfold actAt; rw [h]; exact hR
theorem q9 {R : Value → World → Prop} (ho : ops[i]? = some o) (hnd : Kx o.op = true)
  (hw : Region.wanted o (yielded ops a.tmps) = true) (h : actAt c o a w R) (hK : ∀ v w', R v w' → K' (a.put o.dst v) w') : wpOpIn (FW c.ro) 0 c.P ops Q' i K' a w := by
 unfold wpOpIn
 simp only [ho]
 rw [if_pos hw]
 refine ⟨Qa, ?_⟩
 rw [Oper.semAt_eq _ _ _ (W6 hnd)]
 unfold actAt at h
 revert h
 cases (execOp a.eval o).run c.P w with
 | halt x w2 => exact fun h => h.elim
 | ok x w2 =>
  cases x <;> simp only [Oper.uponIn] <;> try exact fun h => h.elim
  case value v => exact hK _ _
  case skip => exact hK _ _
  case enter f args =>
   intro h
   refine ⟨fun hdep => nH, ?_⟩
   have hc := callsIn_wide (n := 0) |>.2 h
   refine CallsIn.mono (show CallsIn (FW c.ro) 0 c.P f args w2 _ from hc) ?_
   rintro e w' ⟨v, rfl, hv⟩
   exact hK _ _ hv
structure AE where
  α : Type
  V : α → Value
  G : α → Jj → Jj
  grow : Bool
  hg : grow = true → ∀ (x : α) (E : Jj), List.Sublist E (G x E)
inductive Kd
  | quiet
  | pure
  | act (e : AE)
abbrev Kds := Nat → Kd
section
variable {c : Cx} {X : XP} {S : Jj} {ops : Array Oper} {md : Region.Mode}
def c0 (c : Cx) (w : World) : Cx := ⟨c.P, c.ro, w, [], [], [], c.n⟩
def XT : XP := fun _ _ => True
def YQ (c : Cx) (E : Jj) (X : XP) (ops : Array Oper) (o : Oper) (v : Value) (a : Act) : Prop :=
 (Region.wanted o (yielded ops a.tmps) = true ∧ ∀ w, St c E X w → actAt c o a w fun u w' => u = v ∧ Keep [] w w') ∨ (Region.wanted o (yielded ops a.tmps) = false ∧ v = undef)
def SubS (S E : Jj) : Prop := ∀ p ∈ S, p ∈ E
def YP (c : Cx) (X : XP) (S : Jj) (ops : Array Oper) (o : Oper) (v : Value) (a : Act) : Prop :=
 (Region.wanted o (yielded ops a.tmps) = true ∧ ∀ E, SubS S E → ∀ w, St c E X w → actAt c o a w fun u w' => u = v ∧ Keep [] w w') ∨ (Region.wanted o (yielded ops a.tmps) = false ∧ v = undef)
def YA (c : Cx) (E : Jj) (X : XP) (ops : Array Oper) (o : Oper) (e : AE) (a : Act) : Prop :=
 Region.wanted o (yielded ops a.tmps) = true ∧ ∀ w, St c E X w → actAt c o a w fun u w' => ∃ x, u = e.V x ∧ St c (e.G x E) X w'
theorem YP.quiet {E : Jj} (h : YP c X S ops o v a) (hE : SubS S E) : YQ c E X ops o v a := h.imp (fun ⟨h1, h2⟩ => ⟨h1, h2 E hE⟩) id
def stA (c : Cx) (X : XP) (S : Jj) (ops : Array Oper) (tb : Kds) (i : Nat) (K : Jj → Act → Prop) (E : Jj) (a : Act) : Prop :=
 ∃ o, ops[i]? = some o ∧ match tb i with
  | .quiet => ∃ v, YQ c E X ops o v a ∧ K E (a.put o.dst v)
  | .pure => ∃ v, YP c X S ops o v a ∧ K E (a.put o.dst v)
  | .act e => (YA c E X ops o e a ∧ ∀ x, SubS S (e.G x E) ∧ K (e.G x E) (a.put o.dst (e.V x))) ∨ (Region.wanted o (yielded ops a.tmps) = false ∧ K E (a.put o.dst undef))
def xI (c : Cx) (X : XP) (S : Jj) (ops : Array Oper) (md : Region.Mode) (tb : Kds) (m : Nat) (T : Jj → Array Bool → Act → Prop) : Nat → Array Bool → Jj → Act → Prop
 | 0, listed, E, a => T E listed a
 | f + 1, listed, E, a => Region.ready md ops listed ≠ [] ∧ ∀ i ∈ Region.ready md ops listed, i < m ∧ stA c X S ops tb i (fun E' a' => xI c X S ops md tb m T f (listed.setIfInBounds i true) E' a') E a
theorem YQ.same {E : Jj} (hy : YQ c E X ops o v a) (he : execOp a'.eval o = execOp a.eval o) (hw : Region.wanted o (yielded ops a'.tmps) = Region.wanted o (yielded ops a.tmps)) : YQ c E X ops o v a' := by
 unfold YQ at *; rw [hw]; exact hy.imp (fun ⟨h1, h2⟩ => ⟨h1, fun w hs => (h2 w hs).same he⟩) id
theorem YP.same (hy : YP c X S ops o v a) (he : execOp a'.eval o = execOp a.eval o) (hw : Region.wanted o (yielded ops a'.tmps) = Region.wanted o (yielded ops a.tmps)) : YP c X S ops o v a' := by
 unfold YP at *; rw [hw]; exact hy.imp (fun ⟨h1, h2⟩ => ⟨h1, fun E hE w hs => (h2 E hE w hs).same he⟩) id
theorem YA.same {E : Jj} {e : AE} (hy : YA c E X ops o e a) (he : execOp a'.eval o = execOp a.eval o) (hw : Region.wanted o (yielded ops a'.tmps) = Region.wanted o (yielded ops a.tmps)) : YA c E X ops o e a' := by
 unfold YA at *; rw [hw]; exact ⟨hy.1, fun w hs => (hy.2 w hs).same he⟩
theorem YQ.weak  {E : Jj} (hy : YQ c E X ops o v a) (hs : E.Sublist E') : YQ c E' X ops o v a :=
 hy.imp (fun ⟨h1, h2⟩ => ⟨h1, fun w hw => h2 w (hw.weakL hs)⟩) id
theorem Jwc {tb : Kds} {K : Jj → Act → Prop} {E : Jj} (hnd : ∀ (j : Nat) (o : Oper), ops[j]? = some o → Kx o.op = true)
  (hs : St c E X w) (hE : SubS S E) (h : ∀ E a w', SubS S E → St c E X w' → K E a → K' a w') (hh : stA c X S ops tb i K E a) : wpOpIn (FW c.ro) 0 c.P ops Q' i K' a w := by
 obtain ⟨o, ho, hm⟩ := hh
 have no : ∀ E, SubS S E → Region.wanted o (yielded ops a.tmps) = false → St c E X w → K E (a.put o.dst undef) → wpOpIn (FW c.ro) 0 c.P ops Q' i K' a w := fun E hE hw hs hk => by
  exact HO
 have yes : ∀ v, YQ c E X ops o v a → K E (a.put o.dst v) → wpOpIn (FW c.ro) 0 c.P ops Q' i K' a w := fun v hy hk => by
  rcases hy with ⟨hw, hq⟩ | ⟨hw, rfl⟩
  ·exact Ht
  ·exact no E hE hw hs hk
 cases ha : tb i with
 | quiet => rw [ha] at hm; obtain ⟨v, h1, h2⟩ := hm; exact yes v h1 h2
 | pure => rw [ha] at hm; obtain ⟨v, h1, h2⟩ := hm; exact yes v (h1.quiet hE) h2
 | act e =>
  rw [ha] at hm
  rcases hm with ⟨⟨hw, hr⟩, h2⟩ | ⟨hw, h2⟩
  ·exact Hj
  ·exact no E hE hw hs h2
theorem Jhb {tb : Kds} {m g : Nat} {T : Jj → Array Bool → Act → Prop} {Q' : Exit → Act → World → Prop} (hnd : ∀ (j : Nat) (o : Oper), ops[j]? = some o → Kx o.op = true)
  (hT : ∀ E listed a w, SubS S E → St c E X w → T E listed a → wpAnyIn (FW c.ro) 0 c.P md ops Q' g listed a w) :
  ∀ (f : Nat) (listed : Array Bool) (E : Jj) (a : Act) (w : World), SubS S E → St c E X w → xI c X S ops md tb m T f listed E a → wpAnyIn (FW c.ro) 0 c.P md ops Q' (f + g) listed a w
 | 0, listed, E, a, w, hE, hw, h => by rw [Nat.zero_add]; exact hT _ _ _ _ hE hw h
 | f + 1, listed, E, a, w, hE, hw, h => by
  rw [show f + 1 + g = (f + g) + 1 from by omega]
  exact ⟨fun h0 => absurd h0 h.1, fun i hi => Jwc hnd hw hE (fun E' a' w' hE' hw' h' => Jhb hnd hT f _ E' a' w' hE' hw' h') (h.2 i hi).2⟩
def Jmf (md : Region.Mode) (ops : Array Oper) (tb : Kds) (m i : Nat) : Prop :=
 tb i = .quiet → ∀ j e, j < m → tb j = .act e → e.grow = false → ∀ listed, i ∈ Region.ready md ops listed → j ∈ Region.ready md ops listed → False
theorem Jfm {tb : Kds} (hi : ops[i]? = some oi) (hai : tb i = .quiet ∨ tb i = .pure) (hsel : ∀ (j : Nat) (o : Oper) cs b, ops[j]? = some o → o.op ≠ .select cs b)
  (hbd : Jmf md ops tb m i)
  (hlt : ∀ listed, HeadInv md ops m listed → listed.getD i true = false → ∀ j ∈ Region.ready md ops listed, j < m)
  (hT : ∀ E listed a, T E listed a → ∀ j ∈ Region.ready md ops listed, m ≤ j) :
  ∀ (f : Nat) (listed : Array Bool) (E : Jj) (a : Act), HeadInv md ops m listed →
   (∀ j oj, ops[j]? = some oj → j ≠ i → listed.getD j true = false → (∀ e ∈ oj.after, Region.binds md e = true → e.on ≠ i) → oi.apart ops oj = true) →
   SubS S E → i ∈ Region.ready md ops listed → (YQ c E X ops oi v a ∧ (tb i = .pure → YP c X S ops oi v a)) →
   xI c X S ops md tb m T f (listed.setIfInBounds i true) E (a.put oi.dst v) → xI c X S ops md tb m T (f + 1) listed E a := by
 have self : ∀ {K : Jj → Act → Prop} {E : Jj} {a : Act}, (YQ c E X ops oi v a ∧ (tb i = .pure → YP c X S ops oi v a)) → K E (a.put oi.dst v) → stA c X S ops tb i K E a := by
  intro K E a hy H
  refine ⟨oi, hi, ?_⟩
  rcases hai with h | h <;> rw [h]
  ·exact ⟨v, hy.1, H⟩
  ·exact ⟨v, hy.2 h, H⟩
 intro f
 induction f with
 | zero =>
  intro listed E a inv _ hSE hr hy H
  refine ⟨fun h => mN, fun j hj => ⟨hlt _ inv (mem_ready.1 hr).1 j hj, ?_⟩⟩
  by_cases hji : j = i
  ·subst hji; exact self hy H
  ·have h1 := hT _ _ _ H j (ready_mono hj hji)
   have h2 := hlt _ inv (mem_ready.1 hr).1 j hj
   omega
 | succ f ih =>
  intro listed E a inv hfree hSE hr hy H
  refine ⟨fun h => mN, fun j hj => ?_⟩
  have hjm := hlt _ inv (mem_ready.1 hr).1 j hj
  refine ⟨hjm, ?_⟩
  by_cases hji : j = i
  ·subst hji; exact self hy H
  ·obtain ⟨oj, hoj, hm⟩ := (H.2 j (ready_mono hj hji)).2
   obtain ⟨hjun, oj', hoj', hall⟩ := mem_ready.1 hj
   rw [hoj] at hoj'
   cases hoj'
   have hnot : ∀ e ∈ oj.after, Region.binds md e = true → e.on ≠ i := fun e he hb heq => by
    have h2 := hall e he hb
    rw [heq, getD_both (mem_ready.1 hr).1] at h2
    cases h2
   obtain ⟨h1, h2, h3⟩ := Oper.apart_spec (hfree j oj hoj hji hjun hnot)
   have hfree' : ∀ k ok, ops[k]? = some ok → k ≠ i → (listed.setIfInBounds j true).getD k true = false →
     (∀ e ∈ ok.after, Region.binds md e = true → e.on ≠ i) → oi.apart ops ok = true := fun k ok hk hki hun hno => by
    refine hfree k ok hk hki ?_ hno
    by_cases hjk : j = k
    ·subst hjk; exact hjun
    ·rw [getD_set_ne true hjk] at hun; exact hun
   have back1 := fun u => (execOp_put oj (fun cs b => hsel j oj cs b hoj) a oi.dst u h1)
   have back2 := fun u => (wanted_put oj a oi.dst u h1)
   have forth1 := fun u => (execOp_put oi (fun cs b => hsel i oi cs b hi) a oj.dst u h3)
   have forth2 := fun u => (wanted_put oi a oj.dst u h3)
   have go : ∀ E' u, SubS S E' → (E.Sublist E' ∨ tb i = .pure) → xI c X S ops md tb m T f ((listed.setIfInBounds i true).setIfInBounds j true) E' ((a.put oi.dst v).put oj.dst u) →
     xI c X S ops md tb m T (f + 1) (listed.setIfInBounds j true) E' (a.put oj.dst u) := fun E' u hSE' hsub hK => by
    refine ih (listed.setIfInBounds j true) E' (a.put oj.dst u) (inv.set hj hjm) hfree' hSE' (ready_mono hr (Ne.symm hji)) ⟨?_, fun hp => (hy.2 hp).same (forth1 u) (forth2 u)⟩ ?_
    ·rcases hsub with hsub | hp
     ·exact (hy.1.weak hsub).same (forth1 u) (forth2 u)
     ·exact ((hy.2 hp).same (forth1 u) (forth2 u)).quiet hSE'
    ·rw [Array.setIfInBounds_comm _ _ hji, ← Act.put_comm a v u h2]
     exact hK
   refine ⟨oj, hoj, ?_⟩
   cases ha : tb j with
   | quiet => rw [ha] at hm; obtain ⟨u, g1, g2⟩ := hm; exact ⟨u, g1.same (back1 v).symm (back2 v).symm, go E u hSE (.inl (List.Sublist.refl _)) g2⟩
   | pure => rw [ha] at hm; obtain ⟨u, g1, g2⟩ := hm; exact ⟨u, g1.same (back1 v).symm (back2 v).symm, go E u hSE (.inl (List.Sublist.refl _)) g2⟩
   | act e =>
    rw [ha] at hm
    rcases hm with ⟨g1, g2⟩ | ⟨g1, g2⟩
    ·refine .inl ⟨g1.same (back1 v).symm (back2 v).symm, fun x => ⟨(g2 x).1, go _ _ (g2 x).1 ?_ (g2 x).2⟩⟩
     cases hgr : e.grow with
     | true => exact .inl (e.hg hgr x E)
     | false =>
      rcases hai with hq | hp
      ·exact (hbd hq j e hjm ha hgr listed hr hj).elim
      ·exact .inr hp
    ·exact .inr ⟨(back2 v).symm.trans g1, go E undef hSE (.inl (List.Sublist.refl _)) g2⟩
def vu (c : Cx) (X : XP) (S : Jj) (ops : Array Oper) (tb : Kds) (T : Jj → Act → Prop) : List Oper → Nat → Jj → Act → Prop
 | [], _, E, a => T E a
 | o :: rest, k, E, a => match tb k with
  | .quiet => ∃ v, YQ c E X ops o v a ∧ vu c X S ops tb T rest (k + 1) E (a.put o.dst v)
  | .pure => ∃ v, YP c X S ops o v a ∧ vu c X S ops tb T rest (k + 1) E (a.put o.dst v)
  | .act e => (YA c E X ops o e a ∧ ∀ x, SubS S (e.G x E) ∧ vu c X S ops tb T rest (k + 1) (e.G x E) (a.put o.dst (e.V x))) ∨ (Region.wanted o (yielded ops a.tmps) = false ∧ vu c X S ops tb T rest (k + 1) E (a.put o.dst undef))
def Kd.isAct : Kd → Bool
 | .act _ => true
 | _ => false
def Kd.isQuiet : Kd → Bool
 | .quiet => true
 | _ => false
def Kd.turns : Kd → Bool
 | .act e => !e.grow
 | _ => false
def Jmg (md : Region.Mode) (ops : Array Oper) (tb : Kds) (g : Nat) : Nat → Nat → Array Bool → Bool
 | 0, k, listed => Region.seqB md ops g k listed
 | f + 1, k, listed => (if (tb k).isAct then decide (Region.ready md ops listed = [k]) else (Region.ready md ops listed).contains k && Region.free md ops listed k) && Jmg md ops tb g f (k + 1) (listed.setIfInBounds k true)
theorem Jb9 {tb : Kds} {m g : Nat} {T : Jj → Act → Prop} (hsel : Region.noSelect ops = true) (hbd : ∀ i, i < m → Jmf md ops tb m i) (hlt : ∀ i, i < m → ∀ listed, HeadInv md ops m listed → listed.getD i true = false → ∀ j ∈ Region.ready md ops listed, j < m)
  (hseq : ∀ listed, Region.seqB md ops g m listed = true → ∀ j ∈ Region.ready md ops listed, m ≤ j) :
  ∀ (l : List Oper) (k : Nat) (listed : Array Bool) (E : Jj) (a : Act), (∀ j, j < l.length → l[j]? = ops[k + j]?) → k + l.length = m → HeadInv md ops m listed → SubS S E →
  Jmg md ops tb g l.length k listed = true → vu c X S ops tb T l k E a →
  xI c X S ops md tb m (fun E' listed' a' => Region.seqB md ops g m listed' = true ∧ T E' a') l.length listed E a
 | [], k, listed, E, a, _, hk, _, _, hB, h => by
  have : k = m := by simpa using hk
  subst this
  exact ⟨by simpa [Jmg] using hB, h⟩
 | o :: l, k, listed, E, a, hl, hk, inv, hSE, hB, h => by
  have h0 : ops[k]? = some o := by simpa using (hl 0 mf).symm
  simp only [List.length_cons, Jmg, Bool.and_eq_true] at hB
  obtain ⟨hr, hB'⟩ := hB
  have hkm : k < m := by simp only [List.length_cons] at hk; omega
  have next : ∀ E' a', SubS S E' → k ∈ Region.ready md ops listed → vu c X S ops tb T l (k + 1) E' a' → xI c X S ops md tb m (fun E' listed' a' => Region.seqB md ops g m listed' = true ∧ T E' a') l.length (listed.setIfInBounds k true) E' a' := fun E' a' hSE' hr' hw =>
   Jb9 hsel hbd hlt hseq l (k + 1) _ E' a' (fun j hj => by have := hl (j + 1) nU; simpa [Nat.add_assoc, Nat.add_comm 1 j] using this) (by simp only [List.length_cons] at hk; omega) (inv.set hr' hkm) hSE' hB' hw
  unfold vu at h
  have quiet : (tb k).isAct = false → ∀ v, (tb k = .quiet ∨ tb k = .pure) → (YQ c E X ops o v a ∧ (tb k = .pure → YP c X S ops o v a)) → vu c X S ops tb T l (k + 1) E (a.put o.dst v) →
    xI c X S ops md tb m (fun E' listed' a' => Region.seqB md ops g m listed' = true ∧ T E' a') (l.length + 1) listed E a := fun hna v hai hy hw => by
   rw [hna] at hr
   simp only [Bool.false_eq_true, if_false, Bool.and_eq_true] at hr
   have hr' : k ∈ Region.ready md ops listed := by simpa using hr.1
   exact Jfm h0 hai (Region.noSelect_spec hsel) (hbd k hkm) (hlt k hkm) (fun E' listed' a' hL => hseq _ hL.1) l.length listed E a inv (Region.free_spec h0 hr.2) hSE hr' hy (next _ _ hSE hr' hw)
  cases ha : tb k with
  | quiet => rw [ha] at h; obtain ⟨v, hy, hw⟩ := h; exact quiet nN v (.inl ha) ⟨hy, fun e => by rw [ha] at e; cases e⟩ hw
  | pure => rw [ha] at h; obtain ⟨v, hy, hw⟩ := h; exact quiet nN v (.inr ha) ⟨hy.quiet hSE, fun _ => hy⟩ hw
  | act e =>
   rw [ha] at h hr
   simp only [Kd.isAct, if_true, decide_eq_true_eq] at hr
   have hr' : k ∈ Region.ready md ops listed := by rw [hr]; exact List.mem_cons_self
   refine ⟨fun e => (by rw [e] at hr'; cases hr'), fun i hi => ?_⟩
   rw [hr] at hi
   have hik : i = k := by simpa using hi
   subst hik
   refine ⟨hkm, o, h0, ?_⟩
   rw [ha]
   rcases h with ⟨h1, h2⟩ | ⟨h1, h2⟩
   ·exact .inl ⟨h1, fun x => ⟨(h2 x).1, next _ _ (h2 x).1 hr' (h2 x).2⟩⟩
   ·exact .inr ⟨h1, next _ _ hSE hr' h2⟩
def Jmh : List (Nat × Kd) → Kds
 | [], _ => .quiet
 | (j, p) :: r, k => match Nat.beq k j with | true => p | false => Jmh r k
def onB (md : Region.Mode) (ops : Array Oper) (j i : Nat) : Bool := match ops[j]? with | some o => o.after.any fun e => Region.binds md e && e.on == i | none => false
def Jmi (md : Region.Mode) (ops : Array Oper) (tb : Kds) (m : Nat) : Bool :=
 (List.range m).all fun j => if (tb j).turns then (List.range m).all fun i => !(tb i).isQuiet || onB md ops j i || onB md ops i j else true
theorem xJ {listed : Array Bool} (h : onB md ops j i = true) (hj : j ∈ Region.ready md ops listed) (hi : i ∈ Region.ready md ops listed) : False := by
 unfold onB at h
 obtain ⟨hjun, oj, hoj, hall⟩ := mem_ready.1 hj
 rw [hoj] at h
 simp only [Array.any_eq_true'] at h
 obtain ⟨e, he, hb⟩ := h
 simp only [Bool.and_eq_true, beq_iff_eq] at hb
 have h2 := hall e he hb.1
 rw [hb.2, getD_both (mem_ready.1 hi).1] at h2
 cases h2
theorem Jca {tb : Kds} (h : Jmi md ops tb m = true) (hi : i < m) : Jmf md ops tb m i := fun hq j e hj he hg listed hir hjr => by
 have h1 := List.all_eq_true.1 h j (List.mem_range.2 hj)
 rw [he] at h1
 simp only [Kd.turns, hg, Bool.not_false, if_true] at h1
 have h2 := List.all_eq_true.1 h1 i (List.mem_range.2 hi)
 rw [hq] at h2
 simp only [Kd.isQuiet, Bool.not_true, Bool.false_or, Bool.or_eq_true] at h2
 rcases h2 with h2 | h2
 ·exact xJ h2 hjr hir
 ·exact xJ h2 hir hjr
end
section
variable {c : Cx} {l : Ko} {L E : Jj} {X : XP} {Q : Exit → Act → World → Prop} {d : List Deferred}
variable {ops : Array Oper} {rest : List Oper} {i k : Nat} {v : Value} {o : Oper} {tb : Kds} {S : Jj} {T : Jj → Act → Prop}
def HA (c : Cx) (d : List Deferred) (l : Ko) (E : Jj) (X : XP) (S : Jj) (ops : Array Oper) (tb : Kds) (rest : List Oper) (k : Nat) (T : Jj → Act → Prop) : Prop :=
 ∀ a, Fr c.n d l a → vu c X S ops tb T rest k E a
def Jmj (ops : List Oper) (tb : Kds) (m : Nat) : Bool :=
 (ops.all fun o => Kx o.op) && Region.noSelect ops.toArray && Nat.ble m ops.length &&
 (Nat.beq m ops.length || (Region.sinkB .any ops.toArray m && Region.chainB .any ops.toArray m)) && Jmi .any ops.toArray tb m &&
 Jmg .any ops.toArray tb (ops.length - m) m 0 (Array.replicate ops.length false)
theorem Jcb {ops : List Oper} (S : Jj) (tab : List (Nat × Kd)) (m : Nat) (hm : c.P.follows .mixedOrders = true) (hB : Jmj ops (Jmh tab) m = true) (hSL : SubS S L)
  (h : HA c d l L X S ops.toArray (Jmh tab) (ops.take m) 0 (fun E a' => ∀ w, St c E X w → wpListIn (FW c.ro) 0 c.P ops.toArray Q (ops.drop m) a' w)) : HC c d l L X (.region id ops.toArray true) Q := fun a w hf hs => by
 simp only [Jmj, Bool.and_eq_true, Bool.or_eq_true] at hB
 obtain ⟨⟨⟨⟨⟨h1, hsel⟩, hle⟩, hsc⟩, hcr⟩, hlex⟩ := hB
 have hle' := Nat.le_of_ble_eq_true hle
 have hnd : ∀ (j : Nat) (o : Oper), ops.toArray[j]? = some o → Kx o.op = true := fun j o ho => List.all_eq_true.1 h1 o (List.mem_of_getElem? MQ)
 have htl : (ops.take m).length = m := by simp; omega
 have hdl : (ops.drop m).length = ops.length - m := by simp
 have hlt : ∀ i, i < m → ∀ listed, HeadInv .any ops.toArray m listed → listed.getD i true = false → ∀ j ∈ Region.ready .any ops.toArray listed, j < m := by
  intro i hi listed inv hun j hj
  rcases Nat.lt_or_ge j m with hjm | hjm
  exact hjm
  have hjs : j < ops.length := by obtain ⟨_, oj, hoj, _⟩ := mem_ready.1 hj; simpa using (Array.getElem?_eq_some_iff.1 hoj).1
  rcases hsc with h0 | ⟨h2, h3⟩
  exact DQ
  exact Ha
 have inv0 : HeadInv .any ops.toArray m (Array.replicate ops.length false) :=
  ⟨by simp, fun j oj _ hl => Mc, fun t _ ht => getD_in MR (getD_replicate_false _ _)⟩
 have H := Jb9 (c := c) (X := X) (md := .any) (g := ops.length - m) hsel (fun i hi => Jca hcr hi) hlt (fun listed hq => seqB_ready hq) (ops.take m) 0 _ L a
  (fun j hj => by
   have hj' : j < m := by rw [htl] at hj; exact hj
   simp [hj']) (by simpa using htl) inv0 hSL (by rw [htl]; exact hlex) (h a hf)
 refine wpIn_region_any hm ?_
 have := Jhb (Q' := Q) (g := ops.length - m) hnd (fun E' listed a' w' _ hw' hL => by
  have := Xk (ro := c.ro) (P := c.P) (md := .any) (Q' := Q) (ops.drop m) m listed a' w' (fun j => by simp [List.getElem?_drop]) MV (hL.2 w' hw')
  rwa [hdl] at this) _ _ _ _ _ hSL ME H
 rw [htl, show m + (ops.length - m) = ops.toArray.size from by simp; omega] at this
 simpa using this
theorem Jmk (h : HL c d l E X ops tail Q) : HA c d l E X S ops tb [] k (fun E' a' => ∀ w, St c E' X w → wpListIn (FW c.ro) 0 c.P ops Q tail a' w) :=
 fun a hf w hs => h a w hf hs
theorem Jcc (hg : Kp l ops o = some true) (hd : o.dst = some i) (hi : Nat.ble (i + 1) c.n = true) (hA : tb k = .pure) (hr : ∀ E', SubS S E' → J9 c d l E' X o v) (h : HA c d ((i, v) :: l) E X S ops tb rest (k + 1) T) : HA c d l E X S ops tb (o :: rest) k T := fun a hf => by
 unfold vu
 rw [hA]
 refine ⟨v, .inl ⟨JD hf hg, fun E' hE' w hs => YH (hr E' hE' a w hf hs) ⟨rfl, Keep.refl _ _⟩⟩, ?_⟩
 rw [hd]; exact h _ (hf.put (Nat.le_of_ble_eq_true hi))
theorem X5 {R : Value → World → Prop}
  (hf : Fr c.n d l a) (hca : KD l f args = some (g, vs)) (eg : Enters c.P g) (h : Calls c.P g vs.toArray w fun e w2 => ∃ v, e = .returned v ∧ R v w2) : actAt c ⟨dst, .call ⟨.value f, args, at_⟩, ty, ps, af, gd⟩ a w R := by
 unfold actAt
 rw [VJ hf hca c.P w _ rfl eg]
 exact h
theorem Jcd
  (hg : Kp l ops ⟨some i, .call ⟨.value f, args, at_⟩, ty, ps, af, gd⟩ = some true) (hi : Nat.ble (i + 1) c.n = true) (hA : tb k = .pure) (hca : KD l f args = some (g, vs)) (eg : Enters c.P g)
  (hp : Pure c.P g vs.toArray v) (h : HA c d ((i, v) :: l) E X S ops tb rest (k + 1) T) : HA c d l E X S ops tb (⟨some i, .call ⟨.value f, args, at_⟩, ty, ps, af, gd⟩ :: rest) k T := fun a hf => by
 unfold vu
 rw [hA]
 exact ⟨v, .inl ⟨JD hf hg, fun _ _ w _ => X5 hf hca eg ((hp.run w).mono fun _ _ ⟨he, hk⟩ => ⟨v, he, rfl, hk⟩)⟩, h _ (hf.put (Nat.le_of_ble_eq_true hi))⟩
theorem Jwd {e : AE} (hg : Kp l ops o = some true) (hd : o.dst = some i) (hi : Nat.ble (i + 1) c.n = true) (hA : tb k = .act e) (hr : ∀ a w, Fr c.n d l a → St c E X w → actAt c o a w fun u w' => ∃ x, u = e.V x ∧ St c (e.G x E) X w') (hS : ∀ x, SubS S (e.G x E))
  (h : ∀ x, HA c d ((i, e.V x) :: l) (e.G x E) X S ops tb rest (k + 1) T) : HA c d l E X S ops tb (o :: rest) k T := fun a hf => by
 unfold vu
 rw [hA]
 refine .inl ⟨⟨JD hf hg, fun w hs => hr a w hf hs⟩, fun x => ⟨hS x, ?_⟩⟩
 rw [hd]; exact h x _ (hf.put (Nat.le_of_ble_eq_true hi))
def Jhc (V : Nat → Value) (ob : Obj) : AE := ⟨Nat, V, fun r E => (r, ob) :: E, true, fun _ _ _ => List.sublist_cons_self _ _⟩
theorem Jr4 {e : AE} (hge : e.grow = true) (hS0 : SubS S E) (x : e.α) : SubS S (e.G x E) := fun p hp => (e.hg hge x E).mem (hS0 p hp)
theorem Jwe {V : Nat → Value} (hg : Kp l ops o = some true) (hd : o.dst = some i) (hi : Nat.ble (i + 1) c.n = true) (hA : tb k = .act (Jhc V ob)) (hr : ∀ a w, Fr c.n d l a → St c E X w → (execOp a.eval o).run c.P w = .ok (.value (V w.heap.size)) (w.alloc ob)) (hS : SubS S E)
  (h : ∀ r, HA c d ((i, V r) :: l) ((r, ob) :: E) X S ops tb rest (k + 1) T) : HA c d l E X S ops tb (o :: rest) k T :=
 Jwd hg hd hi hA (fun a w hf hs => YH (hr a w hf hs) ⟨w.heap.size, rfl, hs.alloc ob⟩) (Jr4 rfl hS) h
end
section
variable {c : Cx} {l : Ko} {E : Jj} {X : XP} {d : List Deferred}
variable {ops : Array Oper} {rest : List Oper} {i k : Nat} {v : Value} {t : TypeId} {ps : String} {af : Array Edge} {gd : Option (Nat × Bool)} {ty : TypeId} {tb : Kds} {S : Jj} {T : Jj → Act → Prop}
def vv (r : Nat) : Value := .pointer (some ⟨r, 0, none⟩)
def slV (n r : Nat) : Value := .slice (some ⟨r, 0, none⟩) n n
theorem jl {n e : Nat} {vs : Ko} {r : List Value} (hg : Kp l ops ⟨some i, .buildSlice t n pa.toArray, ty, ps, af, gd⟩ = some true) (hi : Nat.ble (i + 1) c.n = true)
  (hA : tb k = .act (Jhc (slV n) (.cells r.toArray e (0, 0))))
  (hp : WI l pa = some vs) (ht : Ks c.P t = some e) (hz : QL c.P e = some z) (hs : KQ c.P e = some sz) (hzs : z.cells.size = sz) (hb : Nat.ble (n * sz) 16777216 = true) (h0 : Nat.ble 1 (n * sz) = true)
  (hmk : (madeCells z.cells (n * sz)).toList = zs) (hf : Zc (fun i => some (i * sz, sz)) zs (QE vs) = some r) (hS : SubS S E)
  (h : ∀ q, HA c d ((i, .slice (some ⟨q, 0, none⟩) n n) :: l) ((q, .cells r.toArray e (0, 0)) :: E) X S ops tb rest (k + 1) T) : HA c d l E X S ops tb (⟨some i, .buildSlice t n pa.toArray, ty, ps, af, gd⟩ :: rest) k T :=
 Jwe (V := slV n) hg rfl hi hA (fun a w hfr _ => by
  have h1 := Vp hfr hp
  have h2 : (pa.toArray.map fun (p : Nat × Operand) => (p.1, a.eval p.2)) = vs.toArray := by
   apply Array.toList_inj.1; rw [Array.toList_map]; simpa using h1
  rw [Qz] at hf
  subst hmk
  have h3 := VA ht hz hs hzs (Nat.le_of_ble_eq_true hb) (Nat.le_of_ble_eq_true h0) hf w
  rw [← h2] at h3
  refine Gl ?_
  have h4 : (Instr.buildSlice t n (pa.toArray.map fun (i, x) => (i, a.eval x))).run c.P w = .ok (.slice (some ⟨w.heap.size, 0, none⟩) n n) (w.alloc (.cells r.toArray e)) := h3
  rw [h4]; rfl) hS h
end
open Go Go.RowKit Go.Shelf
def wy : Nat → List Value → Option (List Value)
 | 0, _ => some []
 | n + 1, x :: xs => match wy n xs with | some r => some (x :: r) | none => none
 | _ + 1, [] => none
theorem wz : ∀ {n : Nat} {xs r : List Value}, wy n xs = some r → xs.take n = r ∧ r.length = n
 | 0, xs, r, h => by unfold wy at h; cases h; exact ⟨by simp, rfl⟩
 | n + 1, [], r, h => by unfold wy at h; cases h
 | n + 1, x :: xs, r, h => by
  unfold wy at h
  cases e : wy n xs with
  | none => rw [e] at h; cases h
  | some q => rw [e] at h; cases h; obtain ⟨h1, h2⟩ := wz e; exact ⟨by rw [List.take_succ_cons, h1], by rw [List.length_cons, h2]⟩
def Jr5 : Nat → Option Nat
 | 0 => some 0 | 1 => some 1 | 2 => some 2 | 3 => some 3 | 4 => some 4 | 5 => some 5 | 6 => some 6 | 7 => some 7 | 8 => some 8 | 9 => some 9 | 10 => some 10
 | 11 => some 11 | 12 => some 12 | 13 => some 13 | 14 => some 14 | 15 => some 15 | 16 => some 16 | 17 => some 17 | 18 => some 18 | 19 => some 19 | 20 => some 20 | n => some n
theorem Jhd {n : Nat} (h : Jr5 n = some m) : n = m := by
 unfold Jr5 at h
 split at h <;> exact Option.some.inj h
def zr (P : Program) (L : Jj) (ops : Array Oper) (N : Nat) (ks : List Nat) (l : Ko) (o : Oper) : Option (Nat × Value × List Nat × List (Nat × Nat)) :=
 match Kp l ops o with
 | none => none
 | some false => match o.dst with
  | none => none
  | some i => match Nat.ble (i + 1) N with
   | false => none
   | true => some (i, undef, ks, [])
 | some true => match o.dst with
  | none => none
  | some i => match Nat.ble (i + 1) N with
   | false => none
   | true => match o.op with
    | .move x => match Kh l x with
     | some v => some (i, v, ks, [])
     | none => none
    | .assign x => match Kh l x with
     | some v => some (i, v, ks, [])
     | none => none
    | .extract x ix => match Kh l x with
     | some (.tuple vs) => match W1 vs.toList ix with
      | some v => some (i, v, ks, [])
      | none => none
     | _ => none
    | .pick x y z => match Kh l x with
     | some (.bool true) => match Kh l y with
      | some v => some (i, v, ks, [])
      | none => none
     | some (.bool false) => match Kh l z with
      | some v => some (i, v, ks, [])
      | none => none
     | _ => none
    | .fieldAddr t x f => match Kh l x with
     | some (.pointer (some ⟨r, off, none⟩)) => match jG P t f with
      | some (fo, _ + 1) => match Jr5 (off + fo) with
       | some m => some (i, .pointer (some ⟨r, m, none⟩), ks, [])
       | none => none
      | _ => none
     | _ => none
    | .load t x => match Kh l x with
     | some (.pointer (some ⟨r, off, none⟩)) => match ks with
      | [] => none
      | k :: ks' => match L[k]? with
       | some (r', .cells cs e fr) => match Wg P t with
        | some false => match W1 cs.toList off with
         | some v => some (i, v, ks', [(r, r')])
         | none => none
        | some true => match KQ P t with
         | some n => match wy n (cs.toList.drop off) with
          | some vs => some (i, .agg vs.toArray, ks', [(r, r')])
          | none => none
         | none => none
        | none => none
       | _ => none
     | _ => none
    | _ => match Kx o.op, jn l o.op.operands.toList, VW P (execOp (evT l) o) with
     | true, true, some (.value v) => some (i, v, ks, [])
     | _, _, _ => none
section
variable {c : Cx} {l : Ko} {L : Jj} {X : XP} {Q : Exit → Act → World → Prop} {d : List Deferred} {ops : Array Oper}
theorem jM {ks ks' : List Nat} {q : List (Nat × Nat)} (hB : zr c.P L ops c.n ks l o = some (i, v, ks', q)) (hq : ∀ p ∈ q, p.1 = p.2) (h : HL c d ((i, v) :: l) L X ops rest Q) : HL c d l L X ops (o :: rest) Q := by
 unfold zr at hB
 split at hB
 ·cases hB
 ·rename_i hg
  split at hB
  ·cases hB
  ·rename_i hd
   split at hB
   ·cases hB
   ·rename_i hi
    cases hB
    exact Jg4 hg hd hi h
 ·rename_i hg
  split at hB
  ·cases hB
  ·rename_i i0 hd
   split at hB
   ·cases hB
   ·rename_i hi
    obtain ⟨dst, op, ty, ps, af, gd⟩ := o
    simp only at hd
    subst hd
    dsimp only at hB
    cases op
    case move x =>
     dsimp only at hB
     split at hB
     ·rename_i e; cases hB; exact jB hg rfl rfl hi (Jf e) h
     ·cases hB
    case assign x =>
     dsimp only at hB
     split at hB
     ·rename_i e; cases hB; exact jB hg rfl rfl hi (JP e) h
     ·cases hB
    case extract x ix =>
     dsimp only at hB
     split at hB
     ·rename_i e
      split at hB
      ·rename_i e2; cases hB; exact jB hg rfl rfl hi (Qp e e2) h
      ·cases hB
     ·cases hB
    case pick x y z =>
     dsimp only at hB
     split at hB
     ·rename_i e
      split at hB
      ·rename_i e2; cases hB; exact jB hg rfl rfl hi (YC e e2) h
      ·cases hB
     ·rename_i e
      split at hB
      ·rename_i e2; cases hB; exact jB hg rfl rfl hi (YD e e2) h
      ·cases hB
     ·cases hB
    case fieldAddr t x f =>
     dsimp only at hB
     split at hB
     ·rename_i e
      split at hB
      ·rename_i e2
       split at hB
       ·rename_i e3; cases hB; exact jB hg rfl rfl hi (JR e e2 (Jhd e3)) h
       ·cases hB
      ·cases hB
     ·cases hB
    case load t x =>
     dsimp only at hB
     split at hB
     ·rename_i e
      split at hB
      ·cases hB
      ·split at hB
       ·rename_i e2
        split at hB
        ·rename_i e3
         split at hB
         ·rename_i e4
          cases hB
          have hr := hq _ (List.mem_singleton_self _)
          simp only at hr
          subst hr
          exact jB hg rfl rfl hi (Je e (vD e2) e3 e4) h
         ·cases hB
        ·rename_i e3
         split at hB
         ·rename_i e4
          split at hB
          ·rename_i e5
           cases hB
           have hr := hq _ (List.mem_singleton_self _)
           simp only at hr
           subst hr
           exact jB hg rfl rfl hi (Jo e (vD e2) e3 e4 (wz e5).1 (wz e5).2) h
          ·cases hB
         ·cases hB
        ·cases hB
       ·cases hB
     ·cases hB
    all_goals
     dsimp only at hB
     split at hB
     ·rename_i e1 e2 e3; cases hB; exact jB hg e1 rfl hi (J1 e1 e2 e3) h
     ·cases hB
def Jjx (P : Program) (L : Jj) (ops : Array Oper) (N : Nat) : Nat → List Nat → Ko → List Oper → Option (Ko × List Oper × List (Nat × Nat))
 | 0, _, l, rest => some (l, rest, [])
 | _ + 1, _, _, [] => none
 | n + 1, ks, l, o :: rest => match zr P L ops N ks l o with
  | some (i, v, ks', q) => match Jjx P L ops N n ks' ((i, v) :: l) rest with
   | some (l', rest', qs) => some (l', rest', q ++ qs)
   | none => none
  | none => none
theorem YI (h : qs.map Prod.fst = qs.map Prod.snd) : ∀ p ∈ qs, p.1 = p.2 := by
 induction qs with
 | nil => intro p hp; cases hp
 | cons q qs ih =>
  simp only [List.map_cons, List.cons.injEq] at h
  intro p hp
  rcases List.mem_cons.1 hp with rfl | hp
  ·exact h.1
  ·exact ih h.2 p hp
theorem Jml : ∀ {n : Nat} {ks : List Nat} {l l' : Ko} {rest rest' : List Oper} {qs : List (Nat × Nat)}, Jjx c.P L ops c.n n ks l rest = some (l', rest', qs) → (∀ p ∈ qs, p.1 = p.2) → HL c d l' L X ops rest' Q → HL c d l L X ops rest Q
 | 0, ks, l, l', rest, rest', qs, hB, hq, h => by unfold Jjx at hB; cases hB; exact h
 | n + 1, ks, l, l', [], rest', qs, hB, hq, h => by unfold Jjx at hB; cases hB
 | n + 1, ks, l, l', o :: rest, rest', qs, hB, hq, h => by
  unfold Jjx at hB
  split at hB
  ·rename_i e
   split at hB
   ·rename_i e2
    cases hB
    exact jM e (fun p hp => hq p (List.mem_append_left _ hp)) (Jml e2 (fun p hp => hq p (List.mem_append_right _ hp)) h)
   ·cases hB
  ·cases hB
theorem LS  {rest' : List Oper} (n : Nat) (ks : List Nat) (hB : Jjx c.P L ops c.n n ks l rest = some (l', rest', qs)) (hq : qs.map Prod.fst = qs.map Prod.snd) (h : HL c d l' L X ops rest' Q) : HL c d l L X ops rest Q := Jml hB (YI hq) h
end
section
variable {c : Cx} {l : Ko} {L : Jj} {X : XP} {Q : Exit → Act → World → Prop} {K : Act → World → Prop} {d : List Deferred} {ops : Array Oper}
theorem sQ {x y : Code} (h : ∀ K, (∀ {d l L X}, HC c d l L X y Q → HQ c d l L X K) → HC c d l L X x (Exit.then K Q)) : HC c d l L X (x.seq y) Q := W5 fun K hK => h K fun {d l L X} => hK d l L X
theorem sR {os : List Oper} {y : Code} (h : ∀ K, (∀ {d l L X}, HC c d l L X y Q → HQ c d l L X K) → HL c d l L X os.toArray os (Exit.then K Q)) : HC c d l L X (Code.seq (.region id os.toArray false) y) Q := sQ fun K hK => Ka (h K hK)
theorem sB {b y : Code} (h : ∀ K, (∀ {d l L X}, HC c d l L X y Q → HQ c d l L X K) → HC c d l L X b (Exit.inBlock id (Exit.then K Q))) : HC c d l L X (Code.seq (.block id b) y) Q := sQ fun K hK => wn (h K hK)
theorem nK {y : Code} (hK : ∀ {d l L X}, HC c d l L X y Q' → HQ c d l L X K) (h : HC c d l L X y Q') : HL c d l L X ops [] (Exit.then K Q) := KM (Jv (hK h))
theorem pT {tt : Nat} (hP : c.P = P) (hr : fn.results = [ResultVar.tmp tt].toArray) (h : Vu l tt = some v) (hR : ∀ w, St c L X w → R (.returned (JC [v])) w) : HQ c [] l L X (bodyPostM (FW none) 0 P fn R .ret) := Jd hP hr (.cons (Jn h) .nil) hR
end
def xK : Nat → (Nat × Obj) → Jj → Option Jj
 | 0, x, _ :: L => some (x :: L)
 | n + 1, x, y :: L => match xK n x L with | some r => some (y :: r) | none => none
 | _, _, [] => none
theorem xM : ∀ {k : Nat} {x : Nat × Obj} {L r : Jj}, xK k x L = some r → L.set k x = r
 | 0, x, y :: L, r, h => by unfold xK at h; cases h; rfl
 | n + 1, x, y :: L, r, h => by
  unfold xK at h
  cases e : xK n x L with
  | none => rw [e] at h; cases h
  | some q => rw [e] at h; cases h; rw [List.set_cons_succ, xM e]
 | 0, x, [], r, h => by unfold xK at h; cases h
 | n + 1, x, [], r, h => by unfold xK at h; cases h
def vw : Nat → List Value → List Value → Option (List Value)
 | 0, [], cs => some cs
 | 0, v :: vs, _ :: cs => match vw 0 vs cs with | some r => some (v :: r) | none => none
 | n + 1, vs, c :: cs => match vw n vs cs with | some r => some (c :: r) | none => none
 | _, _, [] => none
theorem vJ : ∀ {off : Nat} {vs cs r : List Value}, vw off vs cs = some r → off + vs.length ≤ cs.length ∧ cs.take off ++ vs ++ cs.drop (off + vs.length) = r
 | 0, [], cs, r, h => by unfold vw at h; cases h; exact ⟨by simp, by simp⟩
 | 0, v :: vs, [], r, h => by unfold vw at h; cases h
 | 0, v :: vs, c :: cs, r, h => by
  unfold vw at h
  cases e : vw 0 vs cs with
  | none => rw [e] at h; cases h
  | some q =>
   rw [e] at h; cases h
   obtain ⟨h1, h2⟩ := vJ e
   refine ⟨by simp at h1 ⊢; omega, ?_⟩
   rw [← h2]; simp
 | n + 1, vs, [], r, h => by cases vs <;> (unfold vw at h; cases h)
 | n + 1, vs, c :: cs, r, h => by
  have h : (match vw n vs cs with | some r => some (c :: r) | none => none) = some r := by cases vs <;> exact h
  cases e : vw n vs cs with
  | none => rw [e] at h; cases h
  | some q =>
   rw [e] at h; cases h
   obtain ⟨h1, h2⟩ := vJ e
   refine ⟨by rw [List.length_cons]; omega, ?_⟩
   rw [← h2, show n + 1 + vs.length = (n + vs.length) + 1 by omega]; rfl
def Jyg (P : Program) (L : Jj) (l : Ko) (ops : Array Oper) (o : Oper) (k : Nat) : Option (Jj × Nat × Nat) :=
 match Kp l ops o with
 | some true => match o.dst with
  | none => match o.op with
   | .store t x y => match Kh l x with
    | some (.pointer (some ⟨r, off, none⟩)) => match L[k]? with
     | some (r', .cells cs e (0, 0)) => match KQ P t with
      | some n => match Kh l y with
       | some (.agg vs) => match Nat.beq vs.size n, vs.toList.all QW, vw off vs.toList cs.toList with
        | true, true, some r2 => match xK k (r', .cells r2.toArray e (0, 0)) L with
         | some L' => some (L', r, r')
         | none => none
        | _, _, _ => none
       | some v => match Nat.beq n 1, QW v, vw off [v] cs.toList with
        | true, true, some r2 => match xK k (r', .cells r2.toArray e (0, 0)) L with
         | some L' => some (L', r, r')
         | none => none
        | _, _, _ => none
       | none => none
      | none => none
     | _ => none
    | _ => none
   | _ => none
  | some _ => none
 | _ => none
section
variable {c : Cx} {l : Ko} {L : Jj} {X : XP} {Q : Exit → Act → World → Prop} {d : List Deferred} {ops : Array Oper}
theorem Jyh (off : Nat) : frB (0, 0) off = false := by unfold frB; cases off <;> rfl
theorem LT  {r' : Nat} (k : Nat) (hB : Jyg c.P L l ops o k = some (L', r, r')) (hr : r = r') (h : HL c d l L' X ops rest Q) : HL c d l L X ops (o :: rest) Q := by
 subst hr
 unfold Jyg at hB
 split at hB
 ·rename_i hg
  split at hB
  ·rename_i hd
   split at hB
   ·rename_i t x y ho
    obtain ⟨dst, op, ty, ps, af, gd⟩ := o
    simp only at hd ho
    subst hd ho
    split at hB
    ·rename_i hx
     split at hB
     ·rename_i hk
      split at hB
      ·rename_i ht
       split at hB
       ·rename_i hy
        split at hB
        ·rename_i h1 h2 h3
         split at hB
         ·rename_i h4
          cases hB
          obtain ⟨s1, s2⟩ := vJ h3
          have h1 := Nat.eq_of_beq_eq_true h1
          refine Ve (k := k) hg hx hk hy ht h1 h2 (by simpa [← h1] using s1) ?_ (xM h4) h
          rw [← s2]; congr 1; simp [← h1]
         ·cases hB
        ·cases hB
       ·rename_i hy
        split at hB
        ·rename_i h1 h2 h3
         split at hB
         ·rename_i h4
          cases hB
          obtain ⟨s1, s2⟩ := vJ h3
          have h1 := Nat.eq_of_beq_eq_true h1
          subst h1
          simp only [List.length_singleton, Array.length_toList] at s1
          refine Kt (k := k) hg hx hk hy ht h2 nU (Jyh _) ?_ (xM h4) h
          rw [← s2]
          apply Array.toList_inj.1
          simp [List.set_eq_take_append_cons_drop, s1]
          intro hh; omega
         ·cases hB
        ·cases hB
       ·cases hB
      ·cases hB
     ·cases hB
    ·cases hB
   ·cases hB
  ·cases hB
 ·cases hB
theorem J5  {f fo n : Nat} (hx : Kh l x = some (.pointer (some ⟨r, off, none⟩))) (hfo : jG c.P t f = some (fo, n + 1)) (hm : Jr5 (off + fo) = some m) : J9 c d l L X ⟨some i, .fieldAddr t x f, ty, ps, af, gd⟩ (.pointer (some ⟨r, m, none⟩)) := JR hx hfo (Jhd hm)
end
def Jmm (P : Program) (L : Jj) (ops : Array Oper) (N : Nat) (ks : List Nat) (l : Ko) (o : Oper) : Option (Nat × Value × List Nat × List (Nat × Nat)) :=
 match Kp l ops o, o.op with
 | some false, .load _ _ => zr P L ops N ks.tail l o
 | _, _ => zr P L ops N ks l o
def Jjy (P : Program) (L : Jj) (ops : Array Oper) (N : Nat) : Nat → List Nat → Ko → List Oper → Option (Ko × List Oper × List (Nat × Nat))
 | 0, _, l, rest => some (l, rest, [])
 | _ + 1, _, _, [] => none
 | n + 1, ks, l, o :: rest => match Jmm P L ops N ks l o with
  | some (i, v, ks', q) => match Jjy P L ops N n ks' ((i, v) :: l) rest with
   | some (l', rest', qs) => some (l', rest', q ++ qs)
   | none => none
  | none => none
def Jyi (l : Ko) (ops : Array Oper) (o : Oper) (n : Nat) : Option Nat := match Kp l ops o, Kx o.op, o.dst with
 | some true, true, some i => match Nat.ble (i + 1) n with | true => some i | false => none
 | _, _, _ => none
def Jyj (l : Ko) (ops : Array Oper) (o : Oper) (n : Nat) : Option Nat := match Kp l ops o, o.dst with
 | some false, some i => match Nat.ble (i + 1) n with | true => some i | false => none
 | _, _ => none
section
variable {c : Cx} {l : Ko} {L : Jj} {X : XP} {Q : Exit → Act → World → Prop} {d : List Deferred} {ops : Array Oper}
theorem Jmn {ks ks' : List Nat} {q : List (Nat × Nat)} (hB : Jmm c.P L ops c.n ks l o = some (i, v, ks', q)) (hq : ∀ p ∈ q, p.1 = p.2) (h : HL c d ((i, v) :: l) L X ops rest Q) : HL c d l L X ops (o :: rest) Q := by
 unfold Jmm at hB
 split at hB
 ·exact jM hB hq h
 ·exact jM hB hq h
theorem Jhe : ∀ {n : Nat} {ks : List Nat} {l l' : Ko} {rest rest' : List Oper} {qs : List (Nat × Nat)}, Jjy c.P L ops c.n n ks l rest = some (l', rest', qs) → (∀ p ∈ qs, p.1 = p.2) → HL c d l' L X ops rest' Q → HL c d l L X ops rest Q
 | 0, ks, l, l', rest, rest', qs, hB, hq, h => by unfold Jjy at hB; cases hB; exact h
 | n + 1, ks, l, l', [], rest', qs, hB, hq, h => by unfold Jjy at hB; cases hB
 | n + 1, ks, l, l', o :: rest, rest', qs, hB, hq, h => by
  unfold Jjy at hB
  split at hB
  ·rename_i e
   split at hB
   ·rename_i e2
    cases hB
    exact Jmn e (fun p hp => hq p (List.mem_append_left _ hp)) (Jhe e2 (fun p hp => hq p (List.mem_append_right _ hp)) h)
   ·cases hB
  ·cases hB
theorem LW  {rest' : List Oper} (n : Nat) (ks : List Nat) (hB : Jjy c.P L ops c.n n ks l rest = some (l', rest', qs)) (hq : qs.map Prod.fst = qs.map Prod.snd) (h : HL c d l' L X ops rest' Q) : HL c d l L X ops rest Q := Jhe hB (YI hq) h
theorem LR (hB : Jyi l ops o c.n = some i) (hr : J9 c d l L X o v) (h : HL c d ((i, v) :: l) L X ops rest Q) : HL c d l L X ops (o :: rest) Q := by
 unfold Jyi at hB
 split at hB
 ·split at hB
  ·cases hB; exact jB m9 m9 m9 m9 hr h
  ·cases hB
 ·cases hB
theorem LK (hB : Jyj l ops o c.n = some i) (h : HL c d ((i, undef) :: l) L X ops rest Q) : HL c d l L X ops (o :: rest) Q := by
 unfold Jyj at hB
 split at hB
 ·split at hB
  ·cases hB; exact Jg4 m9 m9 m9 h
  ·cases hB
 ·cases hB
end
def jo : List Value → Option (List Value)
 | [] => some []
 | x :: xs => match jo xs with | some r => some (x :: r) | none => none
theorem qA : ∀ {xs r : List Value}, jo xs = some r → xs = r
 | [], r, h => by unfold jo at h; cases h; rfl
 | x :: xs, r, h => by
  unfold jo at h
  cases e : jo xs with
  | none => rw [e] at h; cases h
  | some q => rw [e] at h; cases h; rw [qA e]
def Jyk (P : Program) (l : Ko) (ops : Array Oper) (o : Oper) (N : Nat) : Option (Nat × List Value × TypeId) :=
 match Kp l ops o with
 | some true => match o.dst with
  | some i => match Nat.ble (i + 1) N with
   | true => match o.op with
    | .box t x => match Kh l x with
     | some v => match jo v.cells.toList with
      | some r => some (i, r, t)
      | none => none
     | none => none
    | .alloc t => match QL P t with
     | some z => match jo z.cells.toList with
      | some r => some (i, r, t)
      | none => none
     | none => none
    | _ => none
   | false => none
  | none => none
 | _ => none
section
variable {c : Cx} {l : Ko} {L : Jj} {X : XP} {Q : Exit → Act → World → Prop} {d : List Deferred} {ops : Array Oper}
theorem LN  {t : Nat} {r : List Value} (hB : Jyk c.P l ops o c.n = some (i, r, t)) (h : ∀ b, HL c d ((i, .pointer (some ⟨b, 0, none⟩)) :: l) ((b, .cells r.toArray t (0, 0)) :: L) X ops rest Q) : HL c d l L X ops (o :: rest) Q := by
 unfold Jyk at hB
 split at hB
 ·rename_i hg
  split at hB
  ·rename_i hd
   split at hB
   ·rename_i hi
    split at hB
    ·rename_i ho
     obtain ⟨dst, op, ty, ps, af, gd⟩ := o
     simp only at hd ho
     subst hd ho
     split at hB
     ·rename_i hx
      split at hB
      ·rename_i hr; cases hB; exact QX hg hi hx (by rw [← qA hr]) h
      ·cases hB
     ·cases hB
    ·rename_i ho
     obtain ⟨dst, op, ty, ps, af, gd⟩ := o
     simp only at hd ho
     subst hd ho
     split at hB
     ·rename_i hz
      split at hB
      ·rename_i hr; cases hB; exact Ql hg hi hz (by rw [← qA hr]) h
      ·cases hB
     ·cases hB
    ·cases hB
   ·cases hB
  ·cases hB
 ·cases hB
theorem kn {o : Obj} (k : Nat) (h : L[k]? = some (r, o)) : known c L r o := vD h
end
inductive Fm where
  | sq (y : Code)
  | bl (id : Nat)
  | kk (K : Act → World → Prop)
def QF (c : Cx) : List Fm → (Exit → Act → World → Prop) → Exit → Act → World → Prop
 | [], Q => Q
 | .sq y :: fs, Q => Exit.then (y.wpIn (FW c.ro) 0 c.P (QF c fs Q)) (QF c fs Q)
 | .bl id :: fs, Q => Exit.inBlock id (QF c fs Q)
 | .kk K :: fs, Q => Exit.then K (QF c fs Q)
inductive Pt where
  | cd (x : Code)
  | ex (e : Exit)
  | op (ops : Array Oper) (rest : List Oper)
def PtH (c : Cx) (d : List Deferred) (l : Ko) (L : Jj) (X : XP) (fs : List Fm) (Q : Exit → Act → World → Prop) : Pt → Prop
 | .cd x => HC c d l L X x (QF c fs Q)
 | .ex e => HQ c d l L X (QF c fs Q e)
 | .op ops rest => HL c d l L X ops rest (QF c fs Q)
abbrev CtR := Option (Ko × List Fm × Pt × List (Nat × Nat))
def XS (P : Program) (L : Jj) (N : Nat) : Nat → List Nat → Ko → List Fm → Pt → CtR
 | 0, _, l, fs, p => some (l, fs, p, [])
 | n + 1, ks, l, fs, .cd x => match x with
  | .seq x y => XS P L N n ks l (.sq y :: fs) (.cd x)
  | .block id b => XS P L N n ks l (.bl id :: fs) (.cd b)
  | .region _ ops false => XS P L N n ks l fs (.op ops ops.toList)
  | .skip => XS P L N n ks l fs (.ex .normal)
  | .ret => XS P L N n ks l fs (.ex .ret)
  | .exit id => XS P L N n ks l fs (.ex (.exit id))
  | .cond x t e => match Kh l x with
   | some (.bool true) => XS P L N n ks l fs (.cd t)
   | some (.bool false) => XS P L N n ks l fs (.cd e)
   | _ => none
  | _ => none
 | n + 1, ks, l, .sq y :: fs, .ex e => match e with
  | .normal => XS P L N n ks l fs (.cd y)
  | .ret => XS P L N n ks l fs (.ex .ret)
  | .exit j => XS P L N n ks l fs (.ex (.exit j))
  | _ => none
 | n + 1, ks, l, .bl id :: fs, .ex e => match e with
  | .normal => XS P L N n ks l fs (.ex .normal)
  | .ret => XS P L N n ks l fs (.ex .ret)
  | .exit j => match Nat.beq j id with
   | true => XS P L N n ks l fs (.ex .normal)
   | false => XS P L N n ks l fs (.ex (.exit j))
  | _ => none
 | n + 1, ks, l, .kk K :: fs, .ex e => match e with
  | .ret => XS P L N n ks l fs (.ex .ret)
  | .exit j => XS P L N n ks l fs (.ex (.exit j))
  | _ => none
 | _ + 1, _, _, [], .ex _ => none
 | n + 1, ks, l, fs, .op ops [] => XS P L N n ks l fs (.ex .normal)
 | n + 1, ks, l, fs, .op ops (o :: rest) => match zr P L ops N ks l o with
  | some (i, v, ks', q) => match XS P L N n ks' ((i, v) :: l) fs (.op ops rest) with
   | some (l', fs', p', qs) => some (l', fs', p', q ++ qs)
   | none => none
  | none => none
section
variable {c : Cx} {L : Jj} {X : XP} {Q : Exit → Act → World → Prop} {d : List Deferred}
theorem Jr6 {l : Ko} {x y : Code} (h : HC c d l L X x (Exit.then (y.wpIn (FW c.ro) 0 c.P Q) Q)) : HC c d l L X (x.seq y) Q :=
 fun a w hf hs => wpIn_seq (h a w hf hs)
theorem VO : ∀ (n : Nat) {ks : List Nat} {l : Ko} {fs : List Fm} {p : Pt} {l' : Ko} {fs' : List Fm} {p' : Pt} {qs : List (Nat × Nat)},
  XS c.P L c.n n ks l fs p = some (l', fs', p', qs) → (∀ q ∈ qs, q.1 = q.2) → PtH c d l' L X fs' Q p' → PtH c d l L X fs Q p := by
 intro n
 induction n with
 | zero => intro ks l fs p l' fs' p' qs h _ hk; simp only [XS, Option.some.injEq, Prod.mk.injEq] at h; obtain ⟨rfl, rfl, rfl, _⟩ := h; exact hk
 | succ n ih =>
  intro ks l fs p l' fs' p' qs h hq hk
  cases p with
  | cd x =>
   simp only [XS] at h
   split at h
   exact Jr6 (ih h hq hk)
   exact wn (ih h hq hk)
   rename_i ops; obtain ⟨ops⟩ := ops; exact Ka (ih h hq hk)
   exact vC (ih h hq hk)
   exact Jlz (ih h hq hk)
   exact Jrx (ih h hq hk)
   split at h
   rename_i e; exact Jl0 e (ih h hq hk)
   rename_i e; exact Jl1 e (ih h hq hk)
   cases h
   cases h
  | ex e =>
   match fs, h with
   | [], h => simp only [XS] at h; cases h
   | .sq y :: fs, h =>
    simp only [XS] at h
    split at h
    have hy := ih (p := .cd y) h hq hk; exact hy
    exact Jb0 (ih h hq hk)
    exact Jb1 (ih h hq hk)
    cases h
   | .bl id :: fs, h =>
    simp only [XS] at h
    split at h
    exact Yp (ih h hq hk)
    exact Jjr (ih h hq hk)
    split at h
    rename_i e; have e := Nat.eq_of_beq_eq_true e; subst e; exact Jjs (ih h hq hk)
    rename_i e; exact Jfb e (ih h hq hk)
    cases h
   | .kk K :: fs, h =>
    simp only [XS] at h
    split at h
    exact Jb0 (ih h hq hk)
    exact Jb1 (ih h hq hk)
    cases h
  | op ops rest =>
   cases rest with
   | nil => simp only [XS] at h; exact KM (ih h hq hk)
   | cons o rest =>
    simp only [XS] at h
    split at h
    rename_i i v ks' q e
    split at h
    rename_i e2
    cases h
    exact jM e (fun p hp => hq p (List.mem_append_left _ hp)) (ih (p := .op ops rest) e2 (fun p hp => hq p (List.mem_append_right _ hp)) hk)
    cases h
    ·cases h
variable {l l' : Ko} {fs fs' : List Fm} {qs : List (Nat × Nat)} {x x' : Code} {e e' : Exit} {ops ops' : Array Oper} {rest rest' : List Oper} {K : Act → World → Prop}
theorem Gcc (n : Nat) (ks : List Nat) (h : XS c.P L c.n n ks l fs (.cd x) = some (l', fs', .cd x', qs)) (hq : qs.map Prod.fst = qs.map Prod.snd) (k : HC c d l' L X x' (QF c fs' Q)) : HC c d l L X x (QF c fs Q) := VO n h (YI hq) k
theorem QZ (n : Nat) (ks : List Nat) (h : XS c.P L c.n n ks l fs (.cd x) = some (l', fs', .op ops' rest', qs)) (hq : qs.map Prod.fst = qs.map Prod.snd) (k : HL c d l' L X ops' rest' (QF c fs' Q)) : HC c d l L X x (QF c fs Q) := VO n h (YI hq) k
theorem Gcq (n : Nat) (ks : List Nat) (h : XS c.P L c.n n ks l fs (.cd x) = some (l', fs', .ex e', qs)) (hq : qs.map Prod.fst = qs.map Prod.snd) (k : HQ c d l' L X (QF c fs' Q e')) : HC c d l L X x (QF c fs Q) := VO n h (YI hq) k
theorem Goc (n : Nat) (ks : List Nat) (h : XS c.P L c.n n ks l fs (.op ops rest) = some (l', fs', .cd x', qs)) (hq : qs.map Prod.fst = qs.map Prod.snd) (k : HC c d l' L X x' (QF c fs' Q)) : HL c d l L X ops rest (QF c fs Q) := VO (p := .op ops rest) n h (YI hq) k
theorem X6 (n : Nat) (ks : List Nat) (h : XS c.P L c.n n ks l fs (.op ops rest) = some (l', fs', .op ops' rest', qs)) (hq : qs.map Prod.fst = qs.map Prod.snd) (k : HL c d l' L X ops' rest' (QF c fs' Q)) : HL c d l L X ops rest (QF c fs Q) := VO (p := .op ops rest) n h (YI hq) k
theorem Goq (n : Nat) (ks : List Nat) (h : XS c.P L c.n n ks l fs (.op ops rest) = some (l', fs', .ex e', qs)) (hq : qs.map Prod.fst = qs.map Prod.snd) (k : HQ c d l' L X (QF c fs' Q e')) : HL c d l L X ops rest (QF c fs Q) := VO (p := .op ops rest) n h (YI hq) k
theorem Gqc (n : Nat) (ks : List Nat) (h : XS c.P L c.n n ks l fs (.ex e) = some (l', fs', .cd x', qs)) (hq : qs.map Prod.fst = qs.map Prod.snd) (k : HC c d l' L X x' (QF c fs' Q)) : HQ c d l L X (QF c fs Q e) := VO (p := .ex e) n h (YI hq) k
theorem cD {r s p : Prop} (a : r) (b : s) (k : r → s → p := by
 intro za zb
 refine JH rfl (fun g => ?_) (fun g => ?_) <;> try simp only [ZZ] at g
 ·revert g; exact za
 ·revert g; exact zb) : p := k a b
theorem JS (h : HC c d l L X x (QF c [] Q)) : HC c d l L X x Q := h
theorem inR (h : HC c d l L X x (QF c [.kk K] Q)) : HC c d l L X x (Exit.then K Q) := h
theorem inK (h : HC c d l L X x (QF c (.kk K :: fs) Q)) : HC c d l L X x (Exit.then K (QF c fs Q)) := h
theorem JE (n : Nat) (h : XS c.P L c.n n [] l fs (.cd x) = some (l', fs', .cd x', [])) (k : HC c d l' L X x' (QF c fs' Q)) : HC c d l L X x (QF c fs Q) := VO n h (fun _ h => nomatch h) k
theorem Jt (n : Nat) (h : XS c.P L c.n n [] l fs (.cd x) = some (l', fs', .op ops' rest', [])) (k : HL c d l' L X ops' rest' (QF c fs' Q)) : HC c d l L X x (QF c fs Q) := VO n h (fun _ h => nomatch h) k
theorem KK (n : Nat) (h : XS c.P L c.n n [] l fs (.cd x) = some (l', fs', .ex e', [])) (k : HQ c d l' L X (QF c fs' Q e')) : HC c d l L X x (QF c fs Q) := VO n h (fun _ h => nomatch h) k
theorem JQ (n : Nat) (h : XS c.P L c.n n [] l fs (.op ops rest) = some (l', fs', .cd x', [])) (k : HC c d l' L X x' (QF c fs' Q)) : HL c d l L X ops rest (QF c fs Q) := VO (p := .op ops rest) n h (fun _ h => nomatch h) k
theorem JK (n : Nat) (h : XS c.P L c.n n [] l fs (.op ops rest) = some (l', fs', .op ops' rest', [])) (k : HL c d l' L X ops' rest' (QF c fs' Q)) : HL c d l L X ops rest (QF c fs Q) := VO (p := .op ops rest) n h (fun _ h => nomatch h) k
theorem Jz (n : Nat) (h : XS c.P L c.n n [] l fs (.op ops rest) = some (l', fs', .ex e', [])) (k : HQ c d l' L X (QF c fs' Q e')) : HL c d l L X ops rest (QF c fs Q) := VO (p := .op ops rest) n h (fun _ h => nomatch h) k
theorem Zj (n : Nat) (h : XS c.P L c.n n [] l fs (.ex e) = some (l', fs', .cd x', [])) (k : HC c d l' L X x' (QF c fs' Q)) : HQ c d l L X (QF c fs Q e) := VO (p := .ex e) n h (fun _ h => nomatch h) k
theorem gqo (n : Nat) (h : XS c.P L c.n n [] l fs (.ex e) = some (l', fs', .op ops' rest', [])) (k : HL c d l' L X ops' rest' (QF c fs' Q)) : HQ c d l L X (QF c fs Q e) := VO (p := .ex e) n h (fun _ h => nomatch h) k
theorem Yh (n : Nat) (h : XS c.P L c.n n [] l fs (.ex e) = some (l', fs', .ex e', [])) (k : HQ c d l' L X (QF c fs' Q e')) : HQ c d l L X (QF c fs Q e) := VO (p := .ex e) n h (fun _ h => nomatch h) k
theorem Jy (I : σ → Prop) (lI : σ → Ko) (LI : σ → Jj) (XI : σ → XP) (μ : σ → Nat) (s0 : σ) (h0 : I s0) (hl : LookAll l (lI s0)) (hL : (LI s0).Sublist L) (hX : ∀ xs w, X xs w → XI s0 xs w)
  (hr : ∀ s, I s → HC c d (lI s) (LI s) (XI s) body (QF c (.kk (Jl8 c d I lI LI XI μ s) :: fs) Q)) : HC c d l L X (.loop body) (QF c fs Q) := Jr0 I lI LI XI μ s0 h0 hl hL hX hr
end
def uV (n : Nat) : Value := .int .u64 (n : Int)
def wV (l : List Nat) : Value := .agg (l.map uV).toArray
def WOk (l : List Nat) : Prop := l.length = 4 ∧ ∀ x ∈ l, x < 18446744073709551616
def dg (l : List Nat) (i : Nat) : Nat := l.getD (i / 8) 0 / 2 ^ (i % 8 * 8) % 256
theorem Jmo (l : List Nat) (i : Nat) : dg l i < 256 := Nat.mod_lt _ m7
theorem KW {l : List Nat} (h : j < l.length) : (l.map uV)[j]? = some (.int .u64 ((l.getD j 0 : Nat) : Int)) := by
 simp [h, uV, List.getD_eq_getElem?_getD]
theorem WOk.get {l : List Nat} (h : WOk l) (j : Nat) : l.getD j 0 < 18446744073709551616 := by
 by_cases hj : j < l.length
 ·have : l.getD j 0 ∈ l := by simp [List.getD_eq_getElem?_getD, hj]
  exact h.2 _ this
 ·simp [List.getD_eq_getElem?_getD, List.getElem?_eq_none (Nat.le_of_not_lt hj)]
def pw (f : Nat → Nat) (j : Nat) : Nat → Nat
 | 0 => 0
 | m + 1 => pw f j m + f (8 * j + m) * 2 ^ (m * 8)
theorem Jmp {f : Nat → Nat} (hf : ∀ i, f i < 256) (j : Nat) : ∀ m, pw f j m < 2 ^ (m * 8)
 | 0 => by simp [pw]
 | m + 1 => by
  have h1 := Jmp hf j m
  have h2 := hf (8 * j + m)
  have e : 2 ^ ((m + 1) * 8) = 256 * 2 ^ (m * 8) := by rw [Nat.add_mul, Nat.pow_add, Nat.mul_comm]
  rw [e]
  unfold pw
  have h3 : f (8 * j + m) * 2 ^ (m * 8) ≤ 255 * 2 ^ (m * 8) := Nat.mul_le_mul_right _ m0
  omega
def YJ (f : Nat → Nat) (i : Nat) : List Nat := [pw f 0 (min 8 i), pw f 1 (min 8 (i - 8)), pw f 2 (min 8 (i - 16)), pw f 3 (min 8 (i - 24))]
theorem Jhg (f : Nat → Nat) (h : i < 32) : (YJ f i).getD (i / 8) 0 = pw f (i / 8) (i % 8) := by
 have hq : i / 8 = 0 ∨ i / 8 = 1 ∨ i / 8 = 2 ∨ i / 8 = 3 := by omega
 rcases hq with e | e | e | e <;> rw [e] <;> simp only [YJ, List.getD_cons_zero, List.getD_cons_succ] <;> congr 1 <;> omega
theorem wA (f : Nat → Nat) (h : i < 32) : (YJ f i).set (i / 8) ((YJ f i).getD (i / 8) 0 + f i * 2 ^ (i % 8 * 8)) = YJ f (i + 1) := by
 rw [Jhg f h]
 have hq : i / 8 = 0 ∨ i / 8 = 1 ∨ i / 8 = 2 ∨ i / 8 = 3 := by omega
 have hst : pw f (i / 8) (i % 8) + f i * 2 ^ (i % 8 * 8) = pw f (i / 8) (i % 8 + 1) := by
  show _ = pw f (i / 8) (i % 8) + f (8 * (i / 8) + i % 8) * 2 ^ (i % 8 * 8)
  rw [Nat.div_add_mod]
 rw [hst]
 have keep : ∀ j a b, a = b → pw f j a = pw f j b := fun j a b e => by rw [e]
 rcases hq with e | e | e | e <;> rw [e] <;> simp only [YJ, List.set_cons_zero, List.set_cons_succ, List.cons.injEq, and_true] <;>
  refine ⟨keep _ _ _ m0, keep _ _ _ m0, keep _ _ _ m0, keep _ _ _ m0⟩
theorem jN (f : Nat → Nat) (i : Nat) : (YJ f i).length = 4 := rfl
theorem xN {f : Nat → Nat} (hf : ∀ i, f i < 256) (i : Nat) : WOk (YJ f i) := by
 refine ⟨rfl, fun x hx => ?_⟩
 have hb : ∀ j m, m ≤ 8 → pw f j m < 18446744073709551616 := fun j m hm =>
  Nat.lt_of_lt_of_le (Jmp hf j m) (show 2 ^ (m * 8) ≤ 2 ^ 64 from Nat.pow_le_pow_right m7 m0)
 simp only [YJ, List.mem_cons, List.not_mem_nil, or_false] at hx
 rcases hx with rfl | rfl | rfl | rfl <;> exact hb _ _ (Nat.min_le_left _ _)
theorem zt {f g : Nat → Nat} (h : ∀ i, i < 32 → f i = g i) : YJ f 32 = YJ g 32 := by
 have key : ∀ j, j < 4 → ∀ m, m ≤ 8 → pw f j m = pw g j m := by
  intro j hj m
  induction m with
  | zero => intro _; rfl
  | succ m ih =>
   intro hm
   simp only [pw]
   rw [ih m0, h (8 * j + m) m0]
 simp only [YJ]
 rw [key 0 m7 _ (Nat.min_le_left _ _), key 1 m7 _ (Nat.min_le_left _ _), key 2 m7 _ (Nat.min_le_left _ _), key 3 m7 _ (Nat.min_le_left _ _)]
def ZO (l : List Nat) : Nat → List UInt8
 | 0 => []
 | m + 1 => UInt8.ofNat (dg l m) :: ZO l m
theorem We (l : List Nat) : ∀ n, (ZO l n).length = n
 | 0 => rfl
 | n + 1 => by simp [ZO, We l n]
theorem xO (l : List Nat) : ∀ {n m : Nat}, m < n → (ZO l n)[m]? = some (UInt8.ofNat (dg l (n - 1 - m)))
 | 0, m, h => by omega
 | n + 1, 0, h => by simp [ZO]
 | n + 1, m + 1, h => by
  have := xO l (n := n) (m := m) m0
  simp only [ZO, List.getElem?_cons_succ, this]
  congr 3; omega
theorem Jr8 (z v : α) (t : List α) (m : Nat) : (List.replicate (m + 1) z ++ t).set m v = List.replicate m z ++ v :: t := by
 induction m with
 | zero => rfl
 | succ m ih => rw [List.replicate_succ, List.cons_append, List.set_cons_succ, ih]; rfl
theorem Jmq {a b n : Nat} (h : a < 2 ^ n) : a ||| b * 2 ^ n = a + b * 2 ^ n := by
 rw [Nat.or_comm, ← Nat.shiftLeft_eq, ← Nat.shiftLeft_add_eq_or_of_lt h, Nat.add_comm]
theorem vc {a n : Nat} (h : a < 256) (hn : n ≤ 56) : a * 2 ^ n < 18446744073709551616 := by
 have h1 : 2 ^ n ≤ 2 ^ 56 := Nat.pow_le_pow_right m7 hn
 have h2 : a * 2 ^ n ≤ 255 * 2 ^ 56 := Nat.mul_le_mul m0 h1
 exact Nat.lt_of_le_of_lt h2 m7
theorem Jwf {f : Nat → Nat} (hf : ∀ i, f i < 256) (h : i < 32) : (YJ f i).getD (i / 8) 0 + f i * 2 ^ (i % 8 * 8) < 18446744073709551616 := by
 have h1 := (xN hf (i + 1)).get (i / 8)
 rw [← wA f h] at h1
 have hl : i / 8 < (YJ f i).length := by rw [jN]; omega
 simpa [List.getD_eq_getElem?_getD, hl] using h1
theorem vK {a n : Nat} (h : a * 2 ^ n < 18446744073709551616) : IntKind.u64.wrap ((a : Int) * ((2 ^ n : Nat) : Int)) = ((a * 2 ^ n : Nat) : Int) := by
 rw [← Int.natCast_mul]; exact wrap_u64 m0 m0
theorem Jr9 {a b : Nat} (h : a + b < 18446744073709551616) : Value.int .u64 (IntKind.u64.wrap ((a : Int) + (b : Int))) = uV (a + b) := by
 rw [← Int.natCast_add, wrap_u64 m0 m0]; rfl
theorem V0 (a b : Nat) : Int.tmod (a : Int) (b : Int) = ((a % b : Nat) : Int) := rfl
theorem vL (a n : Nat) : (a : Int) / ((2 ^ n : Nat) : Int) = ((a / 2 ^ n : Nat) : Int) := rfl
def iV (n : Nat) : Value := .int .i64 (n : Int)
theorem Jcf {l : List Nat} (h : j < l.length) : (l.map iV)[j]? = some (.int .i64 ((l.getD j 0 : Nat) : Int)) := by
 simp [h, iV, List.getD_eq_getElem?_getD]
theorem Wr {l m : List Nat} {x : Nat} (h : l.set j x = m) : (l.map uV).set j (uV x) = m.map uV := by rw [← h, List.map_set]
theorem jO (q : Nat) : Value.int .u8 (IntKind.u8.wrap (q : Int)) = bV (UInt8.ofNat (q % 256)) := by
 rw [← Jha (Nat.mod_lt _ m7)]
 congr 1
def qB (s : List UInt8) : List Nat := YJ (fun t => (s.getD (31 - t) 0).toNat) 32
theorem QC (b : UInt8) : b.toNat < 256 := b.toNat_lt
theorem Jhh (s : List UInt8) : WOk (qB s) := xN (fun _ => QC _) 32
def zW : List Nat := [0, 0, 0, 0]
def Zk (s : List UInt8) : List Nat × Int := if s.length = 32 then (qB s, 0) else (zW, 2)
def Jmr (p : List Nat × Int) : Value := .tuple #[wV p.1, .int .i64 p.2]
def yY (s : List UInt8) (m : Nat) : List Nat := (List.range m).map fun t => (s.getD (31 - t) 0).toNat
theorem Jj0 (s : List UInt8) (m : Nat) : (yY s (m + 1)).map iV = (yY s m).map iV ++ [.int .i64 ((s.getD (31 - m) 0).toNat : Nat)] := by
 simp [yY, List.range_succ, iV]
theorem Jsa (s : List UInt8) (i : Nat) : (yY s 32).getD i 0 < 256 := by
 by_cases h : i < 32
 ·simp only [yY, List.getD_eq_getElem?_getD, List.getElem?_map, List.getElem?_range h, Option.map_some, Option.getD_some]
  exact QC _
 ·rw [List.getD_eq_getElem?_getD, List.getElem?_eq_none (by simp [yY]; omega)]
  decide
theorem Jms (s : List UInt8) : YJ (fun t => (yY s 32).getD t 0) 32 = qB s := zt fun i h => by
 simp only [yY, List.getD_eq_getElem?_getD, List.getElem?_map, List.getElem?_range h, Option.map_some, Option.getD_some]
def yZ (F G : Nat → Nat → Nat → Nat) (a b : List Nat) : Nat → List Nat × Nat
 | 0 => (zW, 0)
 | i + 1 => ((yZ F G a b i).1.set i (F (a.getD i 0) (b.getD i 0) (yZ F G a b i).2), G (a.getD i 0) (b.getD i 0) (yZ F G a b i).2)
theorem ZP (F G : Nat → Nat → Nat → Nat) (a b : List Nat) : ∀ i, (yZ F G a b i).1.length = 4
 | 0 => rfl
 | i + 1 => by simp [yZ, ZP F G a b i]
def crR (F G : Nat → Nat → Nat → Nat) (a b : List Nat) : List Nat × Int := if (yZ F G a b 4).2 = 0 then ((yZ F G a b 4).1, 0) else (zW, 6)
structure Car (P : Program) (g : FuncId) (F G : Nat → Nat → Nat → Nat) : Prop where
  run : ∀ x y c w, c ≤ 1 → (callFunc g [uV x, uV y, uV c].toArray).run P w = .ok (.value (.tuple #[uV (F x y c), uV (G x y c)])) w
  lt : ∀ x y c, F x y c < 18446744073709551616
  le : ∀ x y c, x < 18446744073709551616 → y < 18446744073709551616 → c ≤ 1 → G x y c ≤ 1
theorem Jmt {P : Program} {g : FuncId} {F G : Nat → Nat → Nat → Nat} (C : Car P g F G) {a b : List Nat} (ha : WOk a) (hb : WOk b) : ∀ i, WOk (yZ F G a b i).1 ∧ (yZ F G a b i).2 ≤ 1
 | 0 => ⟨⟨rfl, by simp [yZ, zW]⟩, by simp [yZ]⟩
 | i + 1 => by
  obtain ⟨⟨h1, h2⟩, h3⟩ := Jmt C ha hb i
  refine ⟨⟨ZP F G a b _, fun x hx => ?_⟩, C.le _ _ _ (ha.get i) (hb.get i) h3⟩
  rcases List.mem_or_eq_of_mem_set hx with h | h
  ·exact h2 x h
  ·rw [h]; exact C.lt _ _ _
theorem ZQ (h : P.underlying e = some (.int .u64)) (l : List Nat) : (l.map uV).all (Wq P e) = true := by
 simp [List.all_map, List.all_eq_true, uV, Wq, h]
theorem vM : ∀ {a b : List Nat}, a.length = b.length → Vr (a.map uV) (b.map uV) = decide (a = b)
 | [], [], _ => by simp [Vr]
 | x :: a, y :: b, h => by
  have ih := vM (a := a) (b := b) nb
  simp only [List.map_cons, Vr, ih, uV, eqS]
  by_cases h1 : x = y <;> by_cases h2 : a = b <;> simp [h1, h2]
  all_goals omega
def wN (l : List Nat) : Nat := l.getD 0 0 + 18446744073709551616 * (l.getD 1 0 + 18446744073709551616 * (l.getD 2 0 + 18446744073709551616 * l.getD 3 0))
theorem WOk.four {l : List Nat} (h : WOk l) : ∃ a b c d, l = [a, b, c, d] ∧ a < 18446744073709551616 ∧ b < 18446744073709551616 ∧ c < 18446744073709551616 ∧ d < 18446744073709551616 := by
 obtain ⟨h1, h2⟩ := h
 match l, h1 with
 | [a, b, c, d], _ => exact ⟨a, b, c, d, rfl, h2 a mf, h2 b mf, h2 c mf, h2 d mf⟩
theorem Jva {l : List Nat} (h : WOk l) : wN l < 115792089237316195423570985008687907853269984665640564039457584007913129639936 := by
 obtain ⟨a, b, c, d, rfl, h1, h2, h3, h4⟩ := h.four
 simp only [wN, List.getD_cons_zero, List.getD_cons_succ]
 omega
theorem Jmu {l m : List Nat} (h : WOk l) (k : WOk m) (e : wN l = wN m) : l = m := by
 obtain ⟨a, b, c, d, rfl, h1, h2, h3, h4⟩ := h.four
 obtain ⟨a', b', c', d', rfl, k1, k2, k3, k4⟩ := k.four
 simp only [wN, List.getD_cons_zero, List.getD_cons_succ] at e
 have e1 : a = a' := by omega
 have e2 : b = b' := by omega
 have e3 : c = c' := by omega
 have e4 : d = d' := by omega
 rw [e1, e2, e3, e4]
def sm (f : Nat → Nat) : Nat → Nat
 | 0 => 0
 | i + 1 => sm f i + f i * 2 ^ (8 * i)
theorem Jmv {f : Nat → Nat} (hf : ∀ i, f i < 256) : ∀ i, sm f i < 2 ^ (8 * i)
 | 0 => by simp [sm]
 | i + 1 => by
  have h1 := Jmv hf i
  have e : 2 ^ (8 * (i + 1)) = 256 * 2 ^ (8 * i) := by rw [Nat.mul_add, Nat.pow_add, Nat.mul_comm]
  have h3 : f i * 2 ^ (8 * i) ≤ 255 * 2 ^ (8 * i) := Nat.mul_le_mul_right _ (by have := hf i; omega)
  rw [e]; unfold sm; omega
theorem Jvb (f : Nat → Nat) : wN (YJ f 32) = sm f 32 := by
 simp only [YJ, wN, List.getD_cons_zero, List.getD_cons_succ, sm, pw, Nat.min_def, Nat.reduceSub, Nat.reduceLeDiff, if_true, Nat.reduceAdd, Nat.reduceMul, Nat.reducePow, Nat.le_refl]
 omega
theorem Jzy {x : Nat} (h : x < 18446744073709551616) : x / 1 % 256 * 1 + x / 256 % 256 * 256 + x / 65536 % 256 * 65536 + x / 16777216 % 256 * 16777216 + x / 4294967296 % 256 * 4294967296 + x / 1099511627776 % 256 * 1099511627776 + x / 281474976710656 % 256 * 281474976710656 + x / 72057594037927936 % 256 * 72057594037927936 = x := by omega
theorem Jcg {l : List Nat} (h : WOk l) (hj : j < 4) : pw (dg l) j 8 = l.getD j 0 := by
 have hx := Jzy (h.get j)
 simp only [pw, dg]
 have e : ∀ u, u < 8 → (8 * j + u) / 8 = j ∧ (8 * j + u) % 8 = u := fun u hu => ⟨by omega, by omega⟩
 rw [(e 0 m7).1, (e 0 m7).2, (e 1 m7).1, (e 1 m7).2, (e 2 m7).1, (e 2 m7).2, (e 3 m7).1, (e 3 m7).2, (e 4 m7).1, (e 4 m7).2, (e 5 m7).1, (e 5 m7).2, (e 6 m7).1, (e 6 m7).2, (e 7 m7).1, (e 7 m7).2]
 simp only [Nat.reduceMul, Nat.reducePow, Nat.zero_add]
 exact hx
theorem Jvc {l : List Nat} (h : WOk l) : YJ (dg l) 32 = l := by
 obtain ⟨a, b, c, d, rfl, h1, h2, h3, h4⟩ := h.four
 have e : YJ (dg [a, b, c, d]) 32 = [pw (dg [a, b, c, d]) 0 8, pw (dg [a, b, c, d]) 1 8, pw (dg [a, b, c, d]) 2 8, pw (dg [a, b, c, d]) 3 8] := rfl
 rw [e, Jcg h m7, Jcg h m7, Jcg h m7, Jcg h m7]
 rfl
def jP (x y c : Nat) : Nat := (x + 18446744073709551616 - y - c) % 18446744073709551616
def ji (x y c : Nat) : Nat := if x < y + c then 1 else 0
def ze (a b : List Nat) : List Nat × Int := crR jP ji a b
theorem xP {F G : Nat → Nat → Nat → Nat} {a b : List Nat} : (crR F G a b).1.length = 4 := by
 unfold crR; split
 ·exact ZP _ _ _ _ _
 ·rfl
theorem Zl (l : List Nat) : (l.map uV).all QW = true := by simp [uV, QW, List.all_map, List.all_eq_true]
theorem xQ (x y c : Nat) : ji x y c ≤ 1 := by unfold ji; split <;> omega
theorem vN {x y c : Nat} (hx : x < 18446744073709551616) (hy : y < 18446744073709551616) (hc : c ≤ 1) : jP x y c + y + c = x + 18446744073709551616 * ji x y c ∧ jP x y c < 18446744073709551616 := by
 unfold jP ji
 split <;> omega
theorem Jmw {a b : List Nat} (ha : WOk a) (hb : WOk b) : wN (yZ jP ji a b 4).1 + wN b = wN a + (yZ jP ji a b 4).2 * 115792089237316195423570985008687907853269984665640564039457584007913129639936 := by
 obtain ⟨a0, a1, a2, a3, rfl, h1, h2, h3, h4⟩ := ha.four
 obtain ⟨b0, b1, b2, b3, rfl, k1, k2, k3, k4⟩ := hb.four
 simp only [yZ, zW, List.set_cons_zero, List.set_cons_succ, wN, List.getD_cons_zero, List.getD_cons_succ]
 have e0 := vN h1 k1 (c := 0) m0
 have c0 := xQ a0 b0 0
 generalize jP a0 b0 0 = r0 at *
 generalize ji a0 b0 0 = g0 at *
 have e1 := vN h2 k2 (c := g0) c0
 have c1 := xQ a1 b1 g0
 generalize jP a1 b1 g0 = r1 at *
 generalize ji a1 b1 g0 = g1 at *
 have e2 := vN h3 k3 (c := g1) c1
 have c2 := xQ a2 b2 g1
 generalize jP a2 b2 g1 = r2 at *
 generalize ji a2 b2 g1 = g2 at *
 have e3 := vN h4 k4 (c := g2) c2
 generalize jP a3 b3 g2 = r3 at *
 generalize ji a3 b3 g2 = g3 at *
 omega
theorem Jhi {F G : Nat → Nat → Nat → Nat} (hF : ∀ x y c, F x y c < 18446744073709551616) (a b : List Nat) : ∀ i, WOk (yZ F G a b i).1
 | 0 => ⟨rfl, by simp [yZ, zW]⟩
 | i + 1 => ⟨ZP F G a b _, fun x hx => by
  rcases List.mem_or_eq_of_mem_set hx with h | h
  ·exact (Jhi hF a b i).2 x h
  ·rw [h]; exact hF _ _ _⟩
theorem Jyl : WOk zW := ⟨rfl, by simp [zW]⟩
theorem Jj1 {a b : List Nat} (ha : WOk a) (hb : WOk b) : if wN b ≤ wN a then (ze a b).2 = 0 ∧ wN (ze a b).1 + wN b = wN a else ze a b = (zW, 6) := by
 have h := Jmw ha hb
 have hlt := Jva (Jhi (G := ji) (F := jP) (fun _ _ _ => Nat.mod_lt _ m7) a b 4)
 have hb1 := Jva hb
 unfold ze crR
 split
 ·rename_i hs
  have hc : (yZ jP ji a b 4).2 = 0 := by omega
  rw [if_pos hc]
  rw [hc] at h
  exact ⟨rfl, by simpa using h⟩
 ·rename_i hs
  have hc : (yZ jP ji a b 4).2 ≠ 0 := fun hc => by rw [hc] at h; omega
  rw [if_neg hc]
def zu (a b : List Nat) : Bool := !decide (a = b) && ((ze a b).2 != 0)
theorem Jmx {a b : List Nat} (ha : WOk a) (hb : WOk b) : zu a b = decide (wN a < wN b) := by
 have h := Jj1 ha hb
 unfold zu
 by_cases hab : a = b
 ·subst hab; simp
 ·split at h
  ·rename_i hle
   rw [h.1]
   have : ¬ wN a < wN b := by omega
   simp [this]
  ·rename_i hle
   rw [h]
   have : wN a < wN b := by omega
   simp [this, hab]
def X7 (l : List Nat) : Bool := decide (l = [l.getD 0 0, 0, 0, 0])
def wB (l : List Nat) : Value := .tuple #[uV (if X7 l then l.getD 0 0 else 0), .bool (X7 l)]
open Go Go.ChangeShapes Go.WideShapes Go.RowKit
open Go
theorem vb {a : Bool} (h : a = b) : Value.bool a = Value.bool b := by rw [h]
theorem Jzz {x y : Int} (h : x = y) : (x == y) = true := by simpa using h
theorem Jz0 {x y : Int} (h : ¬ x = y) : (x == y) = false := by simpa using h
def jQ (n : Nat) : Nat → List UInt8
 | 0 => []
 | w + 1 => UInt8.ofNat (n % 256) :: jQ (n / 256) w
def V4 : List UInt8 → Nat
 | [] => 0
 | b :: s => b.toNat + 256 * V4 s
theorem Wf : ∀ (w n : Nat), (jQ n w).length = w
 | 0, _ => rfl
 | w + 1, n => by simp [jQ, Wf w]
theorem xR : ∀ s : List UInt8, V4 s < 256 ^ s.length
 | [] => by simp [V4]
 | b :: s => by
  have h1 := xR s
  have h2 := b.toNat_lt
  simp only [V4, List.length_cons, Nat.pow_succ]; omega
theorem Jhj : ∀ s : List UInt8, jQ (V4 s) s.length = s
 | [] => rfl
 | b :: s => by
  have h2 := b.toNat_lt
  have e1 : (b.toNat + 256 * V4 s) % 256 = b.toNat := by omega
  have e2 : (b.toNat + 256 * V4 s) / 256 = V4 s := by omega
  simp only [V4, List.length_cons, jQ, e1, e2, Jhj s, UInt8.ofNat_toNat]
theorem Jch : ∀ (s : List UInt8) (b : UInt8), V4 (s ++ [b]) = V4 s + b.toNat * 256 ^ s.length
 | [], b => by simp [V4]
 | a :: s, b => by simp only [List.cons_append, V4, Jch s b, List.length_cons, Nat.pow_succ]; rw [Nat.mul_add, ← Nat.mul_assoc, ← Nat.mul_assoc, Nat.mul_comm 256 b.toNat, Nat.mul_assoc, Nat.mul_comm 256 (256 ^ s.length), Nat.mul_assoc]; omega
theorem Jci : ∀ (w n : Nat), jQ n (w + 1) = jQ n w ++ [UInt8.ofNat (n / 256 ^ w % 256)]
 | 0, n => by simp [jQ]
 | w + 1, n => by
  rw [jQ, Jci w (n / 256), jQ, List.cons_append, Nat.pow_succ, Nat.mul_comm, Nat.div_div_eq_div_mul]
section
variable {c : Cx} {l : Ko} {L : Jj} {X : XP} {d : List Deferred}
variable {i : Nat} {v : Value} {t : TypeId} {ps : String} {af : Array Edge} {gd : Option (Nat × Bool)} {ty t2 : TypeId}
theorem Jmy {k k' : IntKind} {a b r : Int} {ats : Array TypeId} (hx : Kh l x = some (.int k a)) (hy : Kh l y = some (.int k' b)) (hr : (if b < a then b else a) = r) :
  J9 c d l L X ⟨some i, .call ⟨.builtin .min, #[x, y], ats⟩, ty, ps, af, gd⟩ (.int k r) := fun a' w hf _ => by
 subst hr
 simp only [execOp, Sem.run_bind, resolve]
 have h1 := hf.eval hx
 have h2 := hf.eval hy
 have h3 := run_min_int2 (P := c.P) (w := w) ats ty k k' a b
 simp [h1, h2, invoke, builtin, Result.andThen, h3]
theorem vO  {n : Nat} {f : Nat → Nat → Nat} {b : Int} (hf : xE op = some f) (hx : Kh l x = some (.int .u8 (m : Int))) (hy : Kh l y = some (.int .u8 (n : Int))) (hm : m < 256) (hn : n < 256) (hb : ((f m n : Nat) : Int) = b) :
  J9 c d l L X ⟨some i, .binOp op t x y t2, ty, ps, af, gd⟩ (.int .u8 b) := fun a' w hfr _ => by
 subst hb
 have e1 : (BitVec.ofInt 8 (m : Int)).toNat = m := by simp [BitVec.toNat_ofInt]; omega
 have e2 : (BitVec.ofInt 8 (n : Int)).toNat = n := by simp [BitVec.toNat_ofInt]; omega
 have hm' : m < 2 ^ 8 := hm
 have hn' : n < 2 ^ 8 := hn
 have wr : ∀ q : Nat, q < 2 ^ 8 → IntKind.u8.wrap (q : Int) = q := fun q hq => xA m0 m0
 simp only [execOp]
 rw [hfr.eval hx, hfr.eval hy]
 cases op <;> simp only [xE, Option.some.injEq, reduceCtorEq] at hf
 all_goals subst hf
 ·have := wr (m &&& n) (Nat.lt_of_le_of_lt Nat.and_le_left hm')
  have e3 : (BitVec.ofInt 8 (m : Int) &&& BitVec.ofInt 8 (n : Int)).toNat = m &&& n := by rw [BitVec.toNat_and, e1, e2]
  show Sem.run c.P (pure (Next.value (Value.int .u8 (IntKind.u8.wrap (((BitVec.ofInt 8 (m : Int) &&& BitVec.ofInt 8 (n : Int)).toNat : Nat) : Int))))) w = _
  rw [e3, this]; rfl
 ·have := wr (m ||| n) (Nat.or_lt_two_pow hm' hn')
  have e3 : (BitVec.ofInt 8 (m : Int) ||| BitVec.ofInt 8 (n : Int)).toNat = m ||| n := by rw [BitVec.toNat_or, e1, e2]
  show Sem.run c.P (pure (Next.value (Value.int .u8 (IntKind.u8.wrap (((BitVec.ofInt 8 (m : Int) ||| BitVec.ofInt 8 (n : Int)).toNat : Nat) : Int))))) w = _
  rw [e3, this]; rfl
 ·have := wr (m ^^^ n) (Nat.xor_lt_two_pow hm' hn')
  have e3 : (BitVec.ofInt 8 (m : Int) ^^^ BitVec.ofInt 8 (n : Int)).toNat = m ^^^ n := by rw [BitVec.toNat_xor, e1, e2]
  show Sem.run c.P (pure (Next.value (Value.int .u8 (IntKind.u8.wrap (((BitVec.ofInt 8 (m : Int) ^^^ BitVec.ofInt 8 (n : Int)).toNat : Nat) : Int))))) w = _
  rw [e3, this]; rfl
end
theorem Jym (m : Nat) : IntKind.u64.wrap (m : Int) = ((m % 18446744073709551616 : Nat) : Int) := by
 have h : IntKind.u64.wrap (m : Int) = (m : Int) % 18446744073709551616 := by rw [IntKind.wrap_u64]
 rw [h]; rfl
structure PureM (P : Program) (f : FuncId) (args : Array Value) (v : Value) (r : Nat) (o o' : Obj) : Prop where
  run : ∀ w, w.heap[r]? = some o → Calls P f args w fun e w' => e = .returned v ∧ Keep [r] w w' ∧ w'.heap[r]? = some o'
def cxM (P : Program) (w : World) (r n : Nat) : Cx := ⟨P, none, w, [r], [], [], n⟩
theorem St.startM  {n : Nat} {o : Obj} (h : w.heap[r]? = some o) : St (cxM P w r n) [(r, o)] (fun _ _ => True) w :=
 ⟨Keep.refl _ _, fun p hp => by rw [List.mem_singleton.1 hp]; exact ⟨.inl List.mem_cons_self, by simp [cxM], h⟩, List.pairwise_singleton _ _, by simp [cxM], by simp [cxM], ⟨[], by simp, fun _ _ => trivial⟩⟩
theorem vd {f : FuncId} {o : Obj} (hf : P.funcs[f]? = some fn) (hb : fn.body = some code) (hlen : Nat.ble vs.length fn.ntmps = true)
  (h : ∀ w, HC (cxM P w r fn.ntmps) [] (Vo 0 vs) [(r, o)] (fun _ _ => True) code (bodyPostM (FW none) 0 P fn (fun e w' => e = .returned v ∧ ∃ L, (r, o') ∈ L ∧ St (cxM P w r fn.ntmps) L (fun _ _ => True) w'))) : PureM P f vs.toArray v r o o' := ⟨fun w hr =>
 (QI (cxM P w r fn.ntmps) hf hb rfl rfl rfl hlen (St.startM hr) (h w)).mono fun _ _ ⟨he, L, hm, hs⟩ => ⟨he, by have := hs.keep; simpa [cxM] using this, (hs.own _ hm).2.2⟩⟩
section
variable {c : Cx} {l : Ko} {L : Jj} {X : XP} {Q : Exit → Act → World → Prop} {d : List Deferred}
variable {ops : Array Oper} {rest : List Oper} {i : Nat} {v : Value} {t : TypeId} {ps : String} {af : Array Edge} {gd : Option (Nat × Bool)} {ty t2 : TypeId}
theorem Jcj {k : Nat} {o : Obj}
  (hg : Kp l ops ⟨some i, .call ⟨.value f, args, at_⟩, ty, ps, af, gd⟩ = some true) (hi : Nat.ble (i + 1) c.n = true) (hca : KD l f args = some (g, vs)) (eg : Enters c.P g) (hk : L[k]? = some (r, o))
  (hp : PureM c.P g vs.toArray v r o o') (hL : L.set k (r, o') = L') (h : HL c d ((i, v) :: l) L' X ops rest Q) : HL c d l L X ops (⟨some i, .call ⟨.value f, args, at_⟩, ty, ps, af, gd⟩ :: rest) Q :=
 Yq (α := Unit) (V := fun _ => v) (L' := fun _ => L') (X' := fun _ => X) hg hi hca eg (fun w hs => (hp.run w (hs.get hk)).mono fun _ _ ⟨he, hkp, ho⟩ => ⟨(), he, hL ▸ hs.set hk hkp ho⟩) (fun _ => h)
theorem Jsb (hx : Kh l x = some (.int .u64 (m : Int))) (hm : m < 18446744073709551616) :
  J9 c d l L X ⟨some i, .unOp .xor t x, ty, ps, af, gd⟩ (.int .u64 ((18446744073709551615 ^^^ m : Nat) : Int)) := fun a' w hfr _ => by
 have e1 : (BitVec.ofInt 64 (m : Int)).toNat = m := by simp [BitVec.toNat_ofInt]; omega
 have e2 : (BitVec.ofInt 64 (IntKind.u64.max)).toNat = 18446744073709551615 := by decide
 have hx' : 18446744073709551615 ^^^ m < 2 ^ 64 := Nat.xor_lt_two_pow m7 hm
 have e3 : (BitVec.ofInt 64 (IntKind.u64.max) ^^^ BitVec.ofInt 64 (m : Int)).toNat = 18446744073709551615 ^^^ m := by rw [BitVec.toNat_xor, e1, e2]
 have e4 : IntKind.u64.wrap ((18446744073709551615 ^^^ m : Nat) : Int) = ((18446744073709551615 ^^^ m : Nat) : Int) := wrap_u64 m0 m0
 simp only [execOp]
 rw [hfr.eval hx]
 show Sem.run c.P (pure (Next.value (Value.int .u64 (IntKind.u64.wrap (((BitVec.ofInt 64 (IntKind.u64.max) ^^^ BitVec.ofInt 64 (m : Int)).toNat : Nat) : Int))))) w = _
 rw [e3, e4]; rfl
theorem Jck (a : List UInt8) (cap : Nat) : bytesRow (bs a) cap = (a.map bV ++ List.replicate (cap - a.length) (Value.int .u8 0)).toArray := by
 simp only [bytesRow, YF]
 apply Array.toList_inj.1
 simp [bs, bV]
theorem XU {a : List UInt8} {dst : TypeId} (hg : Kp l ops ⟨some i, .convert src dst x, ty, ps, af, gd⟩ = some true) (hi : Nat.ble (i + 1) c.n = true) (hx : Kh l x = some (.string (bs a)))
  (hs : wt c.P src = true) (hd : Ks c.P dst = some e) (he : c.P.underlying e = some (.int .u8))
  (h : ∀ r k, HL c d ((i, .slice (some ⟨r, 0, none⟩) a.length (a.length + k)) :: l) ((r, .cells (a.map bV ++ List.replicate k (Value.int .u8 0)).toArray e (a.length + k, a.length + k + 1)) :: L) X ops rest Q) : HL c d l L X ops (⟨some i, .convert src dst x, ty, ps, af, gd⟩ :: rest) Q :=
 Wo (α := Nat × Nat) (V := fun p => .slice (some ⟨p.1, 0, none⟩) a.length (a.length + p.2)) (L' := fun p => (p.1, .cells (a.map bV ++ List.replicate p.2 (Value.int .u8 0)).toArray e (a.length + p.2, a.length + p.2 + 1)) :: L) (X' := fun _ => X) hg rfl rfl hi (fun aa w hf hst => by
  have hr := Go.run_bytes_of_string (P := c.P) w src dst e (bs a) (Vq hs) (Ki hd) he
  have hge := grownCap_ge w (bs a).size 0 e
  rw [Jck] at hr
  rw [YF] at hr hge
  obtain ⟨k, hk⟩ : ∃ k, grownCap w a.length 0 e = a.length + k := ⟨grownCap w a.length 0 e - a.length, by omega⟩
  rw [hk, show a.length + k - a.length = k from by omega] at hr
  have hsz : (a.map bV ++ List.replicate k (Value.int .u8 0)).toArray.size = a.length + k := by simp
  rw [hsz] at hr
  refine ⟨(w.heap.size, k), _, ?_, hst.drew.alloc _⟩
  simp only [execOp]
  rw [hf.eval hx]
  simp [Sem.run_bind, hr, Result.andThen]) (fun p => h p.1 p.2)
def Jhk (l : Ko) : Option Operand → Option Nat → Prop
 | none, none => True
 | some x, some n => ∃ k, Kh l x = some (.int k (n : Int))
 | _, _ => False
theorem JT {lo hi mx : Option Operand} {kl kh km : Option Nat} {n e z : Nat} (hx : Kh l x = some (.slice (some ⟨r, off, none⟩) n cap)) (ht : Ks c.P t = some e) (hsz : KQ c.P e = some sz)
  (hl : Jhk l lo kl) (hh : Jhk l hi kh) (hm : Jhk l mx km) (e1 : kl.getD 0 = m) (e2 : kh.getD n = q) (e3 : km.getD cap = z) (h1 : m ≤ q) (h2 : q ≤ z) (h3 : z ≤ cap) (h4 : kh = none → km = none) (ho : (if z = m then off else off + m * sz) = off') :
  J9 c d l L X ⟨some i, .slice t x lo hi mx, ty, ps, af, gd⟩ (.slice (some ⟨r, off', none⟩) (q - m) (z - m)) := fun a' w hf _ => by
 have ex := hf.eval hx
 subst e1 e2 e3 ho
 have low : ∀ {o : Option Operand} {k : Option Nat}, Jhk l o k → (o.map a'.eval = none ∧ k = none) ∨ (∃ y n, o.map a'.eval = some (.int y ((n : Nat) : Int)) ∧ k = some n) := by
  intro o k h
  cases o with
  | none => cases k with
   | none => exact .inl ⟨rfl, rfl⟩
   | some k => exact h.elim
  | some o => cases k with
   | none => exact h.elim
   | some k => obtain ⟨y, hy⟩ := h; exact .inr ⟨y, k, by simp [hf.eval hy], rfl⟩
 simp only [execOp, ex]
 have hadd : ∀ k : Nat, Addr.add ⟨r, off, none⟩ k = ⟨r, off + k, none⟩ := fun k => Zg r off k
 rcases low hl with ⟨f1, rfl⟩ | ⟨y1, n1, f1, rfl⟩ <;> rcases low hh with ⟨f2, rfl⟩ | ⟨y2, n2, f2, rfl⟩ <;> rcases low hm with ⟨f3, rfl⟩ | ⟨y3, n3, f3, rfl⟩ <;> simp only [Option.getD_none, Option.getD_some] at h1 h2 h3 ⊢ <;>
  (try (have := h4 rfl; cases this)) <;> rw [f1, f2, f3] <;>
  simp [Instr.sliceAt, Instr.slice, Sem.run_bind, Qk (Ki ht), V8 hsz, Result.andThen, Instr.sliceBounds, Instr.sliceBound, asIntOf, h1, h2, h3, hadd]
 all_goals split <;> simp_all
end
end Go.SL
