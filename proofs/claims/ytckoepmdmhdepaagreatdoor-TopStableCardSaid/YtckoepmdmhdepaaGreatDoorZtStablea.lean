import Derived.Test.YtckoepmdmhdepaaGreatDoorZtStablem
set_option maxRecDepth 100000
namespace Go.SL
set_option linter.all false
open Go.RowKit Go.Shelf
open Go.Proofs (Enters enters_of)
variable {a a' : Act} {K' : Act → World → Prop} {af : Array Edge} {fs : Array Field} {es : Array MapEntry} {ops : Array Oper} {args : Array Operand} {at_ : Array TypeId} {cs cs' cs2 : Array Value} {op : BinOp} {assign body code : Code} {τ : Type} {E : Code → τ → Prop} {R : Ending → World → Prop} {Q Q' : Exit → Act → World → Prop} {fn : Func} {g gf : FuncId} {z : Int} {pa : List (Nat × Operand)} {d : List Deferred} {ids pp : List Nat} {rest tail : List Oper} {ch : List PanicEntry} {rs : List ResultVar} {caps news vs ys zs : List Value} {cap clock fuel i id j m off off' q r sz : Nat} {fr fr2 : Nat × Nat} {ob : Obj} {o oi : Oper} {f x y : Operand} {gd : Option (Nat × Bool)} {dst ro : Option Nat} {P : Program} {ps : String} {α ι σ : Type} {e kt src t tt ty : TypeId} {v v' : Value} {dom : Value → Prop} {eq : Value → Value → Bool} {w w' : World} {x0 : α} {V : α → Value} {p0 : ι} {ca : ι → FuncId → List Value → Prop} {nx : ι → List Value → ι → Prop} {dead fi : ι → Prop} {re : ι → Value → ι → Prop} {I : σ → Prop}
abbrev J3 := List (Nat × Obj)
variable {A B E' L L' L0 R' Rl : J3} {K : J3 → Act → Prop} {T : J3 → Array Bool → Act → Prop} {LL : α → J3} {LI : σ → J3}
abbrev KY := List (Nat × Value)
variable {parts : KY}
theorem Z1 {p : Prop} [Decidable p] : (decide p = true) = p := decide_eq_true_eq
theorem Z2 {p : Prop} [Decidable p] : (decide p = false) ↔ ¬ p := decide_eq_false_iff_not
theorem Z3 [BEq α] [LawfulBEq α] {a b : α} : (a == b) = true ↔ a = b := beq_iff_eq
theorem Z4 [BEq α] [LawfulBEq α] {a b : α} : (a == b) = false ↔ a ≠ b := beq_eq_false_iff_ne
theorem Z5 [BEq α] [LawfulBEq α] {a b : α} : (a != b) = true ↔ a ≠ b := bne_iff_ne
theorem Z6 [BEq α] [LawfulBEq α] {a b : α} : (a != b) = false ↔ a = b := bne_eq_false_iff_eq
theorem Z7 {b : Bool} : ((!b) = true) = (b = false) := Bool.not_eq_true' b
theorem Z8 {b : Bool} : ((!b) = false) = (b = true) := Bool.not_eq_false' b
theorem Z9 {α : Sort _} {a b : α} : (a ≠ b) = ¬ (a = b) := ne_eq a b
theorem Z10 {a b : Int} : ¬ (a < b) ↔ b ≤ a := Int.not_lt
theorem Z11 {a b : Int} : ¬ (a ≤ b) ↔ b < a := Int.not_le
theorem Z12 [LE α] {a b : α} : (a ≥ b) ↔ (b ≤ a) := ge_iff_le
theorem Z13 [LT α] {a b : α} : (a > b) ↔ (b < a) := gt_iff_lt
theorem ZZ : (∀ {p : Prop} [Decidable p], (decide p = true) = p) ∧ (∀ {p : Prop} [Decidable p], (decide p = false) ↔ ¬ p) ∧ (∀ {α : Type} [BEq α] [LawfulBEq α] {a b : α}, (a == b) = true ↔ a = b) ∧ (∀ {α : Type} [BEq α] [LawfulBEq α] {a b : α}, (a == b) = false ↔ a ≠ b) ∧ (∀ {α : Type} [BEq α] [LawfulBEq α] {a b : α}, (a != b) = true ↔ a ≠ b) ∧ (∀ {α : Type} [BEq α] [LawfulBEq α] {a b : α}, (a != b) = false ↔ a = b) ∧ (∀ {b : Bool}, ((!b) = true) = (b = false)) ∧ (∀ {b : Bool}, ((!b) = false) = (b = true)) ∧ (∀ {α : Type} {a b : α}, (a ≠ b) = ¬ (a = b)) ∧ (∀ {a b : Int}, ¬ (a < b) ↔ b ≤ a) ∧ (∀ {a b : Int}, ¬ (a ≤ b) ↔ b < a) ∧ (∀ {α : Type} [LE α] {a b : α}, (a ≥ b) ↔ (b ≤ a)) ∧ (∀ {α : Type} [LT α] {a b : α}, (a > b) ↔ (b < a)) := ⟨Z1, Z2, Z3, Z4, Z5, Z6, Z7, Z8, Z9, Z10, Z11, Z12, Z13⟩
structure Keep (ids : List Nat) (w w' : World) : Prop where
  os : w'.os = w.os
  tape : w'.tape = w.tape
  output : w'.output = w.output
  size : w.heap.size ≤ w'.heap.size
  block : ∀ k, k < w.heap.size → k ∉ ids → w'.heap[k]? = w.heap[k]?
theorem Keep.refl (ids : List Nat) (w : World) : Keep ids w w := ⟨rfl, rfl, rfl, Lc', fun _ _ _ => rfl⟩
theorem Keep.trans {a b c : World} (h : Keep ids a b) (k : Keep ids b c) : Keep ids a c :=
 ⟨k.os.trans h.os, k.tape.trans h.tape, k.output.trans h.output, Lb' h.size k.size, fun i hi hn => (k.block i (Nat.lt_of_lt_of_le hi h.size) hn).trans (h.block i hi hn)⟩
theorem Keep.mono {ids' : List Nat} {a b : World} (h : Keep ids a b) (hs : ∀ k ∈ ids, k ∈ ids' ∨ a.heap.size ≤ k) : Keep ids' a b :=
 ⟨h.os, h.tape, h.output, h.size, fun k hk hn => h.block k hk fun hm => (hs k hm).elim hn m3⟩
theorem Keep.weak {ids' : List Nat} {a b : World} (h : Keep ids a b) (hs : ∀ k ∈ ids, k ∈ ids') : Keep ids' a b := h.mono fun k hk => .inl (hs k hk)
theorem Keep.nil {a b : World} (h : Keep [] a b) : Keep ids a b := h.mono mf
theorem Keep.drew : Keep [] w w.drew := ⟨rfl, rfl, rfl, Lc', fun _ _ _ => rfl⟩
theorem Keep.alloc (o : Obj) : Keep [] w (w.alloc o) := ⟨rfl, rfl, rfl, by simp, fun k hk _ => Below.heap_alloc _ _ _ hk⟩
theorem Keep.putObj (r : Nat) (o : Obj) : Keep [r] w (w.putObj r o) :=
 ⟨rfl, rfl, rfl, by simp [World.putObj], fun k _ hn => World.putObj_heap_other (by simpa using hn)⟩
theorem Keep.below (h : Keep [] w w') : Below w.heap.size w w' := ⟨h.os, h.tape, h.output, h.size, fun k hk => h.block k hk mf⟩
theorem Keep.of_below (h : Below w.heap.size w w') : Keep [] w w' := ⟨h.os, h.tape, h.output, h.size, fun k hk _ => h.block k hk⟩
def X3 {α : Type} : List α → Nat → Option α
 | [], _ => none
 | x :: _, 0 => some x
 | _ :: xs, n + 1 => X3 xs n
theorem Vm {α : Type} : ∀ (l : List α) (n : Nat), X3 l n = l[n]?
 | [], _ => rfl
 | _ :: _, 0 => rfl
 | _ :: xs, n + 1 => by simp [X3, Vm xs n]
theorem Vn {a : Array α} {n : Nat} {x : α} (h : X3 a.toList n = some x) : a[n]? = some x := by
 rw [Vm] at h; simpa using h
def VA : KY → Nat → Option Value
 | [], _ => none
 | (j, v) :: l, i => match Nat.beq i j with | true => some v | false => VA l i
def KU (l : KY) : Operand → Option Value
 | .tmp t => VA l t
 | .const v => some v
 | .global g => some (.pointer (some ⟨g, 0, none⟩))
 | .func f => some (.func (.func f) #[] #[])
def evT (l : KY) (x : Operand) : Value := match KU l x with | some v => v | none => undef
def evs (l : KY) : List Operand → Option (List Value)
 | [] => some []
 | x :: xs => match KU l x, evs l xs with | some v, some vs => some (v :: vs) | _, _ => none
def ZT (l : KY) : List Operand → Bool
 | [] => true
 | x :: xs => match KU l x with | some _ => ZT l xs | none => false
structure Cx where
  P : Program
  ro : Option Nat
  w1 : World
  ids : List Nat
  xids : List Nat
  R : J3
  n : Nat
variable {c : Cx}
structure Fr (n : Nat) (d : List Deferred) (l : KY) (a : Act) : Prop where
  size : a.tmps.size = n
  defers : a.defers = d
  slots : ∀ i v, VA l i = some v → a.tmps[i]? = some v
abbrev XP : Type := List Nat → World → Prop
variable {X Xb : XP} {X' : α → XP} {XI : ι → XP}
def XM (xs : List Nat) (X : XP) (w : World) : Prop := ∀ w' : World, (∀ k ∈ xs, w'.heap[k]? = w.heap[k]?) → X xs w'
def XOk (c : Cx) (L : J3) (X : XP) (w : World) : Prop :=
 ∃ xs : List Nat, (∀ k ∈ xs, (k ∈ c.xids ∨ c.w1.heap.size ≤ k) ∧ k < w.heap.size ∧ ∀ p ∈ L, p.1 ≠ k) ∧ XM xs X w
structure St (c : Cx) (L : J3) (X : XP) (w : World) : Prop where
  keep : Keep (c.ids ++ c.xids) c.w1 w
  own : ∀ p ∈ L, (p.1 ∈ c.ids ∨ c.w1.heap.size ≤ p.1) ∧ p.1 ∉ c.xids ∧ w.heap[p.1]? = some p.2
  distinct : L.Pairwise fun p q => p.1 ≠ q.1
  ext : ∀ p ∈ c.R, p.1 ∉ c.ids ∧ p.1 ∉ c.xids ∧ c.w1.heap[p.1]? = some p.2
  xlt : ∀ k ∈ c.xids, k < c.w1.heap.size
  x : XOk c L X w
def FW (ro : Option Nat) : Fence := { Fence.wide with round := ro }
section
variable {c : Cx} {l : KY} {L : J3} {X : XP}
theorem JM {a : Array α} {k : Nat} {o : α} (h : a[k]? = some o) : k < a.size := (Array.getElem?_eq_some_iff.1 h).1
theorem St.readR (h : St c L X w) {p : Nat × Obj} (hp : p ∈ c.R) : w.heap[p.1]? = some p.2 := by
 obtain ⟨h1, h2, h3⟩ := h.ext p hp
 rw [h.keep.block p.1 (JM h3) (by simp [h1, h2])]
 exact h3
theorem St.drew (h : St c L X w) : St c L X w.drew :=
 ⟨h.keep.trans Keep.drew.nil, h.own, h.distinct, h.ext, h.xlt, h.x⟩
theorem St.more (h : St c L X w) (k : Keep [] w w') : St c L X w' :=
 ⟨h.keep.trans k.nil, fun p hp => let ⟨h1, h2, h3⟩ := h.own p hp; ⟨h1, h2, (k.block p.1 (JM h3) mf).trans h3⟩, h.distinct, h.ext, h.xlt,
  let ⟨xs, h1, h2⟩ := h.x
  ⟨xs, fun i hi => ⟨(h1 i hi).1, Nat.lt_of_lt_of_le (h1 i hi).2.1 k.size, (h1 i hi).2.2⟩, fun w2 hw2 => h2 w2 fun i hi => (hw2 i hi).trans (k.block i (h1 i hi).2.1 mf)⟩⟩
theorem St.now (h : St c L X w) : ∃ xs, X xs w := let ⟨xs, _, h2⟩ := h.x; ⟨xs, h2 w fun _ _ => rfl⟩
theorem St.alloc (h : St c L X w) (o : Obj) : St c ((w.heap.size, o) :: L) X (w.alloc o) := by
 have h' := h.more (Keep.alloc o)
 obtain ⟨xs, h1, h2⟩ := h.x
 refine ⟨h'.keep, ?_, ?_, h.ext, h.xlt, xs, fun i hi => ⟨(h1 i hi).1, Nat.lt_of_lt_of_le (h1 i hi).2.1 (Keep.alloc o).size, fun p hp => ?_⟩, fun w2 hw2 => h2 w2 fun i hi => (hw2 i hi).trans ((Keep.alloc o).block i (h1 i hi).2.1 mf)⟩
 ·intro p hp
  rcases F'.1 hp with rfl | hp
  ·exact ⟨.inr h.keep.size, fun hx => by have := h.xlt _ hx; have := h.keep.size; simp only at *; omega, World.alloc_heap_new w o⟩
  ·exact h'.own p hp
 ·refine List.pairwise_cons.2 ⟨fun p hp => ?_, h.distinct⟩
  have := JM (h.own p hp).2.2
  simp only; omega
 ·have := (h1 i hi).2.1
  rcases F'.1 hp with rfl | hp
  ·simp only; omega
  ·exact (h1 i hi).2.2 p hp
theorem XOk.sub (h : XOk c L X w) (hs : ∀ p ∈ L', ∃ o, (p.1, o) ∈ L) : XOk c L' X w :=
 let ⟨xs, h1, h2⟩ := h
 ⟨xs, fun i hi => ⟨(h1 i hi).1, (h1 i hi).2.1, fun p hp => let ⟨o, ho⟩ := hs p hp; (h1 i hi).2.2 (p.1, o) ho⟩, h2⟩
theorem XOk.turn (h : XOk c L X w) (hk : Keep ids w w') (hi : ∀ k ∈ ids, ∃ o, (k, o) ∈ L) (hs : ∀ p ∈ L', ∃ o, (p.1, o) ∈ L) : XOk c L' X w' :=
 let ⟨xs, h1, h2⟩ := h
 ⟨xs, fun i hx => ⟨(h1 i hx).1, Nat.lt_of_lt_of_le (h1 i hx).2.1 hk.size, fun p hp => let ⟨o, ho⟩ := hs p hp; (h1 i hx).2.2 (p.1, o) ho⟩,
  fun w2 hw2 => h2 w2 fun i hx => (hw2 i hx).trans (hk.block i (h1 i hx).2.1 fun hm => let ⟨_, ho⟩ := hi i hm; (h1 i hx).2.2 _ ho rfl)⟩
theorem Jg6 {L : List α} {k : Nat} {x y : α} (h : y ∈ L.set k x) : y = x ∨ ∃ j, j ≠ k ∧ L[j]? = some y := by
 obtain ⟨j, hj⟩ := List.mem_iff_getElem?.1 h
 rw [List.getElem?_set] at hj
 split at hj
 ·split at hj
  ·exact .inl (by cases hj; rfl)
  ·cases hj
 ·rename_i hne; exact .inr ⟨j, fun e => hne e.symm, hj⟩
theorem Y0 (h : L.Pairwise fun p q => p.1 ≠ q.1) {p q : Nat × Obj} (hi : L[i]? = some p) (hj : L[j]? = some q) (hne : i ≠ j) : p.1 ≠ q.1 := by
 rw [List.pairwise_iff_getElem] at h
 obtain ⟨hi', rfl⟩ := La'.1 hi
 obtain ⟨hj', rfl⟩ := La'.1 hj
 rcases Nat.lt_or_gt_of_ne hne with hlt | hlt
 ·exact h i j hi' hj' hlt
 ·exact fun e => h j i hj' hi' hlt e.symm
theorem Jbw  {k : Nat} {o o' : Obj} (hk : L[k]? = some (r, o)) : (L.set k (r, o')).map (·.1) = L.map (·.1) := by
 apply List.ext_getElem?
 intro i
 simp only [List.getElem?_map, List.getElem?_set]
 split
 ·rename_i e; subst e
  obtain ⟨hlt, he⟩ := La'.1 hk
  simp [hlt, he]
 ·rfl
theorem pairwise_map : (L.Pairwise fun p q => p.1 ≠ q.1) ↔ (L.map (·.1)).Pairwise (· ≠ ·) := by
 rw [List.pairwise_map]
theorem St.set  {k : Nat} {o o' : Obj} (h : St c L X w) (hk : L[k]? = some (r, o)) (hkeep : Keep [r] w w') (hr : w'.heap[r]? = some o') :
  St c (L.set k (r, o')) X w' := by
 have hmem : (r, o) ∈ L := List.mem_of_getElem? hk
 obtain ⟨h1, h2, h3⟩ := h.own _ hmem
 refine ⟨?_, ?_, ?_, h.ext, h.xlt, ?_⟩
 ·refine ⟨hkeep.os.trans h.keep.os, hkeep.tape.trans h.keep.tape, hkeep.output.trans h.keep.output, Lb' h.keep.size hkeep.size, fun i hi hn => ?_⟩
  refine (hkeep.block i (Nat.lt_of_lt_of_le hi h.keep.size) ?_).trans (h.keep.block i hi hn)
  simp only [U']
  rintro rfl
  rcases h1 with h1 | h1
  ·exact hn (W' h1)
  ·simp only at h1; omega
 ·intro p hp
  rcases Jg6 hp with rfl | ⟨j, hj, hp'⟩
  ·exact ⟨h1, h2, hr⟩
  ·obtain ⟨g1, g2, g3⟩ := h.own p (List.mem_of_getElem? hp')
   refine ⟨g1, g2, (hkeep.block _ (JM g3) ?_).trans g3⟩
   have := Y0 h.distinct hp' hk hj
   simpa using this
 ·rw [pairwise_map, Jbw hk, ← pairwise_map]; exact h.distinct
 ·refine h.x.turn hkeep (fun k hm => ⟨o, by simp only [U'] at hm; subst hm; exact hmem⟩) fun p hp => ?_
  rcases Jg6 hp with rfl | ⟨j, _, hp'⟩
  ·exact ⟨o, hmem⟩
  ·exact ⟨p.2, List.mem_of_getElem? hp'⟩
theorem St.weakL (h : St c L X w) (hs : L'.Sublist L) : St c L' X w :=
 ⟨h.keep, fun p hp => h.own p (hs.mem hp), h.distinct.sublist hs, h.ext, h.xlt, h.x.sub fun p hp => ⟨p.2, hs.mem hp⟩⟩
theorem St.weakX {X' : XP} (h : St c L X w) (hx : ∀ xs w, X xs w → X' xs w) : St c L X' w :=
 ⟨h.keep, h.own, h.distinct, h.ext, h.xlt, let ⟨xs, h1, h2⟩ := h.x; ⟨xs, h1, fun w' hw' => hx _ _ (h2 w' hw')⟩⟩
theorem Fr.weak {n : Nat} {l l' : KY} (h : Fr n d l a) (hs : ∀ i v, VA l' i = some v → VA l i = some v) : Fr n d l' a :=
 ⟨h.size, h.defers, fun i v hv => h.slots i v (hs i v hv)⟩
theorem Fr.put {n : Nat} {l : KY} (h : Fr n d l a) (hi : i < n) : Fr n d ((i, v) :: l) (a.put (some i) v) := by
 refine ⟨by simp [Act.put, h.size], by simp [Act.put, h.defers], fun j u hu => ?_⟩
 simp only [VA] at hu
 simp only [Act.put, Array.getElem?_setIfInBounds, h.size]
 by_cases e : j = i
 ·subst e
  rw [Nat.beq_refl] at hu
  simp only [Option.some.injEq] at hu
  simp [hi, hu]
 ·have : Nat.beq j i = false := by
   rw [Bool.eq_false_iff]; intro hb; exact e (Nat.eq_of_beq_eq_true hb)
  rw [this] at hu
  rw [if_neg (fun e' => e e'.symm)]
  exact h.slots j u hu
theorem Fr.eval {n : Nat} {l : KY} (h : Fr n d l a) (hx : KU l x = some v) : a.eval x = v := by
 cases x with
 | tmp t => simp only [Act.eval, Array.getD_eq_getD_getElem?, h.slots t v hx]; rfl
 | const u => simpa [KU, Act.eval] using hx
 | global g => simpa [KU, Act.eval] using hx
 | func f => simpa [KU, Act.eval] using hx
theorem yS {l : KY} : ∀ {xs : List Operand}, ZT l xs = true → ∀ x ∈ xs, ∃ v, KU l x = some v
 | y :: ys, h, x, hx => by
  simp only [ZT] at h
  cases hy : KU l y with
  | none => rw [hy] at h; cases h
  | some v =>
   rw [hy] at h
   rcases F'.1 hx with rfl | hx
   ·exact ⟨v, hy⟩
   ·exact yS h x hx
theorem Fr.evals {n : Nat} {l : KY} (h : Fr n d l a) : ∀ {xs : List Operand} {vs : List Value}, evs l xs = some vs → xs.map a.eval = vs
 | [], vs, hv => by simp only [evs, Option.some.injEq] at hv; subst hv; rfl
 | x :: xs, vs, hv => by
  simp only [evs] at hv
  cases h1 : KU l x with
  | none => simp [h1] at hv
  | some v =>
   cases h2 : evs l xs with
   | none => simp [h1, h2] at hv
   | some us =>
    simp only [h1, h2, Option.some.injEq] at hv
    subst hv
    rw [List.map_cons, h.eval h1, h.evals h2]
def HC (c : Cx) (d : List Deferred) (l : KY) (L : J3) (X : XP) (code : Code) (Q : Exit → Act → World → Prop) : Prop :=
 ∀ a w, Fr c.n d l a → St c L X w → code.wpIn (FW c.ro) 0 c.P Q a w
def HL (c : Cx) (d : List Deferred) (l : KY) (L : J3) (X : XP) (ops : Array Oper) (rest : List Oper) (Q : Exit → Act → World → Prop) : Prop :=
 ∀ a w, Fr c.n d l a → St c L X w → wpListIn (FW c.ro) 0 c.P ops Q rest a w
def HQ (c : Cx) (d : List Deferred) (l : KY) (L : J3) (X : XP) (Q : Act → World → Prop) : Prop :=
 ∀ a w, Fr c.n d l a → St c L X w → Q a w
variable {Q : Exit → Act → World → Prop} {K : Act → World → Prop} {d : List Deferred}
theorem Jw3 {x y : Code} (h : ∀ K, (∀ d l L X, HC c d l L X y Q → HQ c d l L X K) → HC c d l L X x (Exit.then K Q)) : HC c d l L X (x.seq y) Q :=
 fun a w hf hs => wpIn_seq_k fun K hK => h K (fun _ _ _ _ hy a w hf hs => hK a w (hy a w hf hs)) a w hf hs
theorem Zp {ops : List Oper} (h : HL c d l L X ops.toArray ops Q) : HC c d l L X (.region id ops.toArray false) Q :=
 fun a w hf hs => wpIn_region_lit (h a w hf hs)
theorem W9 (h : HQ c d l L X (Q .normal)) : HL c d l L X ops [] Q := h
theorem Jbx {b : Code} (h : HC c d l L X b (Exit.inBlock id Q)) : HC c d l L X (.block id b) Q := fun a w hf hs => wpIn_block (h a w hf hs)
theorem Jsk (h : HQ c d l L X (Q (.exit id))) : HC c d l L X (.exit id) Q := fun a w hf hs => wpIn_exit (h a w hf hs)
theorem Jw4 (h : HQ c d l L X (Q .ret)) : HC c d l L X .ret Q := fun a w hf hs => wpIn_ret (h a w hf hs)
theorem xr (h : HQ c d l L X (Q .normal)) : HC c d l L X .skip Q := fun a w hf hs => wpIn_skip (h a w hf hs)
theorem Jl {t e : Code} {b : Bool} (hx : KU l x = some (.bool b)) (ht : b = true → HC c d l L X t Q) (he : b = false → HC c d l L X e Q) : HC c d l L X (.cond x t e) Q :=
 fun a w hf hs => wpIn_cond_split (t := b) (hf.eval hx) (fun h => ht h a w hf hs) (fun h => he h a w hf hs)
theorem Jl2 {t e : Code} (hx : KU l x = some (.bool true)) (ht : HC c d l L X t Q) : HC c d l L X (.cond x t e) Q := Jl hx (fun _ => ht) (fun h => by cases h)
theorem Jl3 {t e : Code} (hx : KU l x = some (.bool false)) (he : HC c d l L X e Q) : HC c d l L X (.cond x t e) Q := Jl hx (fun h => by cases h) (fun _ => he)
theorem JS {a : KY} (h : HQ c d a L X K) : HQ c d a L X (Exit.then K Q .normal) := h
theorem Jby (h : HQ c d l L X (Q .ret)) : HQ c d l L X (Exit.then K Q .ret) := h
theorem Jbz (h : HQ c d l L X (Q (.exit id))) : HQ c d l L X (Exit.then K Q (.exit id)) := h
theorem Jj2 (h : HQ c d l L X (Q .normal)) : HQ c d l L X (Exit.inBlock id Q .normal) := h
theorem Jj3 (h : HQ c d l L X (Q .ret)) : HQ c d l L X (Exit.inBlock id Q .ret) := h
theorem Jj4 (h : HQ c d l L X (Q .normal)) : HQ c d l L X (Exit.inBlock id Q (.exit id)) := fun a w hf hs => by simp only [Exit.inBlock, if_true]; exact h a w hf hs
theorem Je1 {id' : Nat} (hne : Nat.beq id' id = false) (h : HQ c d l L X (Q (.exit id'))) : HQ c d l L X (Exit.inBlock id Q (.exit id')) := fun a w hf hs => by
 have : id' ≠ id := fun e => by subst e; rw [Nat.beq_refl] at hne; cases hne
 simp only [Exit.inBlock, this, if_false]; exact h a w hf hs
def VT (P : Program) {α : Type} : Sem α → Option α
 | .pure a => some a
 | .program k => VT P (k P)
 | .mark _ k => VT P k
 | _ => none
theorem xt (P : Program) (s : Sem α) : ∀ {a : α}, VT P s = some a → ∀ w, s.run P w = .ok a w := by
 induction s with
 | pure a => intro b h w; simp only [VT, Option.some.injEq] at h; subst h; rfl
 | program k ih => intro b h w; simp only [VT] at h; simp only [Sem.run]; exact ih _ h w
 | mark m k ih => intro b h w; simp only [VT] at h; simp only [Sem.run]; exact ih h w
 | _ => intro b h; simp [VT] at h
theorem Qc {ρ : Operand → Value} : ∀ f, o.about P w ρ = some f → (FW ro).fn f := fun _ _ => trivial
def KM : Op → Bool
 | .defer _ => false
 | .select _ _ => false
 | _ => true
theorem VJ {o : Op} (h : KM o = true) : ∀ c, o ≠ .defer c := fun c e => by subst e; cases h
theorem Jj5 {o : Op} (h : KM o = true) : ∀ c b, o ≠ .select c b := fun c b e => by subst e; cases h
theorem QX (hg : Region.wanted o (yielded ops a.tmps) = true) (hn : KM o.op = true)
  (h : o.uponIn (FW ro) 0 P a (wpListIn (FW ro) 0 P ops Q rest) Q ((execOp a.eval o).run P w)) : wpListIn (FW ro) 0 P ops Q (o :: rest) a w := by
 unfold wpListIn
 rw [if_pos hg]
 refine ⟨Qc, ?_⟩
 rw [Oper.semAt_eq _ _ _ (VJ hn)]
 exact h
def KW (l : KY) (ops : Array Oper) (o : Oper) : Option Bool :=
 match o.guard with
 | none => some true
 | some (j, want) => match (ops[j]?).bind (·.dst) with
  | some t => match VA l t with
   | some (.bool true) => some want
   | some (.bool false) => some (!want)
   | some (.tuple _) => some false
   | _ => none
  | none => none
theorem Kh {n : Nat} {b : Bool} (hf : Fr n d l a) (h : KW l ops o = some b) : Region.wanted o (yielded ops a.tmps) = b := by
 unfold KW at h
 unfold Region.wanted yielded
 split at h
 ·rename_i hg; rw [hg]; simpa using h
 ·rename_i j want hg
  rw [hg]
  split at h
  ·rename_i t ht
   have key : ∀ u, VA l t = some u → ((ops[j]?).bind (·.dst)).bind (a.tmps[·]?) = some u := fun u hu => by
    simp only [ht, Option.bind_some]; exact hf.slots _ _ hu
   split at h
   ·rename_i hl; simp only [key _ hl]; cases want <;> simpa using h
   ·rename_i hl; simp only [key _ hl]; cases want <;> simpa using h
   ·rename_i hl; simp only [key _ hl]; cases want <;> simpa using h
   ·cases h
  ·cases h
theorem Jg7 (hg : KW l ops o = some false) (hd : o.dst = some i) (hi : Nat.ble (i + 1) c.n = true)
  (h : HL c d ((i, undef) :: l) L X ops rest Q) : HL c d l L X ops (o :: rest) Q := fun a w hf hs => by
 unfold wpListIn
 rw [if_neg (by rw [Kh hf hg]; simp), hd]
 exact ⟨Qc, h _ w (hf.put (H' hi)) hs⟩
theorem J8 {b : Bool} (t : Nat) (ht : VA l t = some (.bool b))
  (h1 : b = true → HL c d ((t, .bool true) :: l) L X ops rest Q) (h0 : b = false → HL c d ((t, .bool false) :: l) L X ops rest Q) : HL c d l L X ops rest Q := fun a w hf hs => by
 have key : ∀ b', b' = b → Fr c.n d ((t, .bool b') :: l) a := fun b' e => hf.weak fun i v hv => by
  simp only [VA] at hv
  by_cases e' : i = t
  ·subst e'; rw [Nat.beq_refl] at hv; subst e; rw [ht]; exact hv
  ·rw [show Nat.beq i t = false from by rw [Bool.eq_false_iff]; exact fun hb => e' (Nat.eq_of_beq_eq_true hb)] at hv; exact hv
 cases hb : b with
 | true => exact h1 hb a w (key true hb.symm) hs
 | false => exact h0 hb a w (key false hb.symm) hs
theorem Jw5 (hg : KW l ops o = some true) (hn : KM o.op = true) (hd : o.dst = some i) (hi : Nat.ble (i + 1) c.n = true)
  (hr : ∀ a w, Fr c.n d l a → St c L X w → ∃ w', (execOp a.eval o).run c.P w = .ok (.value v) w' ∧ St c L' X w')
  (h : HL c d ((i, v) :: l) L' X ops rest Q) : HL c d l L X ops (o :: rest) Q := fun a w hf hs => by
 obtain ⟨w', hrun, hs'⟩ := hr a w hf hs
 refine QX (Kh hf hg) hn ?_
 rw [hrun, Oper.uponIn_value, hd]
 exact h _ w' (hf.put (H' hi)) hs'
theorem xu (hg : KW l ops o = some true) (hn : KM o.op = true) (hd : o.dst = none)
  (hr : ∀ a w, Fr c.n d l a → St c L X w → ∃ w', (execOp a.eval o).run c.P w = .ok .skip w' ∧ St c L' X w')
  (h : HL c d l L' X ops rest Q) : HL c d l L X ops (o :: rest) Q := fun a w hf hs => by
 obtain ⟨w', hrun, hs'⟩ := hr a w hf hs
 refine QX (Kh hf hg) hn ?_
 rw [hrun, Oper.uponIn_skip, hd]
 exact h _ w' hf hs'
theorem Jl4 {n : Nat} (hf : Fr n d l a) (hn : KM o.op = true) (hk : ZT l o.op.operands.toList = true) : execOp a.eval o = execOp (evT l) o :=
 execOp_congr o (Jj5 hn) fun x hx => by
  obtain ⟨v, hv⟩ := yS hk x (by simpa using hx)
  rw [hf.eval hv, evT, hv]
def Kg (c : Cx) (d : List Deferred) (l : KY) (L : J3) (X : XP) (o : Oper) (v : Value) : Prop :=
 ∀ a w, Fr c.n d l a → St c L X w → (execOp a.eval o).run c.P w = .ok (.value v) w
theorem qh (hg : KW l ops o = some true) (hn : KM o.op = true) (hd : o.dst = some i) (hi : Nat.ble (i + 1) c.n = true)
  (hr : Kg c d l L X o v) (h : HL c d ((i, v) :: l) L X ops rest Q) : HL c d l L X ops (o :: rest) Q :=
 Jw5 hg hn hd hi (fun a w hf hs => ⟨w, hr a w hf hs, hs⟩) h
theorem JH (hn : KM o.op = true) (hk : ZT l o.op.operands.toList = true) (hv : VT c.P (execOp (evT l) o) = some (.value v)) : Kg c d l L X o v :=
 fun a w hf _ => by rw [Jl4 hf hn hk]; exact xt _ _ hv w
theorem J4 (e : v = v') (h : HL c d ((i, v') :: l) L X ops rest Q) : HL c d ((i, v) :: l) L X ops rest Q := e ▸ h
theorem Jp {t : Nat} {z : Operand} (hx : KU l x = some (.bool true)) (hv : KU l y = some v) : Kg c d l L X ⟨some i, .pick x y z, t, ps, af, gd⟩ v :=
 fun a w hf _ => by simp only [execOp, Sem.run_bind]; rw [hf.eval hx, hf.eval hv]; rfl
theorem Jy {t : Nat} {z : Operand} (hx : KU l x = some (.bool false)) (hv : KU l z = some v) : Kg c d l L X ⟨some i, .pick x y z, t, ps, af, gd⟩ v :=
 fun a w hf _ => by simp only [execOp, Sem.run_bind]; rw [hf.eval hx, hf.eval hv]; rfl
theorem Jb {t ix : Nat} {vs : Array Value} (hx : KU l x = some (.tuple vs)) (hv : X3 vs.toList ix = some v) : Kg c d l L X ⟨some i, .extract x ix, t, ps, af, gd⟩ v :=
 fun a w hf _ => by simp only [execOp]; rw [hf.eval hx]; simp [Instr.extract, Vn hv]
theorem Jw {t : Nat} (hv : KU l x = some v) :
  Kg c d l L X ⟨some i, .move x, t, ps, af, gd⟩ (v) := fun a w hf hs => by simp only [execOp]; rw [hf.eval hv]; rfl
theorem J7 {t : Nat} (hv : KU l x = some v) :
  Kg c d l L X ⟨some i, .assign x, t, ps, af, gd⟩ (v) := fun a w hf hs => by simp only [execOp]; rw [hf.eval hv]; rfl
def Jsl (l : KY) (ops : Array Oper) (o : Oper) (n : Nat) (x : Operand) : Option (Nat × Value) := match KW l ops o, o.dst, KU l x with | some true, some i, some v => (match Nat.ble (i + 1) n with | true => some (i, v) | false => none) | _, _, _ => none
theorem Jg8 {l : KY} {n : Nat} {q : Nat × Value} (h : Jsl l ops o n x = some q) : KW l ops o = some true ∧ o.dst = some q.1 ∧ KU l x = some q.2 ∧ Nat.ble (q.1 + 1) n = true := by
 unfold Jsl at h
 split at h
 ·split at h
  ·cases h; exact ⟨by assumption, by assumption, by assumption, by assumption⟩
  ·cases h
 ·cases h
def mvB (l : KY) (ops : Array Oper) (o : Oper) (n : Nat) : Option (Nat × Value) := match o.op with | .move x => Jsl l ops o n x | .assign x => Jsl l ops o n x | _ => none
theorem JI (hB : mvB l ops o c.n = some (i, v)) (h : HL c d ((i, v) :: l) L X ops rest Q) : HL c d l L X ops (o :: rest) Q := by
 obtain ⟨dst, op, t, ps, af, gd⟩ := o
 unfold mvB at hB
 split at hB
 ·rename_i e; simp only at e; subst e; obtain ⟨h1, h2, h3, h4⟩ := Jg8 hB; simp only at h2; subst h2; exact qh h1 O O h4 (Jw h3) h
 ·rename_i e; simp only at e; subst e; obtain ⟨h1, h2, h3, h4⟩ := Jg8 hB; simp only at h2; subst h2; exact qh h1 O O h4 (J7 h3) h
 ·cases hB
def prB (P : Program) (l : KY) (ops : Array Oper) (o : Oper) (n : Nat) : Option (Nat × Value) := match KW l ops o, o.dst, KM o.op, ZT l o.op.operands.toList, VT P (execOp (evT l) o) with | some true, some i, true, true, some (.value v) => (match Nat.ble (i + 1) n with | true => some (i, v) | false => none) | _, _, _, _, _ => none
theorem KC (hB : prB c.P l ops o c.n = some (i, v)) (h : HL c d ((i, v) :: l) L X ops rest Q) : HL c d l L X ops (o :: rest) Q := by
 unfold prB at hB
 split at hB
 ·split at hB
  ·cases hB; exact qh ma ma ma ma (JH ma ma ma) h
  ·cases hB
 ·cases hB
end
def Vo (P : Program) (t : TypeId) : Option Value := match P.info? t with | some i => i.zero | none => none
def Q9 (P : Program) (t : TypeId) : Option Nat := match P.info? t with | some i => some i.size | none => none
def WH (P : Program) (t : TypeId) : Option Bool := match P.underlying t with | some (.struct _) => some true | some (.array _ _) => some true | some _ => some false | none => none
def frB : Nat × Nat → Nat → Bool
 | (lo, hi), off => Nat.ble lo off && Nat.blt off hi
def VU : Value → Bool
 | .agg _ | .tuple _ => false
 | _ => true
theorem X4 (v : Value) : v.oneCell' = VU v := by cases v <;> rfl
theorem XZ {z : Value} (h : Vo P t = some z) (w : World) : (zeroValue t).run P w = .ok z w := by
 unfold Vo at h
 split at h
 ·rename_i i hi; simp [zeroValue, typeInfo, hi, h]
 ·cases h
theorem Vz {n : Nat} (h : Q9 P t = some n) (w : World) : (sizeOf t).run P w = .ok n w := by
 unfold Q9 at h
 split at h
 ·rename_i i hi; cases h; simp [sizeOf, typeInfo, hi]
 ·cases h
theorem vp {b : Bool} (h : WH P t = some b) (w : World) : (isAgg t).run P w = .ok b w := by
 unfold WH at h
 unfold isAgg
 simp only [Sem.run_bind, underlying, run_program, Result.andThen]
 split at h <;> simp_all [Sem.run_pure] <;> rename_i hu <;> (rw [← h]; split <;> simp_all)
theorem VY (h : w.heap[r]? = some (.cells cs e fr)) : w.cell? ⟨r, off, none⟩ = cs[off]? := by
 simp [World.cell?, h]
theorem qi (h : w.heap[r]? = some (.cells cs e fr)) (hf : frB fr off = false) : w.frozen? ⟨r, off, none⟩ = false := by
 obtain ⟨lo, hi⟩ := fr
 simp only [frB, Bool.and_eq_false_iff] at hf
 simp only [World.frozen?, h]
 rcases hf with hf | hf
 ·have : ¬ lo ≤ off := fun hle => by rw [Nat.ble_eq_true_of_le hle] at hf; cases hf
  simp [this]
 ·have : ¬ off < hi := fun hlt => by rw [show Nat.blt off hi = true from by rw [Nat.blt_eq]; exact hlt] at hf; cases hf
  simp [this]
theorem Wm (v : Value) (h : w.heap[r]? = some (.cells cs e fr)) :
  (w.setCell ⟨r, off, none⟩ v).heap[r]? = some (.cells (cs.setIfInBounds off v) e fr) := by
 have hlt := JM h
 obtain ⟨_, he⟩ := Array.getElem?_eq_some_iff.1 h
 show (w.heap.modify r _)[r]? = _
 rw [Array.getElem?_eq_getElem (by rw [Array.size_modify]; exact hlt), Array.getElem_modify_self, he]
 rfl
theorem Keep.setCell (r off : Nat) (v : Value) : Keep [r] w (w.setCell ⟨r, off, none⟩ v) :=
 ⟨rfl, rfl, rfl, by simp [World.setCell], fun k _ hn => Below.heap_setCell _ _ _ _ (by simpa using hn)⟩
theorem Keep.setRow (r : Nat) (cs : Array Value) : Keep [r] w (w.setRow r cs) :=
 ⟨rfl, rfl, rfl, by simp [World.setRow], fun k _ hn => by
  simp only [World.setRow, Array.getElem?_modify]
  rw [if_neg (by intro e; exact hn (by simp [e]))]⟩
theorem jp {a : Addr} (ht : WH P t = some false) (h : w.cell? a = some v) : (loadVar t a).run P w = .ok v w := by
 unfold loadVar
 simp [Sem.run_bind, vp ht, Result.andThen, h]
theorem jq  {n : Nat} (ht : WH P t = some true) (hn : Q9 P t = some n)
  (h : w.heap[r]? = some (.cells cs e fr)) (hv : (cs.toList.drop off).take n = vs) (hl : vs.length = n) : (loadVar t ⟨r, off, none⟩).run P w = .ok (.agg vs.toArray) w := by
 have key := run_loadCells_list (P := P) w ⟨r, off, none⟩ vs (fun j v hj => by
  have hj2 : cs[off + j]? = some v := by
   subst hv
   rw [List.getElem?_take] at hj
   split at hj
   ·rw [List.getElem?_drop] at hj; simpa using hj
   ·cases hj
  by_cases h0 : j = 0
  ·subst h0; simpa [Addr.add, VY h] using hj2
  ·simp only [Addr.add, h0, if_false, VY h]; exact hj2)
 rw [hl] at key
 unfold loadVar
 simp [Sem.run_bind, vp ht, Vz hn, Result.andThen, key]
section
variable {c : Cx} {l : KY} {L : J3} {X : XP} {Q : Exit → Act → World → Prop} {K : Act → World → Prop} {d : List Deferred}
variable {ops : Array Oper} {rest : List Oper} {i : Nat} {v : Value} {t : TypeId} {ps : String} {af : Array Edge} {gd : Option (Nat × Bool)} {ty : TypeId}
theorem WE {L' : α → J3} (hg : KW l ops o = some true) (hn : KM o.op = true) (hd : o.dst = some i) (hi : Nat.ble (i + 1) c.n = true)
  (hr : ∀ a w, Fr c.n d l a → St c L X w → ∃ x w', (execOp a.eval o).run c.P w = .ok (.value (V x)) w' ∧ St c (L' x) (X' x) w')
  (h : ∀ x, HL c d ((i, V x) :: l) (L' x) (X' x) ops rest Q) : HL c d l L X ops (o :: rest) Q := fun a w hf hs => by
 obtain ⟨x, w', hrun, hs'⟩ := hr a w hf hs
 refine QX (Kh hf hg) hn ?_
 rw [hrun, Oper.uponIn_value, hd]
 exact h x _ w' (hf.put (H' hi)) hs'
theorem jr {z : Value} (hg : KW l ops ⟨some i, .alloc t, ty, ps, af, gd⟩ = some true) (hi : Nat.ble (i + 1) c.n = true) (hz : Vo c.P t = some z) (hc : z.cells = cs)
  (h : ∀ r, HL c d ((i, .pointer (some ⟨r, 0, none⟩)) :: l) ((r, .cells cs t (0, 0)) :: L) X ops rest Q) : HL c d l L X ops (⟨some i, .alloc t, ty, ps, af, gd⟩ :: rest) Q :=
 WE (V := fun r => .pointer (some ⟨r, 0, none⟩)) (L' := fun r => (r, .cells cs t (0, 0)) :: L) (X' := fun _ => X) hg rfl rfl hi (fun a w hf hs => ⟨w.heap.size, w.alloc (.cells cs t), by
  simp [execOp, Instr.alloc, Sem.run_bind, XZ hz, Result.andThen, newVar, newRow, hc], hs.alloc _⟩) h
theorem JR (hg : KW l ops ⟨some i, .box t x, ty, ps, af, gd⟩ = some true) (hi : Nat.ble (i + 1) c.n = true) (hx : KU l x = some v) (hc : v.cells = cs)
  (h : ∀ r, HL c d ((i, .pointer (some ⟨r, 0, none⟩)) :: l) ((r, .cells cs t (0, 0)) :: L) X ops rest Q) : HL c d l L X ops (⟨some i, .box t x, ty, ps, af, gd⟩ :: rest) Q :=
 WE (V := fun r => .pointer (some ⟨r, 0, none⟩)) (L' := fun r => (r, .cells cs t (0, 0)) :: L) (X' := fun _ => X) hg rfl rfl hi (fun a w hf hs => ⟨w.heap.size, w.alloc (.cells cs t), by
  simp only [execOp]; rw [hf.eval hx]
  simp [Instr.box, Result.andThen, newVar, newRow, hc], hs.alloc _⟩) h
theorem St.get (hs : St c L X w) {k : Nat} {o : Obj} (h : L[k]? = some (r, o)) : w.heap[r]? = some o := (hs.own _ (List.mem_of_getElem? h)).2.2
def known (c : Cx) (L : J3) (r : Nat) (o : Obj) : Prop := (r, o) ∈ L ∨ (r, o) ∈ c.R
theorem WF {k : Nat} {o : Obj} (h : L[k]? = some (r, o)) : known c L r o := .inl (List.mem_of_getElem? h)
theorem Kn {k : Nat} {o : Obj} (h : c.R[k]? = some (r, o)) : known c L r o := .inr (List.mem_of_getElem? h)
theorem St.known {w : World} (hs : St c L X w) {r : Nat} {o : Obj} (h : known c L r o) : w.heap[r]? = some o := h.elim (fun h => (hs.own _ h).2.2) hs.readR
theorem Jc (hx : KU l x = some (.pointer (some ⟨r, off, none⟩))) (hk : known c L r (.cells cs e fr)) (ht : WH c.P t = some false) (hc : X3 cs.toList off = some v)
  :
  Kg c d l L X ⟨some i, .load t x, ty, ps, af, gd⟩ (v) := fun a w hf hs => by
  simp only [execOp]; rw [hf.eval hx]
  have := jp (P := c.P) (w := w) (a := ⟨r, off, none⟩) ht (by rw [VY (hs.known hk)]; exact Vn hc)
  simp [Instr.loadAt, Instr.sureAddr, Result.andThen, this]
theorem Ki  {n : Nat} (hx : KU l x = some (.pointer (some ⟨r, off, none⟩))) (hk : known c L r (.cells cs e fr)) (ht : WH c.P t = some true) (hn : Q9 c.P t = some n) (hv : (cs.toList.drop off).take n = vs) (hl : vs.length = n)
  :
  Kg c d l L X ⟨some i, .load t x, ty, ps, af, gd⟩ (.agg vs.toArray) := fun a w hf hs => by
  simp only [execOp]; rw [hf.eval hx]
  have := jq (P := c.P) (w := w) ht hn (hs.known hk) hv hl
  simp [Instr.loadAt, Instr.sureAddr, Result.andThen, this]
theorem Jm  {k : Nat} (hg : KW l ops ⟨none, .store t x y, ty, ps, af, gd⟩ = some true)
  (hx : KU l x = some (.pointer (some ⟨r, off, none⟩))) (hk : L[k]? = some (r, .cells cs e fr)) (hy : KU l y = some v) (ht : Q9 c.P t = some 1) (ho : VU v = true) (hc : (cs[off]?).isSome = true) (hfr : frB fr off = false)
  (hcs : cs.setIfInBounds off v = cs') (hL : L.set k (r, .cells cs' e fr) = L')
  (h : HL c d l L' X ops rest Q) : HL c d l L X ops (⟨none, .store t x y, ty, ps, af, gd⟩ :: rest) Q :=
 xu hg rfl rfl (fun a w hf hs => ⟨w.setCell ⟨r, off, none⟩ v, by
  simp only [execOp]; rw [hf.eval hx, hf.eval hy]
  obtain ⟨old, hold⟩ := Option.isSome_iff_exists.1 hc
  have h1 := run_store c.P w ⟨r, off, none⟩ v .plain (by rw [X4]; exact ho)
  rw [VY (hs.get hk), hold, qi (hs.get hk) hfr] at h1
  have hcell : v.cells = #[v] := by cases v <;> first | rfl | cases ho
  simp [Instr.storeAt, Instr.sureAddr, Sem.run_bind, Result.andThen, storeVar, Vz ht, hcell, storeCells, Addr.add, h1], by
  subst hL; subst hcs
  exact hs.set hk (Keep.setCell r off v) (Wm v (hs.get hk))⟩) h
theorem J2  {k n : Nat} {vs : Array Value} (hg : KW l ops ⟨none, .store t x y, ty, ps, af, gd⟩ = some true)
  (hx : KU l x = some (.pointer (some ⟨r, off, none⟩))) (hk : L[k]? = some (r, .cells cs e (0, 0))) (hy : KU l y = some (.agg vs)) (ht : Q9 c.P t = some n) (hn : vs.size = n) (ho : vs.toList.all VU = true) (hc : off + n ≤ cs.size)
  (hcs : (cs.toList.take off ++ vs.toList ++ cs.toList.drop (off + n)).toArray = cs') (hL : L.set k (r, .cells cs' e (0, 0)) = L')
  (h : HL c d l L' X ops rest Q) : HL c d l L X ops (⟨none, .store t x y, ty, ps, af, gd⟩ :: rest) Q :=
 xu hg rfl rfl (fun a w hf hs => ⟨w.setRow r cs', by
  simp only [execOp]; rw [hf.eval hx, hf.eval hy]
  have h1 := run_storeCells_at (P := c.P) r off e vs.toList 0 cs w (hs.get hk) MD (fun u hu => by rw [X4]; exact List.all_eq_true.1 ho u hu)
  simp only [Nat.add_zero, Array.length_toList, hn] at h1
  rw [hcs] at h1
  simp [Instr.storeAt, Instr.sureAddr, Sem.run_bind, Result.andThen, storeVar, Vz ht, Value.cells, hn, h1], by
  subst hL
  exact hs.set hk (Keep.setRow r cs') (setRow_heap _ _ _ _ _ _ (hs.get hk))⟩) h
structure Pure (P : Program) (f : FuncId) (args : Array Value) (v : Value) : Prop where
  run : ∀ w, Calls P f args w fun e w' => e = .returned v ∧ Keep [] w w'
def Qw (l : KY) (f : Operand) (args : Array Operand) : Option (FuncId × List Value) :=
 match KU l f with
 | some (.func (.func g) first caps) => match first.toList, evs l args.toList with
  | [], some vs => some (g, vs ++ caps.toList)
  | _, _ => none
 | _ => none
theorem VK {n : Nat} (hf : Fr n d l a) (h : Qw l f args = some (g, vs))
  (P : Program) (w : World) (o : Oper) (ho : o.op = .call ⟨.value f, args, at_⟩) (eg : Enters P g) : (execOp a.eval o).run P w = .ok (.enter g vs.toArray) w := by
 unfold Qw at h
 split at h
 ·rename_i g' first caps hfv
  split at h
  ·rename_i us hfirst hargs
   simp only [Option.some.injEq, Prod.mk.injEq] at h
   obtain ⟨rfl, rfl⟩ := h
   have hfirst' : first = #[] := by simpa using hfirst
   subst hfirst'
   have h2 := hf.evals hargs
   have h3 : args.map a.eval = us.toArray := by
    apply Array.toList_inj.1; rw [Array.toList_map]; simpa using h2
   have h4 : a.eval f = .func (.func g') #[] caps := hf.eval hfv
   simp only [execOp, ho, Sem.run_bind]
   have h5 : us.toArray ++ caps = (us ++ caps.toList).toArray := by apply Array.toList_inj.1; simp
   have h6 := eg (us.toArray ++ caps) w
   rw [← h5]
   simpa [resolve, h3, h4, Deferred.ofValue, Result.andThen, invoke] using h6
  ·cases h
 ·cases h
theorem Jl5 {L' : α → J3}
  (hg : KW l ops ⟨dst, .call ⟨.value f, args, at_⟩, ty, ps, af, gd⟩ = some true) (hca : Qw l f args = some (g, vs)) (eg : Enters c.P g)
  (hr : ∀ w, St c L X w → Calls c.P g vs.toArray w fun e w' => ∃ x, e = .returned (V x) ∧ St c (L' x) (X' x) w')
  (h : ∀ x a w, (∀ i, dst = some i → i < c.n) → Fr c.n d l a → St c (L' x) (X' x) w → wpListIn (FW c.ro) 0 c.P ops Q rest (a.put dst (V x)) w) (hi : ∀ i, dst = some i → Nat.ble (i + 1) c.n = true) :
  HL c d l L X ops (⟨dst, .call ⟨.value f, args, at_⟩, ty, ps, af, gd⟩ :: rest) Q := fun a w hf hs => by
 refine QX (Kh hf hg) O ?_
 rw [VK hf hca c.P w _ rfl eg, Oper.uponIn_enter]
 refine ⟨fun hdep => nW, ?_⟩
 have hc := callsIn_wide (n := 0) |>.2 (hr w hs)
 refine CallsIn.mono (R := fun e w' => ∃ x, e = .returned (V x) ∧ St c (L' x) (X' x) w') mT ?_
 rintro e w' ⟨x, rfl, hs'⟩
 exact h x a w' (fun i hd => H' (hi i hd)) hf hs'
theorem Zb {L' : α → J3}
  (hg : KW l ops ⟨some i, .call ⟨.value f, args, at_⟩, ty, ps, af, gd⟩ = some true) (hi : Nat.ble (i + 1) c.n = true) (hca : Qw l f args = some (g, vs)) (eg : Enters c.P g)
  (hr : ∀ w, St c L X w → Calls c.P g vs.toArray w fun e w' => ∃ x, e = .returned (V x) ∧ St c (L' x) (X' x) w')
  (h : ∀ x, HL c d ((i, V x) :: l) (L' x) (X' x) ops rest Q) : HL c d l L X ops (⟨some i, .call ⟨.value f, args, at_⟩, ty, ps, af, gd⟩ :: rest) Q :=
 Jl5 hg hca eg hr (fun x a w hlt hf hs => h x _ w (hf.put (hlt i rfl)) hs) (fun j e => by cases e; exact hi)
theorem JC
  (hg : KW l ops ⟨some i, .call ⟨.value f, args, at_⟩, ty, ps, af, gd⟩ = some true) (hi : Nat.ble (i + 1) c.n = true) (hca : Qw l f args = some (g, vs)) (eg : Enters c.P g)
  (hp : Pure c.P g vs.toArray v) (h : HL c d ((i, v) :: l) L X ops rest Q) : HL c d l L X ops (⟨some i, .call ⟨.value f, args, at_⟩, ty, ps, af, gd⟩ :: rest) Q :=
 Zb (α := Unit) (V := fun _ => v) (L' := fun _ => L) (X' := fun _ => X) hg hi hca eg (fun w hs => (hp.run w).mono fun _ _ ⟨he, hk⟩ => ⟨(), he, hs.more hk⟩) (fun _ => h)
def Wd : Nat → List Value → KY
 | _, [] => []
 | k, v :: vs => (k, v) :: Wd (k + 1) vs
theorem Jb0 : ∀ {k i : Nat} {v : Value}, VA (Wd k vs) i = some v → k ≤ i ∧ vs[i - k]? = some v := by
 induction vs with
 | nil => intro k i v h; simp [Wd, VA] at h
 | cons u us ih =>
  intro k i v h
  simp only [Wd, VA] at h
  by_cases e : i = k
  ·subst e; rw [Nat.beq_refl] at h; simp only [Option.some.injEq] at h; subst h; simp
  ·rw [show Nat.beq i k = false from by rw [Bool.eq_false_iff]; exact fun hb => e (Nat.eq_of_beq_eq_true hb)] at h
   obtain ⟨h1, h2⟩ := ih h
   refine ⟨by omega, ?_⟩
   rw [show i - k = (i - (k + 1)) + 1 from by omega]
   simpa using h2
theorem yT {n : Nat} (h : vs.length ≤ n) : Fr n [] (Wd 0 vs) { tmps := vs.toArray ++ Array.replicate (n - vs.toArray.size) undef, defers := [] } := by
 refine ⟨by simp; omega, rfl, fun i v hv => ?_⟩
 obtain ⟨_, h2⟩ := Jb0 hv
 simp only [Nat.sub_zero] at h2
 have hlt := (La'.1 h2).1
 rw [Array.getElem?_append_left (by simpa using hlt)]
 simpa using h2
theorem Vj {f : FuncId} (c : Cx) (hf : P.funcs[f]? = some fn) (hb : fn.body = some code) (hc : c.P = P) (hro : c.ro = none) (hn : c.n = fn.ntmps)
  (hlen : Nat.ble vs.length fn.ntmps = true) (hs : St c L X w) (h : HC c [] (Wd 0 vs) L X code (bodyPostM (FW none) 0 P fn R)) : Calls P f vs.toArray w R := by
 refine callsIn_wide (n := 0) |>.1 (callsIn_of_wp_marks hf hb trivial ?_)
 have h1 := h _ w (yT (n := c.n) (by rw [hn]; exact H' hlen)) hs
 rw [hro, hc, hn] at h1
 exact h1
theorem St.start (P : Program) (ro : Option Nat) (w : World) (n : Nat) : St ⟨P, ro, w, [], [], [], n⟩ [] (fun _ _ => True) w :=
 ⟨Keep.refl _ _, by simp, by simp, by simp, by simp, ⟨[], by simp, fun _ _ => trivial⟩⟩
theorem JA {f : FuncId} (hf : P.funcs[f]? = some fn) (hb : fn.body = some code) (hlen : Nat.ble vs.length fn.ntmps = true)
  (h : ∀ w, HC ⟨P, none, w, [], [], [], fn.ntmps⟩ [] (Wd 0 vs) [] (fun _ _ => True) code (bodyPostM (FW none) 0 P fn (fun e w' => e = .returned v ∧ Keep [] w w')))   : Pure P f vs.toArray v := ⟨fun w =>
 Vj ⟨P, none, w, [], [], [], fn.ntmps⟩ hf hb rfl rfl rfl hlen (St.start P none w _) (h w)⟩
def Jb1 (c : Cx) (l : KY) (L : J3) : ResultVar → Value → Prop
 | .tmp t, v => VA l t = some v
 | .cell a t, v => ∃ r cs e fr, VA l a = some (.pointer (some ⟨r, 0, none⟩)) ∧ known c L r (.cells cs e fr) ∧
   ((WH c.P t = some false ∧ X3 cs.toList 0 = some v) ∨ (∃ vs, WH c.P t = some true ∧ Q9 c.P t = some vs.length ∧ cs.toList.take vs.length = vs ∧ v = .agg vs.toArray))
theorem Jg {tt : Nat} (h : VA l tt = some v) : Jb1 c l L (.tmp tt) v := h
theorem JX {a : Nat} (h1 : VA l a = some (.pointer (some ⟨r, 0, none⟩))) (h2 : known c L r (.cells cs e fr)) (h3 : WH c.P t = some false) (h4 : X3 cs.toList 0 = some v) : Jb1 c l L (.cell a t) v :=
 ⟨r, cs, e, fr, h1, h2, .inl ⟨h3, h4⟩⟩
theorem Jj {a : Nat} (h1 : VA l a = some (.pointer (some ⟨r, 0, none⟩))) (h2 : known c L r (.cells vs.toArray e fr)) (h3 : WH c.P t = some true) (h4 : Q9 c.P t = some vs.length) : Jb1 c l L (.cell a t) (.agg vs.toArray) :=
 ⟨r, _, e, fr, h1, h2, .inr ⟨vs, h3, h4, by simp, rfl⟩⟩
inductive ResAll (c : Cx) (l : KY) (L : J3) : List ResultVar → List Value → Prop
  | nil : ResAll c l L [] []
  | cons {r v rs vs : _} : Jb1 c l L r v → ResAll c l L rs vs → ResAll c l L (r :: rs) (v :: vs)
def QD : List Value → Value
 | [v] => v
 | vs => .tuple vs.toArray
def vS (tmps : Array Value) : ResultVar → Sem Value
 | .tmp t => pure (tmps.getD t undef)
 | .cell b t => do loadVar t (← asAddr (tmps.getD b undef))
theorem Jsm {n : Nat} (hf : Fr n d l a) (hs : St c L X w) {r : ResultVar} (h : Jb1 c l L r v) :
  (vS a.tmps r).run c.P w = .ok v w := by
 cases r with
 | tmp t =>
  have : a.eval (.tmp t) = v := hf.eval (x := .tmp t) h
  simpa [Act.eval, vS] using this
 | cell b t =>
  obtain ⟨r, cs, e, fr, h1, h2, h3⟩ := h
  have hp : a.tmps.getD b undef = .pointer (some ⟨r, 0, none⟩) := hf.eval (x := .tmp b) h1
  simp only [vS, hp, asAddr, Sem.run_bind, Sem.run_pure, Result.andThen]
  rcases h3 with ⟨h3, h4⟩ | ⟨vs, h3, h4, h5, rfl⟩
  ·exact jp h3 (by rw [VY (hs.known h2)]; exact Vn h4)
  ·exact jq h3 h4 (hs.known h2) (by simpa using h5) rfl
theorem qG {n : Nat} (hf : Fr n d l a) (hs : St c L X w) (h : ResAll c l L rs vs) (hr : fn.results = rs.toArray) :
  (results fn a.tmps).run c.P w = .ok (QD vs) w := by
 have key : ∀ {rs : List ResultVar} {vs : List Value}, ResAll c l L rs vs → (rs.mapM (vS a.tmps)).run c.P w = .ok vs w := by
  intro rs vs h
  induction h with
  | nil => rfl
  | cons h1 _ ih =>
   simp only [List.mapM_cons, Sem.run_bind]
   rw [Jsm hf hs h1]
   simp only [Result.andThen]
   rw [ih]
   rfl
 have h2 := key h
 have e : results fn a.tmps = (do
   let vs ← fn.results.mapM (vS a.tmps)
   pure (if h : vs.size = 1 then vs[0] else .tuple vs)) := by
  unfold results
  congr 2
 rw [e, hr]
 simp only [List.mapM_toArray, Sem.run_bind, Sem.run_map, h2, Result.andThen, Sem.run_pure]
 congr 1
 cases vs with
 | nil => rfl
 | cons v us => cases us with
  | nil => rfl
  | cons _ _ => simp [QD]
theorem Jh (hP : c.P = P) (hr : fn.results = rs.toArray) (h : ResAll c l L rs vs) (hR : ∀ w, St c L X w → R (.returned (QD vs)) w) :
  HQ c [] l L X (bodyPostM (FW none) 0 P fn R .ret) := fun a w hf hs => by
 show LeavesInM _ _ _ _ _ _ _ _ _
 rw [hf.defers]
 exact ⟨_, hP ▸ qG hf hs h hr, hR w hs⟩
theorem KP (hP : c.P = P) (hr : fn.results = rs.toArray) (h : ResAll c l L rs vs) (hR : ∀ w, St c L X w → R (.returned (QD vs)) w) :
  HQ c [] l L X (bodyPostM (FW none) 0 P fn R .normal) := Jh hP hr h hR
end
def jt (P : Program) : List Field → Option (List (Nat × Nat))
 | [] => some []
 | f :: fs => match Q9 P f.type, jt P fs with | some n, some r => some ((f.offset, n) :: r) | _, _ => none
def Je2 : Nat → List Value → List Value → List Value
 | _, [], xs => xs
 | _, _ :: _, [] => []
 | 0, n :: ns, _ :: xs => n :: Je2 0 ns xs
 | k + 1, ns, x :: xs => x :: Je2 k ns xs
def ZN (places : Nat → Option (Nat × Nat)) (cells : List Value) : List (Nat × List Value) → Option (List Value)
 | [] => some cells
 | (i, v) :: rest => match places i with
  | none => none
  | some (off, size) => match Nat.beq v.length size, Nat.ble (off + v.length) cells.length with
   | true, true => ZN places (Je2 off v cells) rest
   | _, _ => none
theorem xv : ∀ (off : Nat) (v cs : List Value), off + v.length ≤ cs.length → Je2 off v cs = cs.take off ++ v ++ cs.drop (off + v.length)
 | off, [], cs, _ => by cases off <;> cases cs <;> simp [Je2]
 | 0, n :: ns, x :: xs, h => by
  have := xv 0 ns xs MJ
  simp only [Nat.zero_add, List.take_zero, List.nil_append] at this
  simp [Je2, this]
 | k + 1, n :: ns, x :: xs, h => by
  have := xv k (n :: ns) xs MJ
  simp only [Je2, this, List.take_succ_cons, List.cons_append]
  rw [show k + 1 + (n :: ns).length = (k + (n :: ns).length) + 1 from by omega, List.drop_succ_cons]
 | off, n :: ns, [], h => by simp at h
theorem yU (off : Nat) : ∀ (v : List Value) (j : Nat) (cs : Array Value), off + j + v.length ≤ cs.size →
  ((v.zipIdx j).foldl (fun (cs : Array Value) (p : Value × Nat) => cs.setIfInBounds (off + p.2) p.1) cs).toList = cs.toList.take (off + j) ++ v ++ cs.toList.drop (off + j + v.length)
 | [], j, cs, h => by simp
 | x :: v, j, cs, h => by
  simp only [List.zipIdx_cons, List.foldl_cons]
  rw [yU off v (j + 1) _ MJ]
  simp only [Array.toList_setIfInBounds, List.length_cons]
  simp only [List.length_cons] at h
  have hlt : off + j < cs.toList.length := by simp; omega
  rw [show off + (j + 1) = off + j + 1 from by omega, List.take_succ_eq_append_getElem (by simpa using hlt), List.getElem_set_self, List.take_set_of_le (Lc'), List.drop_set_of_lt m3]
  simp only [Ld', List.cons_append, List.nil_append]
  rw [show off + j + 1 + v.length = off + j + (v.length + 1) from by omega]
theorem vq (places : Nat → Option (Nat × Nat)) : ∀ (parts : KY) (cells : Array Value) (r : List Value), ZN places cells.toList (parts.map fun p => (p.1, p.2.cells.toList)) = some r → Instr.fill places cells parts = some r.toArray
 | [], cells, r, h => by simp only [List.map_nil, ZN, Option.some.injEq] at h; subst h; simp [Instr.fill]
 | (i, v) :: rest, cells, r, h => by
  simp only [List.map_cons, ZN] at h
  simp only [Instr.fill]
  cases hp : places i with
  | none => simp [hp] at h
  | some p =>
   obtain ⟨off, size⟩ := p
   simp only [hp] at h ⊢
   split at h
   ·rename_i h1 h2
    have e1 := Nat.eq_of_beq_eq_true h1
    have e2 := H' h2
    simp only [Array.length_toList] at e1 e2
    rw [if_neg (by simp [e1]; omega)]
    refine vq places rest _ r ?_
    rw [← h]
    congr 1
    have := yU off v.cells.toList 0 cells (by simpa using e2)
    rw [xv off _ _ (by simpa using e2)]
    simp only [Nat.add_zero] at this
    rw [← this, ← Array.foldl_toList]
    simp
   ·cases h
theorem vT {P : Program} : ∀ {fs : List Field} {r : List (Nat × Nat)}, jt P fs = some r → ∀ w, (fs.mapM (fun f => do pure (f.offset, ← sizeOf f.type) : Field → Sem (Nat × Nat))).run P w = .ok r w
 | [], r, h, w => by simp only [jt, Option.some.injEq] at h; subst h; rfl
 | f :: fs, r, h, w => by
  simp only [jt] at h
  split at h
  ·rename_i n r' h1 h2
   simp only [Option.some.injEq] at h; subst h
   simp only [List.mapM_cons, Sem.run_bind, Vz h1, Result.andThen, Sem.run_pure, vT h2]
  ·cases h
def Je3 (P : Program) (t : TypeId) (parts : List (Nat × List Value)) : Option (List Value) :=
 match Vo P t with
 | none => none
 | some z => match P.underlying t with
  | some (.struct fs) => match jt P fs.toList with
   | some pl => ZN (fun i => pl[i]?) z.cells.toList parts
   | none => none
  | some (.array _ e) => match Q9 P e with
   | some n => ZN (fun i => some (i * n, n)) z.cells.toList parts
   | none => none
  | _ => none
theorem Jj6 {r : List Value} (h : Je3 P t (parts.map fun p => (p.1, p.2.cells.toList)) = some r) (w : World) : (Instr.build t parts.toArray).run P w = .ok (.agg r.toArray) w := by
 unfold Je3 at h
 split at h
 ·cases h
 ·rename_i z hz
  unfold Instr.build
  simp only [Sem.run_bind, XZ hz, Result.andThen]
  split at h
  ·rename_i fs hu
   split at h
   ·rename_i pl hpl
    have hf := vq (fun i => pl.toArray[i]?) parts z.cells r Mq
    obtain ⟨fl⟩ := fs
    have hm := vT hpl w
    simp only [underlying, Sem.run_bind, run_program, Result.andThen, hu, Sem.run_pure]
    simp only [List.mapM_toArray, Sem.run_map, hm, Result.andThen, hf, Sem.run_pure]
   ·cases h
  ·rename_i e hu
   split at h
   ·rename_i n hn
    have hf := vq (fun i => some (i * n, n)) parts z.cells r h
    simp only [underlying, Sem.run_bind, run_program, Result.andThen, hu, Sem.run_pure, Vz hn, hf]
   ·cases h
  ·cases h
def X5 (l : KY) : List (Nat × Operand) → Option KY
 | [] => some []
 | (i, x) :: r => match KU l x, X5 l r with | some v, some vs => some ((i, v) :: vs) | _, _ => none
def Vp : KY → List (Nat × List Value)
 | [] => []
 | (i, v) :: r => (i, v.cells.toList) :: Vp r
theorem Vt : ∀ ps : KY, Vp ps = ps.map fun p => (p.1, p.2.cells.toList)
 | [] => rfl
 | (i, v) :: r => by simp [Vp, Vt r]
theorem Wn {n : Nat} {d : List Deferred} {l : KY} {a : Act} (hf : Fr n d l a) : ∀ {xs : List (Nat × Operand)} {vs : KY}, X5 l xs = some vs → (xs.map fun (p : Nat × Operand) => (p.1, a.eval p.2)) = vs
 | [], vs, h => by simp only [X5, Option.some.injEq] at h; subst h; rfl
 | (i, x) :: r, vs, h => by
  simp only [X5] at h
  split at h
  ·rename_i v us h1 h2
   simp only [Option.some.injEq] at h; subst h
   simp [hf.eval h1, Wn hf h2]
  ·cases h
def vU (P : Program) (t : TypeId) (f : Nat) : Option (Nat × Nat) :=
 match P.underlying t with
 | some (.struct fs) => match fs[f]? with
  | some x => match Q9 P x.type with | some n => some (x.offset, n) | none => none
  | none => none
 | _ => none
def qH (P : Program) (t : TypeId) : Option (Nat × TypeId) := match P.underlying t with | some (.array n e) => some (n, e) | _ => none
def Q5 (P : Program) (t : TypeId) : Option TypeId := match P.underlying t with | some (.slice e) => some e | _ => none
theorem Q6 {d : TypeDesc} (h : P.underlying t = some d) (w : World) : (underlying t).run P w = .ok d w := by
 simp [underlying, h]
theorem xw {t n e : Nat} (h : qH P t = some (n, e)) : P.underlying t = some (.array n e) := by
 unfold qH at h; split at h <;> simp_all
theorem Qg {t e : Nat} (h : Q5 P t = some e) : P.underlying t = some (.slice e) := by
 unfold Q5 at h; split at h <;> simp_all
theorem WJ (r off n : Nat) : Addr.add ⟨r, off, none⟩ n = ⟨r, off + n, none⟩ := by
 unfold Addr.add; split
 ·rename_i h; subst h; rfl
 ·rfl
section
variable {c : Cx} {l : KY} {L : J3} {X : XP} {Q : Exit → Act → World → Prop} {d : List Deferred}
variable {ops : Array Oper} {rest : List Oper} {i : Nat} {v : Value} {t : TypeId} {ps : String} {af : Array Edge} {gd : Option (Nat × Bool)} {ty : TypeId}
theorem Jo {vs : KY} {r : List Value} (hp : X5 l pa = some vs) (hb : Je3 c.P t (Vp vs) = some r) :
  Kg c d l L X ⟨some i, .build t pa.toArray, ty, ps, af, gd⟩ (.agg r.toArray) := fun a w hf hs => by
  have h1 := Wn hf hp
  have h2 : (pa.toArray.map fun (p : Nat × Operand) => (p.1, a.eval p.2)) = vs.toArray := by
   apply Array.toList_inj.1; rw [Array.toList_map]; simpa using h1
  rw [Vt] at hb
  have h3 := Jj6 hb w
  rw [← h2] at h3
  refine HZ ?_
  have h4 : (Instr.build t (pa.toArray.map fun (i, x) => (i, a.eval x))).run c.P w = .ok (.agg r.toArray) w := h3
  rw [h4]; rfl
theorem Ja  {f fo n : Nat} (hx : KU l x = some (.pointer (some ⟨r, off, none⟩))) (hfo : vU c.P t f = some (fo, n + 1)) (ho : off + fo = off')
  :
  Kg c d l L X ⟨some i, .fieldAddr t x f, ty, ps, af, gd⟩ (.pointer (some ⟨r, off', none⟩)) := fun a w hf hs => by
  simp only [execOp]; rw [hf.eval hx]
  unfold vU at hfo
  split at hfo
  ·rename_i fs hu
   split at hfo
   ·rename_i y hy
    split at hfo
    ·rename_i m hm
     simp only [Option.some.injEq, Prod.mk.injEq] at hfo
     obtain ⟨h1, h2⟩ := hfo
     subst h1; subst h2; subst ho
     simp [Instr.fieldAt, Instr.sureAddr, Sem.run_bind, Q6 hu, Result.andThen, hy, fieldPlace, Vz hm, WJ]
    ·cases hfo
   ·cases hfo
  ·cases hfo
theorem Ya  {n e : Nat} {k : IntKind} (hx : KU l x = some (.pointer (some ⟨r, off, none⟩))) (hy : KU l y = some (.int k z)) (ha : qH c.P t = some (n, e)) (hm : Q9 c.P e = some m) (hz : z = (j : Int)) (hj : j < n) (ho : off + j * m = off')
  :
  Kg c d l L X ⟨some i, .indexAddr t x y, ty, ps, af, gd⟩ (.pointer (some ⟨r, off', none⟩)) := fun a w hf hs => by
  simp only [execOp]; rw [hf.eval hx, hf.eval hy]
  subst hz; subst ho
  simp [Instr.indexAt, asIntOf, Instr.sureAddr, Sem.run_bind, Q6 (xw ha), Result.andThen, hj, Vz hm, WJ]
theorem Qn  {n e : Nat} {k : IntKind} (hx : KU l x = some (.slice (some ⟨r, off, none⟩) n cap)) (hy : KU l y = some (.int k z)) (ha : Q5 c.P t = some e) (hm : Q9 c.P e = some m) (hz : z = (j : Int)) (hj : j < n) (ho : off + j * m = off')
  :
  Kg c d l L X ⟨some i, .indexAddr t x y, ty, ps, af, gd⟩ (.pointer (some ⟨r, off', none⟩)) := fun a w hf hs => by
  simp only [execOp]; rw [hf.eval hx, hf.eval hy]
  subst hz; subst ho
  simp [Instr.indexAt, asIntOf, Sem.run_bind, Q6 (Qg ha), Result.andThen, hj, Vz hm, WJ]
theorem Je4 {k : IntKind} {s : ByteArray} {b : UInt8} (hx : KU l x = some (.string s)) (hy : KU l y = some (.int k z)) (hu : c.P.underlying t = some .string) (hz : z = (j : Int)) (hv : s[j]? = some b)
  :
  Kg c d l L X ⟨some i, .index t x y, ty, ps, af, gd⟩ (.int .u8 b.toNat) := fun a w hf hs => by
  simp only [execOp]; rw [hf.eval hx, hf.eval hy]
  subst hz
  simp [Instr.index, asIntOf, Sem.run_bind, Q6 hu, Result.andThen, hv]
end
section
variable {ro : Option Nat} {P : Program} {ops : Array Oper} {md : Region.Mode} {C : World → Prop}
theorem Jl6 {K : Act → Prop} (hnd : KM o.op = true) (hw : C w) (h : ∀ a w', C w' → K a → K' a w')
  (hh : o.quietIn (FW ro) 0 P a C K) : o.wpIn (FW ro) 0 P a w K' Q' := by
 obtain ⟨v, h1, h2⟩ := hh
 have h3 := h1 w hw
 unfold Oper.quietAtIn at h3
 refine ⟨Qc, ?_⟩
 rw [Oper.semAt_eq _ _ _ (VJ hnd)]
 cases hr : (execOp a.eval o).run P w with
 | halt x w' => rw [hr] at h3; exact h3.elim
 | ok x w' =>
  rw [hr] at h3
  cases x <;> simp only [Oper.quietUponIn] at h3 <;> simp only [Oper.uponIn]
  case value u => obtain ⟨rfl, rfl⟩ := h3; exact h _ _ hw h2
  case skip => obtain ⟨rfl, rfl⟩ := h3; exact h _ _ hw h2
  case enter f args =>
   obtain ⟨rfl, hd, hc⟩ := h3
   refine ⟨hd, hc.mono ?_⟩
   rintro e w'' ⟨rfl, hw''⟩
   exact h _ _ hw'' h2
theorem Jw7 {K : Act → Prop} (hnd : ∀ (j : Nat) (o : Oper), ops[j]? = some o → KM o.op = true) (hC : C w) (h : ∀ a w', C w' → K a → K' a w')
  (hh : qOpIn (FW ro) 0 P ops C i K a) : wpOpIn (FW ro) 0 P ops Q' i K' a w := by
 unfold qOpIn at hh
 unfold wpOpIn
 cases ho : ops[i]? with
 | none => simp only [ho] at hh; exact h _ _ hC hh
 | some o =>
  simp only [ho] at hh
  show if _ then _ else _
  split
  ·rename_i hw; rw [if_pos hw] at hh; exact Jl6 (hnd i o ho) hC h hh.2
  ·rename_i hw; rw [if_neg hw] at hh; exact ⟨Qc, h _ _ hC hh.2⟩
def Jl7 (ro : Option Nat) (P : Program) (md : Region.Mode) (ops : Array Oper) (C : World → Prop) (m : Nat) (T : Array Bool → Act → Prop) : Nat → Array Bool → Act → Prop
 | 0, listed, a => T listed a
 | f + 1, listed, a => Region.ready md ops listed ≠ [] ∧ ∀ i ∈ Region.ready md ops listed, i < m ∧ qOpIn (FW ro) 0 P ops C i (Jl7 ro P md ops C m T f (listed.setIfInBounds i true)) a
theorem Jg9 {m g : Nat} {T : Array Bool → Act → Prop} {Q' : Exit → Act → World → Prop} (hnd : ∀ (j : Nat) (o : Oper), ops[j]? = some o → KM o.op = true)
  (hT : ∀ listed a w, C w → T listed a → wpAnyIn (FW ro) 0 P md ops Q' g listed a w) :
  ∀ (f : Nat) (listed : Array Bool) (a : Act) (w : World), C w → Jl7 ro P md ops C m T f listed a → wpAnyIn (FW ro) 0 P md ops Q' (f + g) listed a w
 | 0, listed, a, w, hw, h => by rw [Nat.zero_add]; exact hT _ _ _ hw h
 | f + 1, listed, a, w, hw, h => by
  rw [show f + 1 + g = (f + g) + 1 from by omega]
  exact ⟨fun h0 => absurd h0 h.1, fun i hi => Jw7 hnd hw (fun a' w' hw' h' => Jg9 hnd hT f _ a' w' hw' h') (h.2 i hi).2⟩
theorem Je5 {T : Array Bool → Act → Prop} (hi : ops[i]? = some oi) (hsel : ∀ (j : Nat) (o : Oper) cs b, ops[j]? = some o → o.op ≠ .select cs b)
  (hlt : ∀ listed, HeadInv md ops m listed → listed.getD i true = false → ∀ j ∈ Region.ready md ops listed, j < m)
  (hT : ∀ listed a, T listed a → ∀ j ∈ Region.ready md ops listed, m ≤ j) :
  ∀ (f : Nat) (listed : Array Bool) (a : Act), HeadInv md ops m listed →
   (∀ j oj, ops[j]? = some oj → j ≠ i → listed.getD j true = false → (∀ e ∈ oj.after, Region.binds md e = true → e.on ≠ i) → oi.apart ops oj = true) →
   i ∈ Region.ready md ops listed → YieldsQuiet (FW ro) 0 P ops C oi v a →
   Jl7 ro P md ops C m T f (listed.setIfInBounds i true) (a.put oi.dst v) → Jl7 ro P md ops C m T (f + 1) listed a := by
 intro f
 induction f with
 | zero =>
  intro listed a inv _ hr hy H
  refine ⟨fun h => nc, fun j hj => ⟨hlt _ inv (mem_ready.1 hr).1 j hj, ?_⟩⟩
  by_cases hji : j = i
  ·subst hji; exact hy.qOpIn hi H
  ·have h1 := hT _ _ H j (ready_mono hj hji)
   have h2 := hlt _ inv (mem_ready.1 hr).1 j hj
   omega
 | succ f ih =>
  intro listed a inv hfree hr hy H
  refine ⟨fun h => nc, fun j hj => ?_⟩
  have hjm := hlt _ inv (mem_ready.1 hr).1 j hj
  refine ⟨hjm, ?_⟩
  by_cases hji : j = i
  ·subst hji; exact hy.qOpIn hi H
  ·have h1 := (H.2 j (ready_mono hj hji)).2
   obtain ⟨hjun, oj, hoj, hall⟩ := mem_ready.1 hj
   have hnot : ∀ e ∈ oj.after, Region.binds md e = true → e.on ≠ i := fun e he hb heq => by
    have h2 := hall e he hb
    rw [heq, getD_both (mem_ready.1 hr).1] at h2
    cases h2
   have h2 := qOpIn_put hoj (hfree j oj hoj hji hjun hnot) (fun cs b => hsel i oi cs b hi) (fun cs b => hsel j oj cs b hoj) hy h1
   have hfree' : ∀ k ok, ops[k]? = some ok → k ≠ i → (listed.setIfInBounds j true).getD k true = false →
     (∀ e ∈ ok.after, Region.binds md e = true → e.on ≠ i) → oi.apart ops ok = true := fun k ok hk hki hun hno => by
    refine hfree k ok hk hki ?_ hno
    by_cases hjk : j = k
    ·subst hjk; exact hjun
    ·rw [getD_set_ne true hjk] at hun; exact hun
   refine qOpIn_mono (fun a' h3 => ih (listed.setIfInBounds j true) a' (inv.set hj hjm) hfree' (ready_mono hr (Ne.symm hji)) h3.1 ?_) h2
   rw [Array.setIfInBounds_comm _ _ hji]
   exact h3.2
theorem WY {Q' : Exit → Act → World → Prop} : ∀ (l : List Oper) (k : Nat) (listed : Array Bool) (a : Act) (w : World), (∀ j, l[j]? = ops[k + j]?) →
  Region.seqB md ops l.length k listed = true → wpListIn (FW ro) 0 P ops Q' l a w → wpAnyIn (FW ro) 0 P md ops Q' l.length listed a w
 | [], _, _, _, _, _, hB, h => ⟨by simpa [Region.seqB] using hB, h⟩
 | o :: l, k, listed, a, w, hl, hB, h => by
  have h0 : ops[k]? = some o := by simpa using (hl 0).symm
  simp only [List.length_cons, Region.seqB, Bool.and_eq_true, decide_eq_true_eq] at hB
  refine ⟨fun h1 => (by rw [hB.1] at h1; cases h1), fun i hi => ?_⟩
  rw [hB.1] at hi
  have hik : i = k := by simpa using hi
  subst hik
  have hw : wpOpIn (FW ro) 0 P ops Q' i (wpListIn (FW ro) 0 P ops Q' l) a w := by unfold wpOpIn; simp only [h0]; exact h
  exact wpOpIn_mono (fun a' w' h' => WY l (i + 1) _ a' w' (fun j => by have := hl (j + 1); simpa [Nat.add_assoc, Nat.add_comm 1 j] using this) hB.2 h') hw
theorem Jb2 {m g : Nat} {T : Act → Prop} (hsel : Region.noSelect ops = true) (hlt : ∀ i, i < m → ∀ listed, HeadInv md ops m listed → listed.getD i true = false → ∀ j ∈ Region.ready md ops listed, j < m)
  (hseq : ∀ listed, Region.seqB md ops g m listed = true → ∀ j ∈ Region.ready md ops listed, m ≤ j) :
  ∀ (l : List Oper) (k : Nat) (listed : Array Bool) (a : Act), (∀ j, j < l.length → l[j]? = ops[k + j]?) → k + l.length = m → HeadInv md ops m listed →
  Region.lexHead md ops g l.length k listed = true → wpQuietIn (FW ro) 0 P ops C T l a →
  Jl7 ro P md ops C m (fun listed' a' => Region.seqB md ops g m listed' = true ∧ T a') l.length listed a
 | [], k, listed, a, _, hk, _, hB, h => by
  have : k = m := by simpa using hk
  subst this
  exact ⟨by simpa [Region.lexHead] using hB, h⟩
 | o :: l, k, listed, a, hl, hk, inv, hB, h => by
  have h0 : ops[k]? = some o := by simpa using (hl 0 mf).symm
  simp only [List.length_cons, Region.lexHead, Bool.and_eq_true] at hB
  obtain ⟨⟨hr, hf⟩, hB'⟩ := hB
  have hkm : k < m := by simp only [List.length_cons] at hk; omega
  have hr' : k ∈ Region.ready md ops listed := by simpa using hr
  have hst : qOpIn (FW ro) 0 P ops C k (wpQuietIn (FW ro) 0 P ops C T l) a := by unfold qOpIn; simp only [h0]; exact h
  obtain ⟨v, hy, hK⟩ := yieldsQuiet_of_qOpIn h0 hst
  exact Je5 h0 (Region.noSelect_spec hsel) (hlt k hkm) (fun listed' a' hL => hseq _ hL.1) l.length listed a inv (Region.free_spec h0 hf) hr' hy
   (Jb2 hsel hlt hseq l (k + 1) _ _ (fun j hj => by have := hl (j + 1) mL; simpa [Nat.add_assoc, Nat.add_comm 1 j] using this) (by simp only [List.length_cons] at hk; omega) (inv.set hr' hkm) hB' hK)
def Jwb (ops : List Oper) (m : Nat) : Bool :=
 (ops.all fun o => KM o.op) && Region.noSelect ops.toArray && Nat.ble m ops.length &&
 (Nat.beq m ops.length || (Region.sinkB .any ops.toArray m && Region.chainB .any ops.toArray m)) &&
 Region.lexHead .any ops.toArray (ops.length - m) m 0 (Array.replicate ops.length false)
end
section
variable {c : Cx} {l : KY} {L : J3} {X : XP} {Q : Exit → Act → World → Prop} {d : List Deferred}
variable {ops : Array Oper} {rest : List Oper} {i : Nat} {v : Value} {o : Oper} {T : Act → Prop}
def HD (c : Cx) (d : List Deferred) (l : KY) (L : J3) (X : XP) (ops : Array Oper) (rest : List Oper) (T : Act → Prop) : Prop :=
 ∀ a, Fr c.n d l a → wpQuietIn (FW c.ro) 0 c.P ops (St c L X) T rest a
theorem KB {ops : List Oper} (m : Nat) (hm : c.P.follows .mixedOrders = true) (hB : Jwb ops m = true)
  (h : HD c d l L X ops.toArray (ops.take m) (fun a' => ∀ w, St c L X w → wpListIn (FW c.ro) 0 c.P ops.toArray Q (ops.drop m) a' w)) : HC c d l L X (.region id ops.toArray true) Q := fun a w hf hs => by
 simp only [Jwb, Bool.and_eq_true, Bool.or_eq_true] at hB
 obtain ⟨⟨⟨⟨h1, hsel⟩, hle⟩, hsc⟩, hlex⟩ := hB
 have hle' := H' hle
 have hnd : ∀ (j : Nat) (o : Oper), ops.toArray[j]? = some o → KM o.op = true := fun j o ho => List.all_eq_true.1 h1 o (List.mem_of_getElem? Ml)
 have htl : (ops.take m).length = m := by simp; omega
 have hdl : (ops.drop m).length = ops.length - m := by simp
 have hlt : ∀ i, i < m → ∀ listed, HeadInv .any ops.toArray m listed → listed.getD i true = false → ∀ j ∈ Region.ready .any ops.toArray listed, j < m := by
  intro i hi listed inv hun j hj
  rcases Nat.lt_or_ge j m with hjm | hjm
  exact hjm
  have hjs : j < ops.length := by obtain ⟨_, oj, hoj, _⟩ := mem_ready.1 hj; simpa using (Array.getElem?_eq_some_iff.1 hoj).1
  rcases hsc with h0 | ⟨h2, h3⟩
  exact F4
  exact Dd
 have inv0 : HeadInv .any ops.toArray m (Array.replicate ops.length false) :=
  ⟨by simp, fun j oj _ hl => nL, fun t _ ht => getD_in MI (getD_replicate_false _ _)⟩
 have H := Jb2 (ro := c.ro) (P := c.P) (C := St c L X) (md := .any) (g := ops.length - m) hsel hlt (fun listed hq => seqB_ready hq) (ops.take m) 0 _ a
  (fun j hj => by
   have hj' : j < m := by rw [htl] at hj; exact hj
   simp [hj']) (by simpa using htl) inv0 (by rw [htl]; exact hlex) (h a hf)
 refine wpIn_region_any hm ?_
 have := Jg9 (Q' := Q) (g := ops.length - m) hnd (fun listed a' w' hw' hL => by
  have := WY (ro := c.ro) (P := c.P) (md := .any) (Q' := Q) (ops.drop m) m listed a' w' (fun j => by simp [List.getElem?_drop]) MK (hL.2 w' hw')
  rwa [hdl] at this) _ _ _ _ hs.drew H
 rw [htl, show m + (ops.length - m) = ops.toArray.size from by simp; omega] at this
 simpa using this
theorem KR (h : HL c d l L X ops tail Q) : HD c d l L X ops [] (fun a' => ∀ w, St c L X w → wpListIn (FW c.ro) 0 c.P ops Q tail a' w) := fun a hf w hs => h a w hf hs
theorem Jt (hg : KW l ops o = some true) (hd : o.dst = some i) (hi : Nat.ble (i + 1) c.n = true) (hr : Kg c d l L X o v) (h : HD c d ((i, v) :: l) L X ops rest T) : HD c d l L X ops (o :: rest) T := fun a hf => by
 refine ⟨fun _ _ _ _ => trivial, ?_⟩
 rw [if_pos (Kh hf hg)]
 refine ⟨v, fun w hs => ?_, ?_⟩
 ·unfold Oper.quietAtIn; rw [hr a w hf hs]; exact ⟨rfl, rfl⟩
 ·rw [hd]; exact h _ (hf.put (H' hi))
theorem Kp (hg : KW l ops o = some false) (hd : o.dst = some i) (hi : Nat.ble (i + 1) c.n = true) (h : HD c d ((i, undef) :: l) L X ops rest T) : HD c d l L X ops (o :: rest) T := fun a hf => by
 refine ⟨fun _ _ _ _ => trivial, ?_⟩
 rw [if_neg (by rw [Kh hf hg]; simp), hd]
 exact h _ (hf.put (H' hi))
theorem Jha {n : Nat} {b b' : Bool} {t : Nat} (hf : Fr n d l a) (ht : VA l t = some (.bool b)) (e : b' = b) : Fr n d ((t, .bool b') :: l) a := hf.weak fun i v hv => by
 simp only [VA] at hv
 by_cases e' : i = t
 ·subst e'; rw [Nat.beq_refl] at hv; subst e; rw [ht]; exact hv
 ·rw [show Nat.beq i t = false from by rw [Bool.eq_false_iff]; exact fun hb => e' (Nat.eq_of_beq_eq_true hb)] at hv; exact hv
theorem vr {b : Bool} (t : Nat) (ht : VA l t = some (.bool b)) (h1 : b = true → HD c d ((t, .bool true) :: l) L X ops rest T) (h0 : b = false → HD c d ((t, .bool false) :: l) L X ops rest T) : HD c d l L X ops rest T := fun a hf => by
 cases hb : b with
 | true => exact h1 hb a (Jha hf ht hb.symm)
 | false => exact h0 hb a (Jha hf ht hb.symm)
theorem Vu
  (hg : KW l ops ⟨some i, .call ⟨.value f, args, at_⟩, ty, ps, af, gd⟩ = some true) (hi : Nat.ble (i + 1) c.n = true) (hca : Qw l f args = some (g, vs)) (eg : Enters c.P g)
  (hp : Pure c.P g vs.toArray v) (h : HD c d ((i, v) :: l) L X ops rest T) : HD c d l L X ops (⟨some i, .call ⟨.value f, args, at_⟩, ty, ps, af, gd⟩ :: rest) T := fun a hf => by
 refine ⟨fun _ _ _ _ => trivial, ?_⟩
 rw [if_pos (Kh hf hg)]
 refine ⟨v, fun w hs => ?_, h _ (hf.put (H' hi))⟩
 unfold Oper.quietAtIn
 rw [VK hf hca c.P w _ rfl eg]
 refine ⟨rfl, fun hdep => nW, ?_⟩
 have hc := callsIn_wide (n := 0) |>.2 (hp.run w)
 refine CallsIn.mono mT ?_
 rintro e w' ⟨rfl, hk⟩
 exact ⟨rfl, hs.more hk⟩
inductive LookAll (l : KY) : KY → Prop
  | nil : LookAll l []
  | cons {i v r : _} : VA l i = some v → LookAll l r → LookAll l ((i, v) :: r)
theorem oR : ∀ q ∈ B, q ∈ A ∨ q ∈ B := fun _ h => Or.inr h
theorem oN {p : Nat × Obj → Prop} : ∀ q ∈ ([] : J3), p q := fun _ h => nomatch h
theorem lK {l r : KY} (h : r.map (fun p => VA l p.1) = r.map fun p => some p.2) : LookAll l r := by
  induction r with
  | nil => exact .nil
  | cons p r ih => obtain ⟨i, v⟩ := p; simp only [List.map_cons, List.cons.injEq] at h; exact .cons h.1 (ih h.2)
theorem LookAll.get {l : KY} : ∀ {r : KY}, LookAll l r → ∀ i v, VA r i = some v → VA l i = some v
 | _, .nil, i, v, h => by cases h
 | (j, u) :: r, .cons h1 h2, i, v, h => by
  simp only [VA] at h
  by_cases e : i = j
  ·subst e; rw [Nat.beq_refl] at h; simp only [Option.some.injEq] at h; subst h; exact h1
  ·rw [show Nat.beq i j = false from by rw [Bool.eq_false_iff]; exact fun hb => e (Nat.eq_of_beq_eq_true hb)] at h
   exact h2.get i v h
def Jl8 {σ : Type} (c : Cx) (d : List Deferred) (I : σ → Prop) (lI : σ → KY) (LI : σ → J3) (XI : σ → XP) (μ : σ → Nat) (s : σ) (a : Act) (w : World) : Prop :=
 ∃ s', I s' ∧ μ s' < μ s ∧ Fr c.n d (lI s') a ∧ St c (LI s') (XI s') w
theorem Jsn (I : σ → Prop) (lI : σ → KY) (LI : σ → J3) (XI : σ → XP) (μ : σ → Nat) (s0 : σ) (h0 : I s0) (hl : LookAll l (lI s0)) (hL : (LI s0).Sublist L) (hX : ∀ xs w, X xs w → XI s0 xs w)
  (hr : ∀ s, I s → HC c d (lI s) (LI s) (XI s) body (Exit.then (Jl8 c d I lI LI XI μ s) Q)) : HC c d l L X (.loop body) Q := fun a w hf hs => by
 have least : ∀ p : Nat → Prop, (∃ m, p m) → ∃ m, p m ∧ ∀ k, p k → m ≤ k := by
  intro p ⟨m, hm⟩
  induction m using Nat.strongRecOn with
  | _ m ih =>
   by_cases hx : ∃ k, k < m ∧ p k
   obtain ⟨k, hk, hp⟩ := hx; exact ih k hk hp
   exact ⟨m, hm, fun k hp => Nat.le_of_not_lt fun hlt => hx ⟨k, hlt, hp⟩⟩
 let p : Act → World → Nat → Prop := fun a w m => ∃ s, I s ∧ Fr c.n d (lI s) a ∧ St c (LI s) (XI s) w ∧ μ s = m
 have meas : ∃ f : Act → World → Nat, ∀ a w, (∃ m, p a w m) → p a w (f a w) ∧ ∀ k, p a w k → f a w ≤ k := by
  have h1 : ∀ a w, ∃ m, (∃ m, p a w m) → p a w m ∧ ∀ k, p a w k → m ≤ k := fun a w => by
   by_cases hx : ∃ m, p a w m
   obtain ⟨m, hm⟩ := least _ hx; exact ⟨m, fun _ => hm⟩
   exact ⟨0, fun hy => absurd hy hx⟩
  exact ⟨fun a w => Classical.choose (h1 a w), fun a w => Classical.choose_spec (h1 a w)⟩
 obtain ⟨f, hfm⟩ := meas
 refine wpIn_loop (fun a w => ∃ m, p a w m) f ⟨μ s0, s0, h0, hf.weak hl.get, (hs.weakL hL).weakX hX, rfl⟩ ?_
 intro a w hp
 obtain ⟨⟨s, h1, h2, h3, h4⟩, _⟩ := hfm a w hp
 refine wpIn_mono (hr s h1 a w h2 h3) ?_
 intro e a' w' hq
 cases e with
 | normal =>
  obtain ⟨s', g1, g2, g3, g4⟩ := hq
  have hp' : p a' w' (μ s') := ⟨s', g1, g3, g4, rfl⟩
  refine ⟨⟨_, hp'⟩, ?_⟩
  have := (hfm a' w' ⟨_, hp'⟩).2 _ hp'
  omega
 | _ => exact hq
theorem JL {lI : σ → KY} {XI : σ → XP} {μ : σ → Nat} {s : σ} (s' : σ) (h1 : I s') (h2 : μ s' < μ s) (h3 : LookAll l (lI s')) (h4 : (LI s').Sublist L) (h5 : ∀ xs w, X xs w → XI s' xs w) :
  HQ c d l L X (Jl8 c d I lI LI XI μ s) := fun _ _ hf hs => ⟨s', h1, h2, hf.weak h3.get, (hs.weakL h4).weakX h5⟩
end
theorem wrap_i64 (h1 : -9223372036854775808 ≤ z) (h2 : z ≤ 9223372036854775807) : IntKind.i64.wrap z = z := by rw [IntKind.wrap_i64]; omega
theorem wrap_u64 (h1 : 0 ≤ z) (h2 : z ≤ 18446744073709551615) : IntKind.u64.wrap z = z := by
 show z % (2 ^ 64 : Int) = z
 omega
theorem Jhb (h1 : 0 ≤ z) (h2 : z ≤ 255) : IntKind.u8.wrap z = z := by
 show z % (2 ^ 8 : Int) = z
 omega
section
variable {c : Cx} {l : KY} {L : J3} {X : XP} {Q : Exit → Act → World → Prop} {d : List Deferred} {T : Act → Prop}
variable {ops : Array Oper} {rest : List Oper} {i : Nat} {v : Value} {t : TypeId} {ps : String} {af : Array Edge} {gd : Option (Nat × Bool)} {ty : TypeId}
theorem JT (h1 : -9223372036854775808 ≤ z) (h2 : z ≤ 9223372036854775807) (h : HL c d ((i, .int .i64 z) :: l) L X ops rest Q) : HL c d ((i, .int .i64 (IntKind.i64.wrap z)) :: l) L X ops rest Q := by rw [wrap_i64 h1 h2]; exact h
theorem Ql (h1 : 0 ≤ z) (h2 : z ≤ 18446744073709551615) (h : HL c d ((i, .int .u64 z) :: l) L X ops rest Q) : HL c d ((i, .int .u64 (IntKind.u64.wrap z)) :: l) L X ops rest Q := by rw [wrap_u64 h1 h2]; exact h
theorem QA (h1 : -9223372036854775808 ≤ z) (h2 : z ≤ 9223372036854775807) (h : HD c d ((i, .int .i64 z) :: l) L X ops rest T) : HD c d ((i, .int .i64 (IntKind.i64.wrap z)) :: l) L X ops rest T := by rw [wrap_i64 h1 h2]; exact h
theorem Jb3 (h1 : 0 ≤ z) (h2 : z ≤ 18446744073709551615) (h : HD c d ((i, .int .u64 z) :: l) L X ops rest T) : HD c d ((i, .int .u64 (IntKind.u64.wrap z)) :: l) L X ops rest T := by rw [wrap_u64 h1 h2]; exact h
theorem Zq {a b : Int} (h1 : 0 ≤ a) (h2 : 0 < b) (h3 : a ≤ 9223372036854775807) : IntKind.i64.wrap (a.tdiv b) = a / b := by
 rw [Int.tdiv_eq_ediv_of_nonneg h1]
 have h4 : a / b ≤ a := Int.ediv_le_self b h1
 have h5 : 0 ≤ a / b := Int.ediv_nonneg h1 m3
 exact wrap_i64 m3 m3
theorem Jw8 {a b : Int} (h1 : 0 ≤ a) (h2 : 0 < b) (h3 : a ≤ 9223372036854775807) (h : HL c d ((i, .int .i64 (a / b)) :: l) L X ops rest Q) : HL c d ((i, .int .i64 (IntKind.i64.wrap (a.tdiv b))) :: l) L X ops rest Q := by rw [Zq h1 h2 h3]; exact h
theorem Jw9 {a b : Int} (h1 : 0 ≤ a) (h2 : 0 < b) (h3 : a ≤ 9223372036854775807) (h : HD c d ((i, .int .i64 (a / b)) :: l) L X ops rest T) : HD c d ((i, .int .i64 (IntKind.i64.wrap (a.tdiv b))) :: l) L X ops rest T := by rw [Zq h1 h2 h3]; exact h
theorem Jxa {k : IntKind} {a b : Int} (h1 : 0 ≤ a) (h : HL c d ((i, .int k (a % b)) :: l) L X ops rest Q) : HL c d ((i, .int k (a.tmod b)) :: l) L X ops rest Q := by rw [Int.tmod_eq_emod_of_nonneg h1]; exact h
theorem Jxb {k : IntKind} {a b : Int} (h1 : 0 ≤ a) (h : HD c d ((i, .int k (a % b)) :: l) L X ops rest T) : HD c d ((i, .int k (a.tmod b)) :: l) L X ops rest T := by rw [Int.tmod_eq_emod_of_nonneg h1]; exact h
theorem WK (e : v = v') (h : HD c d ((i, v') :: l) L X ops rest T) : HD c d ((i, v) :: l) L X ops rest T := e ▸ h
def Je6 (P : Program) (t : TypeId) : Option Nat := match P.info? t with | some i => some i.bytes | none => none
theorem vu  {e b : Nat} {z : Value} (h1 : Vo P e = some z) (h2 : Q9 P e = some sz) (h3 : Je6 P e = some b) : ∃ i, P.info? e = some i ∧ i.zero = some z ∧ i.size = sz ∧ i.bytes = b := by
 unfold Vo at h1; unfold Q9 at h2; unfold Je6 at h3
 cases hi : P.info? e with
 | none => simp [hi] at h1
 | some i => simp only [hi, Option.some.injEq] at h1 h2 h3; exact ⟨i, rfl, h1, h2, h3⟩
inductive SlOwn (L : J3) (e sz : Nat) : Value → Nat → List Value → J3 → Prop
  | nil : SlOwn L e sz (.slice none 0 0) 0 [] L
  | own {k r n cap : Nat} {cs : Array Value} {xs : List Value} {L0 : J3} (h : L[k]? = some (r, .cells cs e (0, 0))) (hx : cs.toList.take (n * sz) = xs) (hl : xs.length = n * sz) (hc : cs.size = cap * sz) (hL : L.eraseIdx k = L0) :
      SlOwn L e sz (.slice (some ⟨r, 0, none⟩) n cap) n xs L0
theorem Jb4 {α : Type} : ∀ {L : List α} {k : Nat} (_ : k < L.length) (a : α), (L.set k a).Perm (a :: L.eraseIdx k)
 | [], k, h, a => by simp at h
 | x :: L, 0, h, a => by simp
 | x :: L, k + 1, h, a => by
  simp only [List.set_cons_succ, List.eraseIdx_cons_succ]
  exact ((Jb4 Mq a).cons x).trans (List.Perm.swap a x _)
theorem St.perm (h : St c L X w) (hp : L.Perm L') : St c L' X w :=
 ⟨h.keep, fun p hm => h.own p (hp.symm.subset hm), (hp.pairwise_iff (fun hab => hab.symm)).1 h.distinct, h.ext, h.xlt, h.x.sub fun p hm => ⟨p.2, hp.symm.subset hm⟩⟩
theorem ju (r off j : Nat) : (⟨r, off, none⟩ : Addr).add j = ⟨r, off + j, none⟩ := WJ r off j
theorem ZU {n : Nat} (h : w.heap[r]? = some (.cells cs e fr)) (hn : (cs.toList.drop off).take n = news) :
  ∀ (j : Nat) (u : Value), news[j]? = some u → w.cell? ((⟨r, off, none⟩ : Addr).add j) = some u := fun j u hu => by
 subst hn
 rw [ju, VY h]
 rw [List.getElem?_take] at hu
 split at hu
 ·rw [List.getElem?_drop] at hu; simpa using hu
 ·cases hu
theorem yV {x y : Operand} {e sz b r2 off2 m c2 e2 n : Nat} {z : Value} {fr2 : Nat × Nat} {cs2 : Array Value} {news xs : List Value} {L0 : J3}
  (hg : KW l ops ⟨some i, .call ⟨.builtin .append, #[x, y], #[t, t]⟩, ty, ps, af, gd⟩ = some true) (hi : Nat.ble (i + 1) c.n = true)
  (hx : KU l x = some v) (hy : KU l y = some (.slice (some ⟨r2, off2, none⟩) m c2)) (hk2 : known c L r2 (.cells cs2 e2 fr2))
  (ht : Q5 c.P t = some e) (hz : Vo c.P e = some z) (hs : Q9 c.P e = some sz) (hb : Je6 c.P e = some b) (hzs : z.cells.size = sz) (hsz : 0 < sz)
  (hn : (cs2.toList.drop off2).take (m * sz) = news) (hln : news.length = m * sz) (hone : news.all VU = true) (hm : 0 < m)
  (ho : SlOwn L e sz v n xs L0) (h63 : n + m ≤ 9223372036854775807) (h47 : (n + m) * b ≤ 140737488355328)
  (h : ∀ r' cap' spare, (n + m) * sz + spare.length = cap' * sz → HL c d ((i, .slice (some ⟨r', 0, none⟩) (n + m) cap') :: l) ((r', .cells (xs ++ news ++ spare).toArray e (0, 0)) :: L0) X ops rest Q) :
  HL c d l L X ops (⟨some i, .call ⟨.builtin .append, #[x, y], #[t, t]⟩, ty, ps, af, gd⟩ :: rest) Q := by
 obtain ⟨inf, hinf, hz', hs', hb'⟩ := vu hz hs hb
 subst hs' hb'
 have hone' : ∀ u ∈ news, u.oneCell' = true := fun u hu => by rw [X4]; exact List.all_eq_true.1 hone u hu
 refine WE (α := { p : Nat × Nat × List Value // (n + m) * inf.size + p.2.2.length = p.2.1 * inf.size }) (V := fun p => .slice (some ⟨p.1.1, 0, none⟩) (n + m) p.1.2.1)
  (L' := fun p => (p.1.1, .cells (xs ++ news ++ p.1.2.2).toArray e (0, 0)) :: L0) (X' := fun _ => X) hg rfl rfl hi (fun a w hf hst => ?_) (fun p => h p.1.1 p.1.2.1 p.1.2.2 p.2)
 have hnews := ZU (hst.known hk2) hn
 have exec : ∀ r w', (Builtin.append_ #[t, t] ty #[v, .slice (some ⟨r2, off2, none⟩) m c2]).run c.P w = .ok r w' →
   (execOp a.eval ⟨some i, .call ⟨.builtin .append, #[x, y], #[t, t]⟩, ty, ps, af, gd⟩).run c.P w = .ok (.value r) w' := fun r w' hr => by
  have ex := hf.eval hx
  have ey := hf.eval hy
  simp [execOp, resolve, Sem.run_bind, ex, ey, Result.andThen, invoke, builtin, hr]
 have newcase : ∀ (xs : List Value) (L0 : J3) (old : Nat) (_ : L0.Sublist L) (_ : xs.length = n * inf.size), St c ((w.heap.size, .cells (xs.toArray ++ news.toArray ++ Builtin.zeroCells z.cells (grownCap w (n + m) old e - (n + m))) e (0, 0)) :: L0) X
   (w.drew.alloc (.cells (xs.toArray ++ news.toArray ++ Builtin.zeroCells z.cells (grownCap w (n + m) old e - (n + m))) e)) ∧
   (n + m) * inf.size + (Builtin.zeroCells z.cells (grownCap w (n + m) old e - (n + m))).toList.length = grownCap w (n + m) old e * inf.size := fun xs L0 old hsub hxl => by
  refine ⟨(hst.drew.weakL hsub).alloc _, ?_⟩
  have hge := grownCap_ge w (n + m) old e
  rw [Array.length_toList, size_zeroCells, hzs, ← Nat.add_mul]
  congr 1; omega
 cases ho with
 | nil =>
  have hr := run_append_nil (P := c.P) w t ty e inf z (Qg ht) hinf hz' ⟨r2, off2, none⟩ m c2 news hln hnews hm (by simp at h63; omega) (by simp only [Nat.zero_add] at h47; omega)
  obtain ⟨h1, h2⟩ := newcase [] L 0 (T') mf
  simp only [Nat.zero_add] at h1 h2
  refine ⟨⟨(w.heap.size, grownCap w m 0 e, (Builtin.zeroCells z.cells (grownCap w m 0 e - m)).toList), by simpa using h2⟩, _, exec _ _ (by simpa using hr), ?_⟩
  have e1 : (#[] ++ news.toArray ++ Builtin.zeroCells z.cells (grownCap w m 0 e - m)) = ([] ++ news ++ (Builtin.zeroCells z.cells (grownCap w m 0 e - m)).toList).toArray := by
   apply Array.toList_inj.1; simp
  simp only [Nat.zero_add]
  rw [← e1]
  simpa using h1
 | @own k r n cap cs xs L0 hk hxx hl hc hL =>
  have hget := hst.get hk
  by_cases hroom : n + m ≤ cap
  ·have hfit : n * inf.size + news.length ≤ cs.size := by rw [hln, hc, ← Nat.add_mul]; exact Nat.mul_le_mul_right _ hroom
   have hr := run_append_room (P := c.P) w t ty e inf (Qg ht) hinf r n cap cs hget ⟨r2, off2, none⟩ m c2 news hln hnews hone' hroom hfit
   refine ⟨⟨(r, cap, cs.toList.drop (n * inf.size + news.length)), ?_⟩, _, exec _ _ hr, ?_⟩
   ·simp only [List.length_drop, Array.length_toList]
    rw [hln, hc] at hfit ⊢
    rw [Nat.add_mul]; omega
   ·have h1 := hst.set hk (Keep.setRow r (cs.toList.take (n * inf.size) ++ news ++ cs.toList.drop (n * inf.size + news.length)).toArray) (setRow_heap _ _ _ _ _ _ hget)
    have h2 := h1.perm (Jb4 (by exact (La'.1 hk).1) _)
    rw [hxx, hL] at h2
    rw [hxx]
    exact h2
  ·have holds : ∀ (j : Nat) (u : Value), xs[j]? = some u → w.cell? ((⟨r, 0, none⟩ : Addr).add j) = some u := ZU hget (by simpa using hxx)
   have hr := run_append_grow (P := c.P) w t ty e inf z (Qg ht) hinf hz' ⟨r, 0, none⟩ n cap xs hl holds ⟨r2, off2, none⟩ m c2 news hln hnews m3 m3 (growslice_fits m3 h47)
   obtain ⟨h1, h2⟩ := newcase xs L0 cap (by subst hL; exact List.eraseIdx_sublist _ _) hl
   refine ⟨⟨(w.heap.size, grownCap w (n + m) cap e, (Builtin.zeroCells z.cells (grownCap w (n + m) cap e - (n + m))).toList), h2⟩, _, exec _ _ hr, ?_⟩
   have e1 : (xs.toArray ++ news.toArray ++ Builtin.zeroCells z.cells (grownCap w (n + m) cap e - (n + m))) = (xs ++ news ++ (Builtin.zeroCells z.cells (grownCap w (n + m) cap e - (n + m))).toList).toArray := by
    apply Array.toList_inj.1; simp
   rw [← e1]
   exact h1
theorem KI (z : Value) (n : Nat) : madeCells #[z] n = (List.replicate n z).toArray := by
 apply Array.toList_inj.1
 apply List.ext_getElem?
 intro j
 simp only [madeCells, Array.toList_map, Array.toList_range, List.getElem?_map, List.getElem?_replicate]
 by_cases h : j < n
 ·simp [h, List.getElem?_range h, Nat.mod_one]
 ·simp [h]
theorem Y1 {e b n : Nat} {z : Value} {kx ky : IntKind} (hg : KW l ops ⟨some i, .makeSlice t x y, ty, ps, af, gd⟩ = some true) (hi : Nat.ble (i + 1) c.n = true)
  (hx : KU l x = some (.int kx (n : Int))) (hy : KU l y = some (.int ky (n : Int))) (ht : Q5 c.P t = some e) (hz : Vo c.P e = some z) (hs : Q9 c.P e = some 1) (hb : Je6 c.P e = some b) (hzs : z.cells = #[z])
  (h48 : b * n ≤ 281474976710656) (h63 : n ≤ 9223372036854775807)
  (h : ∀ r, HL c d ((i, .slice (some ⟨r, 0, none⟩) n n) :: l) ((r, .cells (List.replicate n z).toArray e (0, 0)) :: L) X ops rest Q) : HL c d l L X ops (⟨some i, .makeSlice t x y, ty, ps, af, gd⟩ :: rest) Q := by
 obtain ⟨inf, hinf, hz', hs', hb'⟩ := vu hz hs hb
 refine WE (V := fun r => .slice (some ⟨r, 0, none⟩) n n) (L' := fun r => (r, .cells (List.replicate n z).toArray e (0, 0)) :: L) (X' := fun _ => X) hg O O hi (fun a w hf hst => ?_) h
 refine ⟨w.heap.size, w.alloc (.cells (List.replicate n z).toArray e), ?_, hst.alloc _⟩
 have hr := run_make (P := c.P) w t e inf z (Qg ht) hinf hz' kx ky n n m3 m3 Mf m3
 rw [hs', hzs, Nat.mul_one, KI] at hr
 simp only [Int.toNat_natCast] at hr
 refine HZ ?_
 rw [hf.eval hx, hf.eval hy, hr]
 rfl
theorem Xe  {t e n : Nat} {z : Value} {r : List Value} (ht : Q5 P t = some e) (hz : Vo P e = some z) (hs : Q9 P e = some sz) (hzs : z.cells.size = sz) (hb : n * sz ≤ 16777216) (h0 : 0 < n * sz)
  (h : ZN (fun i => some (i * sz, sz)) (madeCells z.cells (n * sz)).toList (parts.map fun p => (p.1, p.2.cells.toList)) = some r) (w : World) :
  (Instr.buildSlice t n parts.toArray).run P w = .ok (.slice (some ⟨w.heap.size, 0, none⟩) n n) (w.alloc (.cells r.toArray e)) := by
 have hf := vq (fun i => some (i * sz, sz)) parts (madeCells z.cells (n * sz)) r h
 have n1 : ¬ (n * sz > 2 ^ 24) := by omega
 have n2 : ¬ (n * sz = 0) := by omega
 have n1' : ¬ (16777216 < n * sz) := by omega
 unfold Instr.buildSlice
 simp only [Sem.run_bind, Q6 (Qg ht), Result.andThen, Vz hs, n1, if_false, n2, XZ hz, Sem.run_pure]
 have e1 : (Array.range (n * sz)).map (fun x => z.cells[x % z.cells.size]!) = madeCells z.cells (n * sz) := rfl
 simp [hf, newRow, XZ hz, e1]
theorem JO {n e : Nat} {vs : KY} {r : List Value} {z : Value} (hg : KW l ops ⟨some i, .buildSlice t n pa.toArray, ty, ps, af, gd⟩ = some true) (hi : Nat.ble (i + 1) c.n = true)
  (hp : X5 l pa = some vs) (ht : Q5 c.P t = some e) (hz : Vo c.P e = some z) (hs : Q9 c.P e = some sz) (hzs : z.cells.size = sz) (hb : Nat.ble (n * sz) 16777216 = true) (h0 : Nat.ble 1 (n * sz) = true)
  (hmk : (madeCells z.cells (n * sz)).toList = zs) (hf : ZN (fun i => some (i * sz, sz)) zs (Vp vs) = some r)
  (h : ∀ q, HL c d ((i, .slice (some ⟨q, 0, none⟩) n n) :: l) ((q, .cells r.toArray e (0, 0)) :: L) X ops rest Q) : HL c d l L X ops (⟨some i, .buildSlice t n pa.toArray, ty, ps, af, gd⟩ :: rest) Q := by
 refine WE (V := fun q => .slice (some ⟨q, 0, none⟩) n n) (L' := fun q => (q, .cells r.toArray e (0, 0)) :: L) (X' := fun _ => X) hg O O hi (fun a w hfr hst => ⟨w.heap.size, w.alloc (.cells r.toArray e), ?_, hst.alloc _⟩) h
 have h1 := Wn hfr hp
 have h2 : (pa.toArray.map fun (p : Nat × Operand) => (p.1, a.eval p.2)) = vs.toArray := by
  apply Array.toList_inj.1; rw [Array.toList_map]; simpa using h1
 rw [Vt] at hf
 subst hmk
 have h3 := Xe ht hz hs hzs (H' hb) (H' h0) hf w
 rw [← h2] at h3
 refine HZ ?_
 have h4 : (Instr.buildSlice t n (pa.toArray.map fun (i, x) => (i, a.eval x))).run c.P w = .ok (.slice (some ⟨w.heap.size, 0, none⟩) n n) (w.alloc (.cells r.toArray e)) := h3
 rw [h4]; rfl
end
def jn (L : J3) (w : World) : Prop := ∀ p ∈ L, w.heap[p.1]? = some p.2
theorem Keep.glue {xs : List Nat} {a b c : World} (h : Keep ids a b) (k : Keep xs b c) (hs : ∀ i ∈ xs, i ∈ ids ∨ a.heap.size ≤ i) : Keep ids a c :=
 ⟨k.os.trans h.os, k.tape.trans h.tape, k.output.trans h.output, Lb' h.size k.size, fun i hi hn => (k.block i (Nat.lt_of_lt_of_le hi h.size) fun hm => (hs i hm).elim hn m3).trans (h.block i hi hn)⟩
def YS (P : Program) (q : Nat) (vals : Array Value) (xs : List Nat) (w : World) (XT XF : XP) : Prop :=
 YieldAt (FW none) 0 P q vals w fun e w' => ∃ b xs', e = .returned (.bool b) ∧ (∀ k ∈ xs', k < w'.heap.size ∧ (k ∈ xs ∨ w.heap.size ≤ k)) ∧ Keep xs w w' ∧ XM xs' (if b = true then XT else XF) w'
def vV {ι : Type} (P : Program) (gf : FuncId) (caps : List Value) (Rl : J3) (p0 : ι) (nx : ι → List Value → ι → Prop) (fin : ι → Prop) : Prop :=
 ∀ (q : Nat) (xids : List Nat) (w2 : World) (XI : ι → XP) (XF : XP),
  (∀ p ∈ Rl, p.1 ∉ xids ∧ w2.heap[p.1]? = some p.2) → (∀ k ∈ xids, k < w2.heap.size) → XM xids (XI p0) w2 →
  (∀ i v i', nx i v i' → ∀ xs w, (∀ k ∈ xs, k < w.heap.size ∧ (k ∈ xids ∨ w2.heap.size ≤ k)) → Keep xids w2 w → XM xs (XI i) w → YS P q v.toArray xs w (XI i') XF) →
  Calls P gf (.func (.yield q) #[] #[] :: caps).toArray w2 fun e w' => (∃ v, e = .returned v) ∧ Keep xids w2 w' ∧ ((∃ i xs, fin i ∧ XI i xs w') ∨ ∃ xs, XF xs w')
def nxN (vals : Nat → List Value) (N : Nat) : Nat → List Value → Nat → Prop := fun i v i' => i < N ∧ v = vals i ∧ i' = i + 1
def Jxc (N : Nat) : Nat → Prop := fun i => i = N
section
variable {c : Cx} {l : KY} {L : J3} {X : XP} {Q : Exit → Act → World → Prop} {d : List Deferred}
variable {ops : Array Oper} {rest : List Oper} {i : Nat} {v : Value} {t : TypeId} {ps : String} {af : Array Edge} {gd : Option (Nat × Bool)} {ty : TypeId}
def Jz2 {ι : Type} (P : Program) (gf : FuncId) (caps : List Value) (Rl : J3) (p0 : ι) (nx : ι → List Value → J3 → ι → Prop) (fin : ι → Prop) : Prop :=
 ∀ (q : Nat) (xids : List Nat) (w2 : World) (XI : ι → XP) (XF : XP),
  (∀ p ∈ Rl, p.1 ∉ xids ∧ w2.heap[p.1]? = some p.2) → (∀ k ∈ xids, k < w2.heap.size) → XM xids (XI p0) w2 →
  (∀ i v B i', nx i v B i' → ∀ xs w, (∀ k ∈ xs, k < w.heap.size ∧ (k ∈ xids ∨ w2.heap.size ≤ k)) → Keep xids w2 w → XM xs (XI i) w → jn B w → (∀ p ∈ B, p.1 ∉ xs ∧ p.1 ∉ xids) → YS P q v.toArray xs w (XI i') XF) →
  Calls P gf (.func (.yield q) #[] #[] :: caps).toArray w2 fun e w' => (∃ v, e = .returned v) ∧ Keep xids w2 w' ∧ ((∃ i xs, fin i ∧ XI i xs w') ∨ ∃ xs, XF xs w')
theorem Jj7 {XT XF : XP}
  (hg : KW l ops ⟨some i, .call ⟨.value f, args, at_⟩, ty, ps, af, gd⟩ = some true) (hi : Nat.ble (i + 1) c.n = true)
  (hf : KU l f = some (.func (.yield q) #[] #[])) (ha : evs l args.toList = some vs)
  (hY : ∀ xs w, (∀ k ∈ xs, k < w.heap.size ∧ (k ∈ c.xids ∨ c.w1.heap.size ≤ k)) → Keep (c.ids ++ c.xids) c.w1 w → XM xs X w → jn B w → (∀ p ∈ B, p.1 ∉ xs ∧ p.1 ∉ c.xids) → YS c.P q vs.toArray xs w XT XF) (hBL : ∀ p ∈ B, p ∈ L)
  (h1 : HL c d ((i, .bool true) :: l) L XT ops rest Q) (h0 : HL c d ((i, .bool false) :: l) L XF ops rest Q) : HL c d l L X ops (⟨some i, .call ⟨.value f, args, at_⟩, ty, ps, af, gd⟩ :: rest) Q := fun a w hfr hs => by
 refine QX (Kh hfr hg) O ?_
 obtain ⟨xs, hx1, hx2⟩ := hs.x
 obtain ⟨fn, tmps, assign, body, hy, hR⟩ := hY xs w (fun k hk => ⟨(hx1 k hk).2.1, (hx1 k hk).1⟩) hs.keep hx2 (fun p hp => (hs.own p (hBL p hp)).2.2) (fun p hp => ⟨fun hm => (hx1 _ hm).2.2 p (hBL p hp) rfl, (hs.own p (hBL p hp)).2.1⟩)
 have h2 := hfr.evals ha
 have h3 : args.map a.eval = vs.toArray := by apply Array.toList_inj.1; rw [Array.toList_map]; simpa using h2
 have h4 : a.eval f = .func (.yield q) #[] #[] := hfr.eval hf
 have hrun : (execOp a.eval ⟨some i, .call ⟨.value f, args, at_⟩, ty, ps, af, gd⟩).run c.P w = .ok (.round q fn tmps assign body) w := by
  refine HZ ?_
  simp [resolve, h3, h4, Deferred.ofValue, Result.andThen, invoke, hy]
 rw [hrun, Oper.uponIn_round]
 refine ⟨fun hdep => nW, ?_⟩
 refine RoundIn.mono (show RoundIn (FW c.ro) (0 - 1) c.P q fn tmps assign body w _ from hR) ?_
 rintro e w' ⟨b, xs', rfl, hxs, hk, hb⟩
 have hs' : ∀ X', XM xs' X' w' → St c L X' w' := fun X' hx => by
  refine ⟨hs.keep.glue hk fun k hm => ?_, fun p hp => ?_, hs.distinct, hs.ext, hs.xlt, xs', fun k hm => ?_, hx⟩
  ·rcases (hx1 k hm).1 with g | g
   ·exact .inl (Y' g)
   ·exact .inr g
  ·obtain ⟨g1, g2, g3⟩ := hs.own p hp
   exact ⟨g1, g2, (hk.block p.1 (JM g3) fun hm => (hx1 _ hm).2.2 p hp O).trans g3⟩
  ·obtain ⟨g1, g2⟩ := hxs k hm
   refine ⟨g2.elim (fun g => (hx1 k g).1) fun g => .inr (Lb' hs.keep.size g), g1, fun p hp => ?_⟩
   rcases g2 with g | g
   ·exact (hx1 k g).2.2 p hp
   ·have := JM (hs.own p hp).2.2; omega
 cases b with
 | true => exact h1 _ w' (hfr.put (H' hi)) (hs' XT (by simpa using hb))
 | false => exact h0 _ w' (hfr.put (H' hi)) (hs' XF (by simpa using hb))
theorem QN {XT XF : XP}
  (hg : KW l ops ⟨some i, .call ⟨.value f, args, at_⟩, ty, ps, af, gd⟩ = some true) (hi : Nat.ble (i + 1) c.n = true)
  (hf : KU l f = some (.func (.yield q) #[] #[])) (ha : evs l args.toList = some vs)
  (hY : ∀ xs w, (∀ k ∈ xs, k < w.heap.size ∧ (k ∈ c.xids ∨ c.w1.heap.size ≤ k)) → Keep (c.ids ++ c.xids) c.w1 w → XM xs X w → YS c.P q vs.toArray xs w XT XF)
  (h1 : HL c d ((i, .bool true) :: l) L XT ops rest Q) (h0 : HL c d ((i, .bool false) :: l) L XF ops rest Q) : HL c d l L X ops (⟨some i, .call ⟨.value f, args, at_⟩, ty, ps, af, gd⟩ :: rest) Q :=
 Jj7 (B := []) hg hi hf ha (fun xs w a b e _ _ => hY xs w a b e) (fun _ h => absurd h List.not_mem_nil) h1 h0
def Wo (D : Nat) : Deferred := { target := .collected D, args := #[] }
theorem Wp {D k : Nat} (hk : L[k]? = some (D, .deferred (some []))) (hL : L.set k (D, .deferred none) = L')
  (h : HQ c d l L' X (bodyPostM (FW none) 0 P fn R .ret)) : HQ c (Wo D :: d) l L X (bodyPostM (FW none) 0 P fn R .ret) := fun a w hf hs => by
 subst hL
 have hget := hs.get hk
 have hs' := hs.set hk (Keep.putObj D (.deferred none)) (World.putObj_heap_same (JM hget))
 have h1 := h { tmps := a.tmps, defers := d } _ ⟨hf.size, rfl, hf.slots⟩ hs'
 show LeavesInM _ _ _ _ _ _ _ _ _
 rw [hf.defers]
 exact ⟨by simp, .inl ⟨D, _, rfl, run_takeDeferred hget, h1⟩⟩
theorem St.jump {xs : List Nat} (h : St c L X w) (hk : Keep xs w w') (hx : ∀ k ∈ xs, ∃ o, (k, o) ∈ L) (hd : L'.Pairwise fun p q => p.1 ≠ q.1)
  (hL : ∀ p ∈ L', ((∃ o, (p.1, o) ∈ L) ∨ w.heap.size ≤ p.1) ∧ w'.heap[p.1]? = some p.2) : St c L' X w' := by
 refine ⟨h.keep.glue hk fun k hm => ?_, fun p hp => ?_, hd, h.ext, h.xlt, ?_⟩
 ·obtain ⟨o, ho⟩ := hx k hm
  exact ((h.own _ ho).1).imp (fun g => W' g) id
 ·obtain ⟨g, h2⟩ := hL p hp
  rcases g with ⟨o, ho⟩ | g
  ·obtain ⟨g1, g2, _⟩ := h.own _ ho
   exact ⟨g1, g2, h2⟩
  ·exact ⟨.inr (Lb' h.keep.size g), fun hm => by have := h.xlt _ hm; have := h.keep.size; omega, h2⟩
 ·obtain ⟨ys, h1, h2⟩ := h.x
  refine ⟨ys, fun i hi => ⟨(h1 i hi).1, Nat.lt_of_lt_of_le (h1 i hi).2.1 hk.size, fun p hp => ?_⟩, fun w2 hw2 => h2 w2 fun i hi => (hw2 i hi).trans (hk.block i (h1 i hi).2.1 fun hm => ?_)⟩
  ·rcases (hL p hp).1 with ⟨o, ho⟩ | g
   ·exact (h1 i hi).2.2 (p.1, o) ho
   ·have := (h1 i hi).2.1; omega
  ·obtain ⟨o, ho⟩ := hx i hm
   exact (h1 i hi).2.2 _ ho O
def qY (L : J3) : List Nat → J3
 | [] => []
 | j :: js => match X3 L j with | some p => p :: qY L js | none => qY L js
theorem Yb {L : J3} : ∀ {js : List Nat} {p : Nat × Obj}, p ∈ qY L js → ∃ j ∈ js, L[j]? = some p
 | j :: js, p, h => by
  simp only [qY, Vm] at h
  cases hj : L[j]? with
  | none => simp only [hj] at h; obtain ⟨k, hk, hp⟩ := Yb h; exact ⟨k, M' hk, hp⟩
  | some q =>
   simp only [hj] at h
   rcases F'.1 h with rfl | h
   ·exact ⟨j, N', hj⟩
   ·obtain ⟨k, hk, hp⟩ := Yb h; exact ⟨k, M' hk, hp⟩
theorem St.sel (h : St c L X w) (js : List Nat) (hn : js.Nodup) : St c (qY L js) X w := by
 refine ⟨h.keep, fun p hp => ?_, ?_, h.ext, h.xlt, h.x.sub fun p hp => let ⟨_, _, hj⟩ := Yb hp; ⟨p.2, List.mem_of_getElem? hj⟩⟩
 ·obtain ⟨j, _, hj⟩ := Yb hp; exact h.own p (List.mem_of_getElem? hj)
 ·have hdist := h.distinct
  clear h
  induction js with
  | nil => exact List.Pairwise.nil
  | cons j js ih =>
   simp only [qY, Vm]
   cases hj : L[j]? with
   | none => exact ih (List.nodup_cons.1 hn).2
   | some q =>
    refine List.pairwise_cons.2 ⟨fun p hp => ?_, ih (List.nodup_cons.1 hn).2⟩
    obtain ⟨k, hk, hp'⟩ := Yb hp
    exact Y0 hdist hj hp' fun e => (List.nodup_cons.1 hn).1 (e ▸ hk)
theorem Zc (js : List Nat) (hn : js.Nodup) (hL : qY L js = L') (h : HC c d l L' X code Q) : HC c d l L X code Q := fun a w hf hs => h a w hf (hL ▸ hs.sel js hn)
theorem QO {K : Act → World → Prop} (js : List Nat) (hn : js.Nodup) (hL : qY L js = L') (h : HQ c d l L' X K) : HQ c d l L X K := fun a w hf hs => h a w hf (hL ▸ hs.sel js hn)
def vW : List Nat → List Value → KY → KY
 | p :: ps, v :: vs, l => vW ps vs ((p, v) :: l)
 | _, _, l => l
theorem Jl9 {n : Nat} : ∀ (pp : List Nat) (vs : List Value) (l : KY) (tm : Array Value), (∀ p ∈ pp, p < n) → Fr n [] l { tmps := tm, defers := [] } →
  Fr n [] (vW pp vs l) { tmps := (pp.zip vs).foldl (fun (t : Array Value) (pv : Nat × Value) => t.setIfInBounds pv.1 pv.2) tm, defers := [] }
 | [], vs, l, tm, _, h => by cases vs <;> simpa [vW] using h
 | p :: pp, [], l, tm, _, h => by simpa [vW] using h
 | p :: pp, v :: vs, l, tm, hp, h => by
  simp only [vW, List.zip_cons_cons, List.foldl_cons]
  exact Jl9 pp vs _ _ (fun q hq => hp q (M' hq)) (h.put (hp p N'))
def yW (c : Cx) (q : Nat) (w3 : World) (M : List Nat) (Lk : J3) : Cx := ⟨c.P, some q, w3, M, [q], Lk ++ c.R, c.n⟩
def Qo (L : J3) : List Nat := L.map (·.1)
def qZ (q : Nat) (r : Loop) : XP := fun _ w => w.heap[q]? = some (.loop r)
theorem St.recd {r : Loop} (h : St c L (qZ q r) w) : w.heap[q]? = some (.loop r) := let ⟨_, h⟩ := h.now; h
def Y2 {σ τ : Type} (c3 : Cx) (Xb : XP) (I : σ → Prop) (LI : σ → J3) (E : Code → τ → Prop) (LE : τ → J3) : Exit → Act → World → Prop
 | .normal, _, w => ∃ s, I s ∧ St c3 (LI s) Xb w
 | .ret, _, w => ∃ s, E .ret s ∧ St c3 (LE s) Xb w
 | .exit id, _, w => ∃ s, E (.exit id) s ∧ St c3 (LE s) Xb w
 | _, _, _ => False
def Jb5 (c3 : Cx) (Xr Xb : XP) (body : Code) (Qb : Exit → Act → World → Prop) (K : Act → World → Prop) : Prop :=
 ∀ l L, HC c3 [] l L Xb body Qb → HQ c3 [] l L Xr K
theorem Jb6 {c3 : Cx} {r : Loop} {LE : τ → J3}
  (h1 : ∀ s w, I s → St c3 (LI s) (qZ q { r with state := .busy }) w → R (.returned (.bool true)) (w.putObj q (.loop { r with state := .ready, pending := none })))
  (h2 : ∀ j s w, E j s → St c3 (LE s) (qZ q { r with state := .busy }) w → R (.returned (.bool false)) (w.putObj q (.loop { r with state := .done, pending := some j })))
  (e : Exit) (a : Act) (w : World) (h : Y2 c3 (qZ q { r with state := .busy }) I LI E LE e a w) : roundPost c3.P q R e a w := by
 have hend : ∀ (w : World) (jump : Option Code), w.heap[q]? = some (.loop { r with state := .busy }) → (Instr.endRound q jump).run c3.P w = .ok (.bool jump.isNone) (w.putObj q (.loop { r with state := if jump.isNone then .ready else .done, pending := jump })) := fun w jump hw => run_endRound (r := { r with state := .busy }) jump hw
 cases e with
 | normal => obtain ⟨s, hs, hst⟩ := h; exact ⟨_, _, hend w none hst.recd, h1 s w hs hst⟩
 | ret => obtain ⟨s, hs, hst⟩ := h; exact ⟨_, _, hend w (some .ret) hst.recd, h2 _ s w hs hst⟩
 | exit id => obtain ⟨s, hs, hst⟩ := h; exact ⟨_, _, hend w (some (.exit id)) hst.recd, h2 _ s w hs hst⟩
 | goto t => exact h.elim
 | panic ch => exact h.elim
 | outgrown => exact h.elim
def Jma {σ : Type} (q B : Nat) (M : List Nat) (rec : Loop) (I : σ → Prop) (LI : σ → J3) : XP := fun xs w =>
 (∃ s, I s ∧ (LI s).Pairwise (fun p q => p.1 ≠ q.1) ∧ (∀ p ∈ LI s, p.1 ∈ M ∨ B ≤ p.1) ∧ jn (LI s) w ∧ xs = q :: Qo (LI s)) ∧ w.heap[q]? = some (.loop rec)
theorem Y3  {B : Nat} {M : List Nat} {rec : Loop} (s : σ) (h1 : I s) (h2 : (LI s).Pairwise (fun p q => p.1 ≠ q.1)) (h3 : ∀ p ∈ LI s, p.1 ∈ M ∨ B ≤ p.1) (h4 : jn (LI s) w)
  (h5 : w.heap[q]? = some (.loop rec)) : XM (q :: Qo (LI s)) (Jma q B M rec I LI) w := fun w' hw' =>
 ⟨⟨s, h1, h2, h3, fun p hp => (hw' p.1 (M' (I' (f := (·.1)) hp))).trans (h4 p hp), rfl⟩, (hw' q N').trans h5⟩
structure PureT {α : Type} (P : Program) (f : FuncId) (args : Array Value) (V : α → Value) (T : J3) (LL : α → J3) (Rl : J3) : Prop where
  run : ∀ w, jn T w → jn Rl w → (T.Pairwise fun p q => p.1 ≠ q.1) → (∀ p ∈ Rl, ∀ q ∈ T, p.1 ≠ q.1) → Calls P f args w fun e w' => ∃ x, e = .returned (V x) ∧ Keep (T.map (·.1)) w w' ∧ (∀ p ∈ LL x, (p.1 ∈ T.map (·.1) ∨ w.heap.size ≤ p.1) ∧ w'.heap[p.1]? = some p.2) ∧ (LL x).Pairwise fun p q => p.1 ≠ q.1
def RS {ι : Type} (P : Program) (g : FuncId) (vals : Array Value) (xs : List Nat) (w : World) (re : Value → ι → Prop) (XI : ι → XP) : Prop :=
 Calls P g vals w fun e w' => ∃ v i' xs', re v i' ∧ e = .returned v ∧ (∀ k ∈ xs', k < w'.heap.size ∧ (k ∈ xs ∨ w.heap.size ≤ k)) ∧ Keep xs w w' ∧ XM xs' (XI i') w'
def Jz3 {ι : Type} (P : Program) (gf : FuncId) (caps : List Value) (T Rl : J3) (p0 : ι) (nx : ι → List Value → J3 → ι → Prop) (ca : ι → FuncId → List Value → Prop) (re : ι → Value → ι → Prop) (dead fin : ι → Prop) : Prop :=
 ∀ (q : Nat) (xids : List Nat) (w2 : World) (XI : ι → XP) (XF : XP),
  (∀ p ∈ Rl, p.1 ∉ xids ∧ (∀ t ∈ T, p.1 ≠ t.1) ∧ w2.heap[p.1]? = some p.2) → (∀ p ∈ T, p.1 ∉ xids ∧ w2.heap[p.1]? = some p.2) → (T.Pairwise fun p q => p.1 ≠ q.1) → (∀ k ∈ xids, k < w2.heap.size) → XM xids (XI p0) w2 →
  (∀ i xs w, dead i → ¬ XI i xs w) →
  (∀ i v B i', nx i v B i' → ∀ xs w, (∀ k ∈ xs, k < w.heap.size ∧ (k ∈ xids ∨ w2.heap.size ≤ k)) → Keep (Qo T ++ xids) w2 w → XM xs (XI i) w → jn B w → (∀ p ∈ B, p.1 ∉ xs ∧ p.1 ∉ xids) → YS P q v.toArray xs w (XI i') XF) →
  (∀ i g vs, ca i g vs → ∀ xs w, (∀ k ∈ xs, k < w.heap.size ∧ (k ∈ xids ∨ w2.heap.size ≤ k)) → Keep (Qo T ++ xids) w2 w → XM xs (XI i) w → RS P g vs.toArray xs w (re i) XI) →
  Calls P gf (.func (.yield q) #[] #[] :: caps).toArray w2 fun e w' => (∃ v, e = .returned v) ∧ Keep (Qo T ++ xids) w2 w' ∧ ((∃ i xs, fin i ∧ XI i xs w') ∨ ∃ xs, XF xs w')
theorem yX  {T Rk : J3} {nx : ι → List Value → J3 → ι → Prop}
  (I : ι → σ → Prop) (LI : σ → J3) (E : Code → τ → Prop) (LE : τ → J3) (Lk : J3) (s0 : σ)
  (hro : c.ro = none) (hf : KU l f = some (.func (.func gf) #[] caps.toArray)) (eg : Enters c.P gf) (hit : Jz3 c.P gf caps T Rl p0 nx ca re dead fi) (hlen : ∀ i v B i', nx i v B i' → v.length = pp.length) (hpp : pp.all (Nat.blt · c.n) = true)
  (hRl : ∀ p ∈ Rl, p ∈ Lk ∨ p ∈ c.R) (hRk : ∀ p ∈ Rk, p ∈ Lk ∨ p ∈ c.R) (hL : L = LI s0 ++ (T ++ Lk)) (h0 : I p0 s0) (hdead : ∀ i s, dead i → ¬ I i s)
  (hread : ∀ i g vs s, ca i g vs → I i s → PureT (α := { y : Value × ι × σ // re i y.1 y.2.1 ∧ I y.2.1 y.2.2 }) c.P g vs.toArray (fun y => y.1.1) (LI s) (fun y => LI y.1.2.2) Rk)
  (hround : ∀ (q : Nat) (Xr Xb : XP) (w3 : World) (i : ι) (v : List Value) (B : J3) (i' : ι) (s : σ), nx i v B i' → I i s → ∀ K, Jb5 (yW c q w3 (Qo (LI s)) (B ++ Lk)) Xr Xb body (Y2 (yW c q w3 (Qo (LI s)) (B ++ Lk)) Xb (I i') LI E LE) K →
   HC (yW c q w3 (Qo (LI s)) (B ++ Lk)) [] (vW pp v l) (LI s) Xr assign (Exit.then K fun _ _ _ => False))
  (hdone : ∀ D i s, fi i → I i s → HQ c (Wo D :: d) l ((D, .deferred (some [])) :: (LI s ++ Lk)) X (Q .normal))
  (hstop : ∀ D j s, E j s → HC c (Wo D :: d) l ((D, .deferred (some [])) :: (LE s ++ Lk)) X j Q) :
  HC c d l L X (.rangeFunc f pp.toArray assign body) Q := fun a w hfr hs => by
 subst hL
 refine wpIn_rangeFunc ?_
 intro fn _
 have e0 : (FW c.ro).round = none := by rw [hro]; rfl
 rw [e0]
 obtain ⟨r, hr⟩ : ∃ r : Loop, r = { state := .ready, pending := none, fn, tmps := a.tmps, params := pp.toArray, assign, body, defers := w.heap.size } := ⟨_, rfl⟩
 obtain ⟨w2, hw2⟩ : ∃ w2, (w.alloc (.deferred (some []))).alloc (.loop r) = w2 := ⟨_, rfl⟩
 have hq : (w.alloc (.deferred (some []))).heap.size = w.heap.size + 1 := World.size_alloc _ _
 have hs2 : St c ((w.heap.size + 1, .loop r) :: (w.heap.size, .deferred (some [])) :: (LI s0 ++ (T ++ Lk))) X w2 := by
  have := (hs.alloc (.deferred (some []))).alloc (.loop r)
  rw [hq, hw2] at this
  exact this
 have hq2 : w2.heap[w.heap.size + 1]? = some (.loop r) := (hs2.own _ N').2.2
 have hrr : ({ r with state := .ready, pending := none } : Loop) = r := by rw [hr]
 obtain ⟨M, hM⟩ : ∃ M, Qo (LI s0) = M := ⟨_, rfl⟩
 refine ⟨w.heap.size + 1, [Wo w.heap.size], w2, { target := .fn (.func gf) caps.toArray, args := #[.func (.yield (w.heap.size + 1)) #[] #[]] }, w2, gf, (.func (.yield (w.heap.size + 1)) #[] #[] :: caps).toArray, w2, ?_, ?_, fun _ _ => trivial, ?_, fun hdep => nW, ?_⟩
 rw [← hw2, hr]; exact run_enterLoop_outer _ _ _ _ _
 have := hfr.eval hf
 simp only [resolve, this]
 simp [Deferred.ofValue]
 rfl
 have := eg (#[.func (.yield (w.heap.size + 1)) #[] #[]] ++ caps.toArray) w2
 have e1 : (#[Value.func (.yield (w.heap.size + 1)) #[] #[]] ++ caps.toArray) = (Value.func (.yield (w.heap.size + 1)) #[] #[] :: caps).toArray := by apply Array.toList_inj.1; simp
 rw [e1] at this
 simpa [invoke] using this
 ·-- the iterator's contract at our invariant
  have hown := hs2.distinct
  have hLkm : ∀ p ∈ Lk, p ∈ LI s0 ++ (T ++ Lk) := fun p hp => Y' (Y' hp)
  have hTm : ∀ p ∈ T, p ∈ LI s0 ++ (T ++ Lk) := fun p hp => Y' (W' hp)
  have hin : ∀ {k : Nat}, k ∈ Qo T → ∃ p ∈ T, p.1 = k := fun {k} hk => by obtain ⟨p, hp, e⟩ := List.mem_map.1 hk; exact ⟨p, hp, e⟩
  have hMown : ∀ k ∈ M, ∃ o, (k, o) ∈ LI s0 := fun k hk => by
   rw [← hM] at hk
   obtain ⟨p, hp, rfl⟩ := List.mem_map.1 hk
   exact ⟨p.2, hp⟩
  have hpw := List.pairwise_cons.1 hown
  have hpw2 := List.pairwise_cons.1 hpw.2
  have hpw3 := List.pairwise_append.1 hpw2.2
  have hsz2 : w2.heap.size = w.heap.size + 2 := by rw [← hw2, World.size_alloc, World.size_alloc]
  have hLk2 : ∀ p ∈ Lk, p.1 < w2.heap.size := fun p hp => JM (hs2.own p (M' (M' (hLkm p hp)))).2.2
  have hMk : ∀ p ∈ Lk, p.1 ∉ M ∧ p.1 ≠ w.heap.size + 1 := fun p hp => ⟨fun hm => by
   obtain ⟨o, ho⟩ := hMown _ hm
   exact hpw3.2.2 _ ho _ (Y' hp) O, fun e => hpw.1 p (M' (hLkm p hp)) e.symm⟩
  have hpwT := List.pairwise_append.1 hpw3.2.1
  have hTk : ∀ p ∈ Lk, p.1 ∉ Qo T := fun p hp hm => by
   obtain ⟨t, ht, e⟩ := hin hm
   exact hpwT.2.2 _ ht _ hp e
  have hTM : ∀ p ∈ T, p.1 ∉ M ∧ p.1 ≠ w.heap.size + 1 ∧ p.1 ≠ w.heap.size ∧ p.1 < w2.heap.size := fun p hp => ⟨fun hm => by
   obtain ⟨o, ho⟩ := hMown _ hm
   exact hpw3.2.2 _ ho _ (W' hp) O, fun e => hpw.1 p (M' (hTm p hp)) e.symm, fun e => hpw2.1 p (hTm p hp) e.symm, JM (hs2.own p (M' (M' (hTm p hp)))).2.2⟩
  have hMq : w.heap.size + 1 ∉ M := fun hm => by
   obtain ⟨o, ho⟩ := hMown _ hm
   exact hpw.1 _ (M' (W' ho)) O
  have hMD : w.heap.size ∉ M := fun hm => by
   obtain ⟨o, ho⟩ := hMown _ hm
   exact hpw2.1 _ (W' ho) O
  have hMlt : ∀ k ∈ M, k < w2.heap.size := fun k hk => by
   obtain ⟨o, ho⟩ := hMown _ hk
   exact JM (hs2.own _ (M' (M' (W' ho)))).2.2
  -- what a place of one's own is apart from
  have apart : ∀ {k : Nat}, (k ∈ M ∨ w2.heap.size ≤ k) → k ≠ w.heap.size + 1 ∧ k ≠ w.heap.size ∧ (∀ p ∈ Lk, p.1 ≠ k) := fun {k} hk => by
   rcases hk with hk | hk
   exact ⟨fun e => hMq (e ▸ hk), fun e => hMD (e ▸ hk), fun p hp e => (hMk p hp).1 (e ▸ hk)⟩
   exact ⟨by omega, by omega, fun p hp e => by have := hLk2 p hp; omega⟩
  have apartR : ∀ {k : Nat}, (k ∈ M ∨ w2.heap.size ≤ k) → ∀ p ∈ c.R, p.1 ≠ k := fun {k} hk p hp e => by
   obtain ⟨e1, _, e3⟩ := hs2.ext p hp
   have h1 := JM e3
   have h2 := hs.keep.size
   rcases hk with hk | hk
   obtain ⟨o, ho⟩ := hMown _ hk
   rcases (hs2.own _ (M' (M' (W' ho)))).1 with g | g
   exact e1 (e ▸ g)
   simp only at g; omega
   omega
  have hTR : ∀ p ∈ c.R, p.1 ∉ Qo T := fun p hp hm => by
   obtain ⟨t, ht, e⟩ := hin hm
   obtain ⟨e1, _, e3⟩ := hs2.ext p hp
   have h1 := JM e3
   have h2 := hs.keep.size
   rcases (hs2.own _ (M' (M' (hTm t ht)))).1 with g | g
   exact e1 (e ▸ g)
   rw [e] at g; omega
  have hcalls := hit (w.heap.size + 1) ((w.heap.size + 1) :: M) w2 (fun i => Jma (w.heap.size + 1) w2.heap.size M r (I i) LI)
   (fun xs w' => ∃ j, Jma (w.heap.size + 1) w2.heap.size M { r with state := .done, pending := some j } (E j) LE xs w')
   (fun p hp => by
    rcases hRl p hp with hL | hR
    ·refine ⟨fun hm => ?_, fun t ht e => hTk p hL (e ▸ I' (f := (·.1)) ht), (hs2.own p (M' (M' (hLkm p hL)))).2.2⟩
     obtain ⟨h1, h2⟩ := hMk p hL
     rcases F'.1 hm with hm | hm
     exact h2 hm
     exact h1 hm
    ·refine ⟨fun hm => ?_, fun t ht e => hTR p hR (e ▸ I' (f := (·.1)) ht), hs2.readR hR⟩
     rcases F'.1 hm with hm | hm
     have h1 := JM (hs2.ext p hR).2.2
     have h2 := hs.keep.size
     omega
     exact apartR (.inl hm) p hR O)
   (fun p hp => by
    obtain ⟨g1, g2, _, _⟩ := hTM p hp
    exact ⟨fun hm => (F'.1 hm).elim g2 g1, (hs2.own p (M' (M' (hTm p hp)))).2.2⟩)
   hpwT.1
   (fun k hk => by
    rcases F'.1 hk with rfl | hk
    exact JM hq2
    exact hMlt k hk)
   (by
    have := Y3 (q := w.heap.size + 1) (B := w2.heap.size) (M := M) (rec := r) (I := I p0) (LI := LI) s0 h0 hpw3.1 (fun p hp => .inl (by rw [← hM]; exact I' (f := (·.1)) hp)) (fun p hp => (hs2.own _ (M' (M' (W' hp)))).2.2) hq2
    rw [hM] at this
    exact this)
   (fun i xs w' hd hx => by
    obtain ⟨⟨s, h1, _⟩, _⟩ := hx
    exact hdead i s hd h1)
   ?_ ?_
  ·refine CallsIn.mono (show CallsIn (FW c.ro) (0 - 1) c.P gf _ w2 _ from callsIn_wide (n := 0) |>.2 hcalls) ?_
   rintro e w' ⟨⟨v, rfl⟩, hk, hfin⟩
   have fin : ∀ (st : LoopState) (pe : Option Code) (LL : J3), st ≠ .busy → LL.Pairwise (fun p q => p.1 ≠ q.1) → (∀ p ∈ LL, p.1 ∈ M ∨ w2.heap.size ≤ p.1) → jn LL w' → w'.heap[w.heap.size + 1]? = some (.loop { r with state := st, pending := pe }) →
     (Instr.endLoop (w.heap.size + 1)).run c.P w' = .ok pe (w'.putObj (w.heap.size + 1) (.loop { r with state := .exhausted, pending := pe })) ∧
     St c ((w.heap.size, .deferred (some [])) :: (LL ++ Lk)) X (w'.putObj (w.heap.size + 1) (.loop { r with state := .exhausted, pending := pe })) := by
    intro st pe LL hst hpwL hLM hLL hl
    refine ⟨run_endLoop hl hst, ?_⟩
    have hk2 : Keep (Qo T ++ (w.heap.size + 1) :: M) w2 (w'.putObj (w.heap.size + 1) (.loop { r with state := .exhausted, pending := pe })) :=
     hk.trans ((Keep.putObj _ _).weak fun k hm => by simp at hm; subst hm; exact Y' N')
    have hput : ∀ k, k ≠ w.heap.size + 1 → (w'.putObj (w.heap.size + 1) (.loop { r with state := .exhausted, pending := pe })).heap[k]? = w'.heap[k]? := fun k hne => World.putObj_heap_other hne
    refine hs2.jump hk2 (fun k hm => ?_) ?_ (fun p hp => ?_)
    rcases G'.1 hm with hm | hm
    obtain ⟨t, ht, rfl⟩ := hin hm
    exact ⟨t.2, M' (M' (hTm t ht))⟩
    rcases F'.1 hm with rfl | hm
    exact ⟨_, N'⟩
    obtain ⟨o, ho⟩ := hMown k hm
    exact ⟨o, M' (M' (W' ho))⟩
    refine List.pairwise_cons.2 ⟨fun p hp => ?_, List.pairwise_append.2 ⟨hpwL, hpwT.2.1, fun p hp p' hp' => ?_⟩⟩
    rcases G'.1 hp with hp | hp
    exact fun e => (apart (hLM p hp)).2.1 e.symm
    exact hpw2.1 p (hLkm p hp)
    exact fun e => (apart (hLM p hp)).2.2 p' hp' e.symm
    rcases F'.1 hp with rfl | hp
    refine ⟨.inl ⟨_, M' N'⟩, ?_⟩
    rw [hput _ mf]
    refine (hk.block w.heap.size (JM (hs2.own _ (M' N')).2.2) ?_).trans (hs2.own _ (M' N')).2.2
    simp only [G', F', not_or]; exact ⟨fun hm => by obtain ⟨t, ht, e⟩ := hin hm; exact (hTM t ht).2.2.1 e, by omega, hMD⟩
    rcases G'.1 hp with hp | hp
    refine ⟨?_, ?_⟩
    rcases hLM p hp with g | g
    obtain ⟨o, ho⟩ := hMown _ g
    exact .inl ⟨o, M' (M' (W' ho))⟩
    exact .inr g
    rw [hput _ (apart (hLM p hp)).1]
    exact hLL p hp
    have hmem := List.mem_cons_of_mem (w.heap.size + 1, Obj.loop r) (List.mem_cons_of_mem (w.heap.size, Obj.deferred (some [])) (hLkm p hp))
    refine ⟨.inl ⟨p.2, hmem⟩, ?_⟩
    obtain ⟨g1, g2⟩ := hMk p hp
    rw [hput _ g2]
    refine (hk.block p.1 (JM (hs2.own _ hmem).2.2) ?_).trans (hs2.own _ hmem).2.2
    simp only [G', F', not_or]; exact ⟨hTk p hp, g2, g1⟩
   have hfr2 : Fr c.n (Wo w.heap.size :: d) l { tmps := a.tmps, defers := [Wo w.heap.size] ++ a.defers } := ⟨hfr.size, by simp [hfr.defers], hfr.slots⟩
   rcases hfin with ⟨i, xs, hi, ⟨s, h1, h2, h3, h4, _⟩, h5⟩ | ⟨xs, j, ⟨s, h1, h2, h3, h4, _⟩, h5⟩
   obtain ⟨g1, g2⟩ := fin .ready none (LI s) mf h2 h3 h4 (by rw [hrr]; exact h5)
   exact ⟨none, _, g1, hdone _ i s hi h1 _ _ hfr2 g2⟩
   ·obtain ⟨g1, g2⟩ := fin .done (some j) (LE s) mf h2 h3 h4 h5
    exact ⟨some j, _, g1, hstop _ j s h1 _ _ hfr2 g2⟩
  ·-- a round
   rintro i v B i' hi xs w3 hxs hk3 hfoot hB hBx
   obtain ⟨⟨s, h1, hpwS, hMS, h2, rfl⟩, h3⟩ := hfoot w3 fun _ _ => rfl
   have hargs : v.toArray.size = r.params.size := by rw [hr]; simpa using hlen i v B i' hi
   have hy := run_yield (P := c.P) (args := v.toArray) h3 hargs
   refine ⟨_, _, _, _, hy, ?_⟩
   obtain ⟨c3, hc3⟩ : ∃ c3, yW c (w.heap.size + 1) w3 (Qo (LI s)) (B ++ Lk) = c3 := ⟨_, rfl⟩
   have hc3x : c3.xids = [w.heap.size + 1] := by rw [← hc3]; rfl
   have hc3i : c3.ids = Qo (LI s) := by rw [← hc3]; rfl
   have hc3w : c3.w1 = w3 := by rw [← hc3]; rfl
   have hmemS : ∀ p ∈ LI s, p.1 ∈ Qo (LI s) := fun p hp => I' (f := (·.1)) hp
   have hidS : ∀ {k : Nat}, k ∈ Qo (LI s) → k ∈ M ∨ w2.heap.size ≤ k := fun {k} hk => by
    obtain ⟨p, hp, rfl⟩ := List.mem_map.1 hk
    exact hMS p hp
   have hst3 : St c3 (LI s) (qZ (w.heap.size + 1) r) w3 := by
    subst hc3
    refine ⟨Keep.refl _ _, fun p hp => ⟨.inl (hmemS p hp), ?_, h2 p hp⟩, hpwS, ?_, ?_, [w.heap.size + 1], fun k hk => ?_, fun w' hw' => (hw' _ mf).trans h3⟩
    simp only [yW, U']; exact (apart (hMS p hp)).1
    intro p hp
    simp only [yW] at hp ⊢
    rcases G'.1 hp with hp | hp
    rcases G'.1 hp with hp | hp
    obtain ⟨b1, _⟩ := hBx p hp
    exact ⟨fun hm => b1 (M' hm), by simp only [U']; exact fun e => b1 nJ, hB p hp⟩
    obtain ⟨g1, g2⟩ := hMk p hp
    refine ⟨fun hm => (apart (hidS hm)).2.2 p hp O, by simpa using g2, ?_⟩
    have hmem := List.mem_cons_of_mem (w.heap.size + 1, Obj.loop r) (List.mem_cons_of_mem (w.heap.size, Obj.deferred (some [])) (hLkm p hp))
    exact (hk3.block p.1 (JM (hs2.own _ hmem).2.2) nS).trans (hs2.own _ hmem).2.2
    have e3 := hs2.readR hp
    have hlt := JM (hs2.ext p hp).2.2
    have hsz := hs.keep.size
    have hnq : p.1 ≠ w.heap.size + 1 := fun e => by omega
    refine ⟨fun hm => apartR (hidS hm) p hp O, by simpa using hnq, ?_⟩
    exact (hk3.block p.1 (JM e3) np).trans e3
    intro k hk; simp only [yW, U'] at hk; subst hk; exact JM h3
    simp only [U'] at hk
    subst hk
    exact ⟨.inl (by simp [yW]), JM h3, fun p hp => (apart (hMS p hp)).1⟩
   have hbusy : ∀ {LL : J3} {w' : World}, St c3 LL (qZ (w.heap.size + 1) r) w' →
     St c3 LL (qZ (w.heap.size + 1) { r with state := .busy, pending := none }) (w'.putObj (w.heap.size + 1) (.loop { r with state := .busy, pending := none })) := by
    intro LL w' hst
    have hlt : w.heap.size + 1 < w'.heap.size := JM hst.recd
    refine ⟨hst.keep.trans ((Keep.putObj _ _).weak fun k hm => by simp at hm; subst hm; rw [hc3x]; simp), fun p hp => ?_, hst.distinct, hst.ext, hst.xlt, [w.heap.size + 1], fun k hk => ?_, fun w'' hw'' => (hw'' _ mf).trans (World.putObj_heap_same hlt)⟩
    obtain ⟨g1, g2, g3⟩ := hst.own p hp
    refine ⟨g1, g2, (World.putObj_heap_other ?_).trans g3⟩
    intro e; exact g2 (by rw [e, hc3x]; simp)
    simp only [U'] at hk
    subst hk
    exact ⟨.inl (by rw [hc3x]; simp), Nat.lt_of_lt_of_le hlt (Keep.putObj _ _).size, fun p hp e => (hst.own p hp).2.1 (by rw [hc3x, e]; simp)⟩
   have hfr3 : Fr c3.n [] (vW pp v l) { tmps := (r.params.zip v.toArray).foldl (fun (t : Array Value) (pv : Nat × Value) => t.setIfInBounds pv.1 pv.2) r.tmps, defers := [] } := by
    have h5 := Jl9 (n := c.n) pp v l a.tmps (fun p hp => by have := List.all_eq_true.1 hpp p hp; simpa using this) ⟨hfr.size, rfl, hfr.slots⟩
    rw [hr, ← hc3]
    simp only [List.zip_toArray, List.foldl_toArray']
    exact h5
   have key : ∀ RR : Ending → World → Prop,
     (∀ s' w', I i' s' → St c3 (LI s') (qZ (w.heap.size + 1) { r with state := .busy, pending := none }) w' → RR (.returned (.bool true)) (w'.putObj (w.heap.size + 1) (.loop { r with state := .ready, pending := none }))) →
     (∀ j s' w', E j s' → St c3 (LE s') (qZ (w.heap.size + 1) { r with state := .busy, pending := none }) w' → RR (.returned (.bool false)) (w'.putObj (w.heap.size + 1) (.loop { r with state := .done, pending := some j }))) →
     RoundIn (FW none) 0 c.P (w.heap.size + 1) r.fn ((r.params.zip v.toArray).foldl (fun (t : Array Value) (pv : Nat × Value) => t.setIfInBounds pv.1 pv.2) r.tmps) r.assign r.body w3 RR := by
    intro RR g1 g2
    refine roundIn_of_wpIn (F := FW none) trivial ?_
    have hround' := hround (w.heap.size + 1) (qZ (w.heap.size + 1) r) (qZ (w.heap.size + 1) { r with state := .busy, pending := none }) w3 i v B i' s hi h1
     (fun a₁ w₁ => ∃ w₂, (Instr.beginRound (w.heap.size + 1)).run c.P w₁ = .ok () w₂ ∧ body.wpIn ((FW none).inRound (w.heap.size + 1)) 0 c.P (roundPost c.P (w.heap.size + 1) RR) a₁ w₂)
    rw [hc3] at hround'
    have hround'' := hround' (fun l' L' hb a₁ w₁ hf₁ hs₁ => ?_) _ w3 hfr3 hst3
    have e1 : r.assign = assign := by rw [hr]
    have e2 : r.body = body := by rw [hr]
    have e3 : c3.P = c.P := by rw [← hc3]; rfl
    have e4 : c3.ro = some (w.heap.size + 1) := by rw [← hc3]; rfl
    rw [e3, e4] at hround''
    rw [e1, e2]
    exact hround''
    have hx1 : w₁.heap[w.heap.size + 1]? = some (.loop r) := hs₁.recd
    refine ⟨_, run_beginRound hx1 (by rw [hr]), ?_⟩
    have hb2 := hb a₁ _ hf₁ (hbusy hs₁)
    have hb3 : ({ r with state := .busy } : Loop) = { r with state := .busy, pending := none } := by rw [hr]
    rw [hb3]
    have e3 : c3.P = c.P := by rw [← hc3]; rfl
    have e4 : c3.ro = some (w.heap.size + 1) := by rw [← hc3]; rfl
    rw [e3, e4] at hb2
    refine wpIn_mono (show body.wpIn ((FW none).inRound (w.heap.size + 1)) 0 c.P _ a₁ _ from hb2) ?_
    have := Jb6 (c3 := c3) (q := w.heap.size + 1) (r := { r with pending := none }) (R := RR) g1 g2
    rw [e3] at this
    exact this
   have turn : ∀ (st : LoopState) (pe : Option Code) (LL : J3) (w' : World), St c3 LL (qZ (w.heap.size + 1) { r with state := .busy, pending := none }) w' →
     (∀ k ∈ (w.heap.size + 1) :: Qo LL, k < (w'.putObj (w.heap.size + 1) (.loop { r with state := st, pending := pe })).heap.size ∧ (k ∈ (w.heap.size + 1) :: Qo (LI s) ∨ w3.heap.size ≤ k)) ∧
     Keep ((w.heap.size + 1) :: Qo (LI s)) w3 (w'.putObj (w.heap.size + 1) (.loop { r with state := st, pending := pe })) ∧ (∀ p ∈ LL, p.1 ∈ M ∨ w2.heap.size ≤ p.1) ∧ jn LL (w'.putObj (w.heap.size + 1) (.loop { r with state := st, pending := pe })) ∧
     (w'.putObj (w.heap.size + 1) (.loop { r with state := st, pending := pe })).heap[w.heap.size + 1]? = some (.loop { r with state := st, pending := pe }) := by
    intro st pe LL w' hst'
    have hlt : w.heap.size + 1 < w'.heap.size := JM hst'.recd
    have hk' := hst'.keep
    rw [hc3x, hc3i, hc3w] at hk'
    have hown' : ∀ p ∈ LL, (p.1 ∈ Qo (LI s) ∨ w3.heap.size ≤ p.1) ∧ p.1 ≠ w.heap.size + 1 ∧ w'.heap[p.1]? = some p.2 := fun p hp => by
     have := hst'.own p hp
     rw [hc3x, hc3i, hc3w] at this
     simpa using this
    refine ⟨fun k hk => ?_, ?_, fun p hp => ?_, fun p hp => (World.putObj_heap_other (hown' p hp).2.1).trans (hown' p hp).2.2, World.putObj_heap_same hlt⟩
    rcases F'.1 hk with rfl | hk
    exact ⟨Nat.lt_of_lt_of_le hlt (Keep.putObj _ _).size, .inl N'⟩
    obtain ⟨p, hp, rfl⟩ := List.mem_map.1 hk
    obtain ⟨e1, e2, e3⟩ := hown' p hp
    exact ⟨Nat.lt_of_lt_of_le (JM e3) (Keep.putObj _ _).size, e1.imp (M') id⟩
    refine (hk'.weak fun k hm => ?_).trans ((Keep.putObj _ _).weak fun k hm => by simp at hm; subst hm; exact N')
    rcases G'.1 hm with hm | hm
    exact M' hm
    simp only [U'] at hm; subst hm; exact N'
    rcases (hown' p hp).1 with g | g
    exact hidS g
    exact .inr (Lb' hk3.size g)
   refine key _ ?_ ?_
   intro s' w' hI' hst'
   obtain ⟨t1, t2, t3, t4, t5⟩ := turn .ready none (LI s') w' hst'
   refine ⟨true, _, rfl, t1, t2, ?_⟩
   rw [if_pos rfl]
   exact Y3 s' hI' hst'.distinct t3 t4 (by rw [hrr] at t5 ⊢; exact t5)
   ·intro j s' w' hE' hst'
    obtain ⟨t1, t2, t3, t4, t5⟩ := turn .done (some j) (LE s') w' hst'
    refine ⟨false, _, rfl, t1, t2, ?_⟩
    rw [if_neg mf]
    exact fun w'' hw'' => ⟨j, Y3 s' hE' hst'.distinct t3 t4 t5 w'' hw''⟩
  ·-- a call on our blocks
   rintro i g vs hca xs w3 hxs hk3 hfoot
   obtain ⟨⟨s, h1, hpwS, hMS, h2, rfl⟩, h3⟩ := hfoot w3 fun _ _ => rfl
   have hk4 : ∀ p, (p ∈ Lk ∨ p ∈ c.R) → (∀ t ∈ LI s, p.1 ≠ t.1) ∧ w3.heap[p.1]? = some p.2 := fun p hp => by
    rcases hp with hp | hp
    obtain ⟨g1, g2⟩ := hMk p hp
    have hmem := List.mem_cons_of_mem (w.heap.size + 1, Obj.loop r) (List.mem_cons_of_mem (w.heap.size, Obj.deferred (some [])) (hLkm p hp))
    exact ⟨fun t ht e => (apart (hMS t ht)).2.2 p hp e, (hk3.block p.1 (JM (hs2.own _ hmem).2.2) nS).trans (hs2.own _ hmem).2.2⟩
    have e3 := hs2.readR hp
    have hlt := JM (hs2.ext p hp).2.2
    have hsz := hs.keep.size
    have hnq : p.1 ≠ w.heap.size + 1 := fun e => by omega
    exact ⟨fun t ht e => apartR (hMS t ht) p hp e, (hk3.block p.1 (JM e3) np).trans e3⟩
   refine ((hread i g vs s hca h1).run w3 h2 (fun p hp => (hk4 p (hRk p hp)).2) hpwS fun p hp t ht => (hk4 p (hRk p hp)).1 t ht).mono fun e w' ⟨y, he, hkk, hL, hpw'⟩ => ?_
   obtain ⟨⟨v, i', s'⟩, hre, hI'⟩ := y
   have hlt3 := JM h3
   have hsz := hkk.size
   refine ⟨v, i', (w.heap.size + 1) :: Qo (LI s'), hre, he, fun k hk => ?_, hkk.weak fun k hk => M' hk, ?_⟩
   rcases F'.1 hk with rfl | hk
   exact ⟨by omega, .inl N'⟩
   obtain ⟨p, hp, rfl⟩ := List.mem_map.1 hk
   exact ⟨JM (hL p hp).2, (hL p hp).1.imp (M') id⟩
   ·refine Y3 s' hI' hpw' (fun p hp => ?_) (fun p hp => (hL p hp).2) ((hkk.block _ hlt3 fun hm => ?_).trans h3)
    rcases (hL p hp).1 with g | g
    obtain ⟨t, ht, e⟩ := List.mem_map.1 g
    exact e ▸ hMS t ht
    exact .inr (Lb' hk3.size g)
    ·obtain ⟨t, ht, e⟩ := List.mem_map.1 hm
     exact (apart (hMS t ht)).1 e
theorem Jj8 {nx : ι → List Value → J3 → ι → Prop}
  (I : ι → σ → Prop) (LI : σ → J3) (E : Code → τ → Prop) (LE : τ → J3) (Lk : J3) (s0 : σ)
  (hro : c.ro = none) (hf : KU l f = some (.func (.func gf) #[] caps.toArray)) (eg : Enters c.P gf) (hit : Jz2 c.P gf caps Rl p0 nx fi) (hlen : ∀ i v B i', nx i v B i' → v.length = pp.length) (hpp : pp.all (Nat.blt · c.n) = true)
  (hRl : ∀ p ∈ Rl, p ∈ Lk ∨ p ∈ c.R) (hL : L = LI s0 ++ Lk) (h0 : I p0 s0)
  (hround : ∀ (q : Nat) (Xr Xb : XP) (w3 : World) (i : ι) (v : List Value) (B : J3) (i' : ι) (s : σ), nx i v B i' → I i s → ∀ K, Jb5 (yW c q w3 (Qo (LI s)) (B ++ Lk)) Xr Xb body (Y2 (yW c q w3 (Qo (LI s)) (B ++ Lk)) Xb (I i') LI E LE) K →
   HC (yW c q w3 (Qo (LI s)) (B ++ Lk)) [] (vW pp v l) (LI s) Xr assign (Exit.then K fun _ _ _ => False))
  (hdone : ∀ D i s, fi i → I i s → HQ c (Wo D :: d) l ((D, .deferred (some [])) :: (LI s ++ Lk)) X (Q .normal))
  (hstop : ∀ D j s, E j s → HC c (Wo D :: d) l ((D, .deferred (some [])) :: (LE s ++ Lk)) X j Q) :
  HC c d l L X (.rangeFunc f pp.toArray assign body) Q :=
 yX (T := []) (Rk := []) (ca := fun _ _ _ => False) (re := fun _ _ _ => True) (dead := fun _ => False) I LI E LE Lk s0 hro hf eg
  (fun q xids w2 XI XF a _ _ d e _ g _ => hit q xids w2 XI XF (fun p hp => ⟨(a p hp).1, (a p hp).2.2⟩) d e g)
  hlen hpp hRl (fun _ h => absurd h List.not_mem_nil) hL h0 (fun _ _ h => h.elim) (fun _ _ _ _ h => h.elim) hround hdone hstop
theorem Zr
  (I : ι → σ → Prop) (LI : σ → J3) (E : Code → τ → Prop) (LE : τ → J3) (Lk : J3) (s0 : σ)
  (hro : c.ro = none) (hf : KU l f = some (.func (.func gf) #[] caps.toArray)) (eg : Enters c.P gf) (hit : vV c.P gf caps Rl p0 nx fi) (hlen : ∀ i v i', nx i v i' → v.length = pp.length) (hpp : pp.all (Nat.blt · c.n) = true)
  (hRl : ∀ p ∈ Rl, p ∈ Lk ∨ p ∈ c.R) (hL : L = LI s0 ++ Lk) (h0 : I p0 s0)
  (hround : ∀ (q : Nat) (Xr Xb : XP) (w3 : World) (i : ι) (v : List Value) (i' : ι) (s : σ), nx i v i' → I i s → ∀ K, Jb5 (yW c q w3 (Qo (LI s)) Lk) Xr Xb body (Y2 (yW c q w3 (Qo (LI s)) Lk) Xb (I i') LI E LE) K →
   HC (yW c q w3 (Qo (LI s)) Lk) [] (vW pp v l) (LI s) Xr assign (Exit.then K fun _ _ _ => False))
  (hdone : ∀ D i s, fi i → I i s → HQ c (Wo D :: d) l ((D, .deferred (some [])) :: (LI s ++ Lk)) X (Q .normal))
  (hstop : ∀ D j s, E j s → HC c (Wo D :: d) l ((D, .deferred (some [])) :: (LE s ++ Lk)) X j Q) :
  HC c d l L X (.rangeFunc f pp.toArray assign body) Q :=
 Jj8 (nx := fun i v B i' => nx i v i' ∧ B = []) I LI E LE Lk s0 hro hf eg (fun q xids w2 XI XF a b e h => hit q xids w2 XI XF a b e fun i v i' hn xs w h1 h2 h3 => h i v [] i' ⟨hn, rfl⟩ xs w h1 h2 h3 (fun _ h => absurd h List.not_mem_nil) (fun _ h => absurd h List.not_mem_nil)) (fun i v B i' h => hlen i v i' h.1) hpp hRl hL h0 (fun q Xr Xb w3 i v B i' s h hI K hK => by obtain ⟨h, rfl⟩ := h; exact hround q Xr Xb w3 i v i' s h hI K hK) hdone hstop
theorem Jmb
  (I : ι → σ → Prop) (LI : σ → J3) (E : Code → τ → Prop) (LE : τ → J3) (Lk : J3) (s0 : σ)
  (hro : c.ro = none) (hf : KU l f = some (.func (.func gf) #[] caps.toArray)) (eg : Enters c.P gf) (hit : vV c.P gf caps Rl p0 nx fi) (hlen : ∀ i v i', nx i v i' → v.length = pp.length) (hpp : pp.all (Nat.blt · c.n) = true)
  (hRl : ∀ p ∈ Rl, p ∈ Lk) (hL : L = LI s0 ++ Lk) (h0 : I p0 s0)
  (hround : ∀ (q : Nat) (Xr Xb : XP) (w3 : World) (i : ι) (v : List Value) (i' : ι) (s : σ), nx i v i' → I i s → ∀ K, Jb5 (yW c q w3 (Qo (LI s)) Lk) Xr Xb body (Y2 (yW c q w3 (Qo (LI s)) Lk) Xb (I i') LI E LE) K →
   HC (yW c q w3 (Qo (LI s)) Lk) [] (vW pp v l) (LI s) Xr assign (Exit.then K fun _ _ _ => False))
  (hdone : ∀ D i s, fi i → I i s → HQ c (Wo D :: d) l ((D, .deferred (some [])) :: (LI s ++ Lk)) X (Q .normal))
  (hstop : ∀ D j s, E j s → HC c (Wo D :: d) l ((D, .deferred (some [])) :: (LE s ++ Lk)) X j Q) :
  HC c d l L X (.rangeFunc f pp.toArray assign body) Q :=
 Zr I LI E LE Lk s0 hro hf eg hit hlen hpp (fun p hp => .inl (hRl p hp)) hL h0 hround hdone hstop
end
def lookE (eq : Value → Value → Bool) (k : Value) : List MapEntry → Nat → Option (Nat × Value)
 | [], _ => none
 | e :: es, i => if eq k e.key then some (i, e.val) else lookE eq k es (i + 1)
def Yc (e : MapEntry) : Value × Value := (e.key, e.val)
def Qx (eq : Value → Value → Bool) (k : Value) : List (Value × Value) → Option Value
 | [] => none
 | (k', v) :: r => if eq k k' then some v else Qx eq k r
structure KeyL (P : Program) (kt : TypeId) (dom : Value → Prop) (eq : Value → Value → Bool) : Prop where
  now : ∃ dsc, P.underlying kt = some dsc ∧ ∀ a b, dom a → dom b → Instr.sameNow dsc a b = none ∨ Instr.sameNow dsc a b = some (eq a b)
  equal : ∀ a b w, dom a → dom b → (Op.equal kt a b).run P w = .ok (eq a b) w
  check : ∀ a b w, dom a → (Instr.checkKey b 10000 kt a).run P w = .ok () w
theorem qj (eq : Value → Value → Bool) (k : Value) : ∀ (es : List MapEntry) (i : Nat), (lookE eq k es i).map (·.2) = Qx eq k (es.map Yc)
 | [], _ => rfl
 | e :: es, i => by
  simp only [lookE, List.map_cons, Yc, Qx]
  split
  ·rfl
  ·exact qj eq k es (i + 1)
theorem qI (K : KeyL P kt dom eq) {k : Value} (hk : dom k) {es : List MapEntry} (he : ∀ e ∈ es, dom e.key) (w : World) :
  (Instr.findKey kt k es).run P w = .ok (lookE eq k es 0) w := by
 obtain ⟨dsc, hu, hn⟩ := K.now
 have h1 : ∀ (es : List MapEntry) (i : Nat), (∀ e ∈ es, dom e.key) → (Instr.findAsking kt k es i).run P w = .ok (lookE eq k es i) w := by
  intro es
  induction es with
  | nil => intro i _; rfl
  | cons e es ih =>
   intro i he
   simp only [Instr.findAsking, Sem.run_bind, K.equal k e.key w hk (he e N'), Result.andThen, lookE]
   split
   ·rfl
   ·exact ih (i + 1) fun e' h' => he e' (M' h')
 have h2 : ∀ (es : List MapEntry) (i : Nat), (∀ e ∈ es, dom e.key) → ∀ r, Instr.findNow dsc k es i = some r → r = lookE eq k es i := by
  intro es
  induction es with
  | nil => intro i _ r h; simp only [Instr.findNow, Option.some.injEq] at h; subst h; rfl
  | cons e es ih =>
   intro i he r h
   simp only [Instr.findNow] at h
   rcases hn k e.key hk (he e N') with h' | h'
   ·rw [h'] at h; cases h
   ·rw [h'] at h
    simp only [lookE]
    cases hb : eq k e.key with
    | true => rw [hb] at h; simp only [Option.some.injEq] at h; subst h; rfl
    | false => rw [hb] at h; simp only at h; simpa using ih (i + 1) (fun e' h' => he e' (M' h')) r h
 unfold Instr.findKey
 simp only [Sem.run_bind, Q6 hu, Result.andThen]
 split
 ·rename_i r hr; rw [h2 es 0 he r hr]; rfl
 ·exact h1 es 0 he
def vX (P : Program) (t : TypeId) : Option (TypeId × TypeId) := match P.underlying t with | some (.map k e) => some (k, e) | _ => none
theorem Jhc {t k e : Nat} (h : vX P t = some (k, e)) : P.underlying t = some (.map k e) := by
 unfold vX at h; split at h <;> simp_all
theorem Je7  {et : TypeId} {k z : Value} (K : KeyL P kt dom eq) (ht : vX P t = some (kt, et)) (hz : Vo P et = some z)
  (hr : w.heap[r]? = some (.map es clock)) (hk : dom k) (he : ∀ e ∈ es.toList, dom e.key) (ok : Bool) :
  (Instr.lookup t (.map (some r)) k ok).run P w = .ok (if ok then .tuple #[((Qx eq k (es.toList.map Yc)).getD z), .bool (Qx eq k (es.toList.map Yc)).isSome] else (Qx eq k (es.toList.map Yc)).getD z) w := by
 have hget : (getObj r).run P w = .ok (.map es clock) w := by simp [getObj, Sem.run, hr]
 rw [← qj eq k es.toList 0]
 unfold Instr.lookup
 simp only [Sem.run_bind, Q6 (Jhc ht), Result.andThen, hget, Sem.run_pure, K.check k _ w hk, qI K hk he w]
 cases lookE eq k es.toList 0 with
 | none => simp [XZ hz]
 | some p => simp
theorem vY  {et : TypeId} {k : Value} (K : KeyL P kt dom eq) (ht : vX P t = some (kt, et))
  (hr : w.heap[r]? = some (.map es clock)) (hk : dom k) (he : ∀ e ∈ es.toList, dom e.key) (hn : Qx eq k (es.toList.map Yc) = none) :
  (Instr.mapUpdate t (.map (some r)) k v).run P w = .ok () (w.putObj r (.map (es.push { key := k, val := v, born := clock }) (clock + 1))) := by
 have hget : (getObj r).run P w = .ok (.map es clock) w := by simp [getObj, Sem.run, hr]
 have hl : lookE eq k es.toList 0 = none := by
  have := qj eq k es.toList 0
  rw [hn] at this
  cases h : lookE eq k es.toList 0 with
  | none => rfl
  | some p => rw [h] at this; cases this
 unfold Instr.mapUpdate
 simp only [Sem.run_bind, Q6 (Jhc ht), Result.andThen, hget, K.check k _ w hk, qI K hk he w, hl]
 simp [setObj, Sem.run, hr, World.putObj]
theorem qJ {eq : Value → Value → Bool} {k : Value} : ∀ {kv : List (Value × Value)}, Qx eq k kv = none ↔ ∀ p ∈ kv, eq k p.1 = false
 | [] => by simp [Qx]
 | (k', v) :: r => by
  simp only [Qx, F', forall_eq_or_imp]
  cases h : eq k k' with
  | true => simp
  | false => simpa using qJ (kv := r)
theorem Jb7 {k : Value} {kv kv' : List (Value × Value)} (hp : kv.Perm kv') (hd : kv.Pairwise fun p q => ¬ (eq k p.1 = true ∧ eq k q.1 = true)) : Qx eq k kv = Qx eq k kv' := by
 induction hp with
 | nil => rfl
 | cons x _ ih =>
  simp only [Qx]
  split
  ·rfl
  ·exact ih (List.pairwise_cons.1 hd).2
 | swap x y l =>
  have h1 := (List.pairwise_cons.1 hd).1 x N'
  simp only [Qx]
  cases hx : eq k x.1 <;> cases hy : eq k y.1 <;> simp_all
 | trans h1 h2 ih1 ih2 => rw [ih1 hd, ih2 ((h1.pairwise_iff (fun hab hc => hab ⟨hc.2, hc.1⟩)).1 hd)]
section
variable {c : Cx} {l : KY} {L : J3} {X : XP} {Q : Exit → Act → World → Prop} {d : List Deferred}
variable {ops : Array Oper} {rest : List Oper} {i : Nat} {v : Value} {t : TypeId} {ps : String} {af : Array Edge} {gd : Option (Nat × Bool)} {ty : TypeId}
theorem Qk  {kt et : Nat} {k z : Value} {ok : Bool} (K : KeyL c.P kt dom eq) (hx : KU l x = some (.map (some r))) (hy : KU l y = some k) (hk : known c L r (.map es clock))
  (ht : vX c.P t = some (kt, et)) (hz : Vo c.P et = some z) (hd : dom k) (he : ∀ e ∈ es.toList, dom e.key) (hv : (if ok then .tuple #[((Qx eq k (es.toList.map Yc)).getD z), .bool (Qx eq k (es.toList.map Yc)).isSome] else (Qx eq k (es.toList.map Yc)).getD z) = v) :
  Kg c d l L X ⟨some i, .lookup t x y ok, ty, ps, af, gd⟩ v := fun a w hf hs => by
 simp only [execOp, Sem.run_bind]; rw [hf.eval hx, hf.eval hy, Je7 K ht hz (hs.known hk) hd he ok, hv]; rfl
theorem yY : ∀ (l : List Bool) (i : Nat), l[i]? = some false → (l.set i true).count false + 1 = l.count false
 | [], i, h => by simp at h
 | b :: l, 0, h => by simp only [List.getElem?_cons_zero, Option.some.injEq] at h; subst h; simp
 | b :: l, i + 1, h => by
  simp only [List.getElem?_cons_succ] at h
  have := yY l i h
  simp only [List.set_cons_succ, List.count_cons]
  omega
theorem Jhd {ro : Option Nat} {P : Program} (Inv : Array Bool → Act → World → Prop)
  (hstep : ∀ listed a w i, Inv listed a w → i ∈ Region.ready .any ops listed → wpOpIn (FW ro) 0 P ops Q i (fun a' w' => Inv (listed.setIfInBounds i true) a' w') a w)
  (hend : ∀ listed a w, Inv listed a w → Region.ready .any ops listed = [] → Q .normal a w) :
  ∀ (fuel : Nat) (listed : Array Bool) (a : Act) (w : World), Inv listed a w → listed.size = ops.size → listed.toList.count false = fuel → wpAnyIn (FW ro) 0 P .any ops Q fuel listed a w
 | 0, listed, a, w, h, hs, hc => by
  have hr : Region.ready .any ops listed = [] := by
   cases hr : Region.ready .any ops listed with
   | nil => rfl
   | cons i r =>
    exfalso
    have h1 := (mem_ready.1 (hr ▸ N' : i ∈ Region.ready .any ops listed)).1
    have h2 : i < listed.size := by
     rcases Nat.lt_or_ge i listed.size with h2 | h2
     ·exact h2
     ·simp [Array.getElem?_eq_none h2] at h1
    have : false ∈ listed.toList := by
     rw [List.mem_iff_getElem?]
     exact ⟨i, by simp [h2] at h1 ⊢; exact h1⟩
    have := List.count_pos_iff.2 this
    omega
  exact ⟨hr, hend _ _ _ h hr⟩
 | fuel + 1, listed, a, w, h, hs, hc => ⟨fun hr => hend _ _ _ h hr, fun i hi => by
  refine wpOpIn_mono (fun a' w' h' => Jhd Inv hstep hend fuel _ a' w' h' (by simpa using hs) ?_) (hstep _ _ _ i h hi)
  have h1 := (mem_ready.1 hi).1
  have h2 : i < listed.size := by
   rcases Nat.lt_or_ge i listed.size with h2 | h2
   ·exact h2
   ·simp [Array.getElem?_eq_none h2] at h1
  have := yY listed.toList i (by simp [h2] at h1 ⊢; exact h1)
  simp only [Array.toList_setIfInBounds]
  omega⟩
end
def xx : List Edge → Nat → Bool
 | [], _ => false
 | e :: es, j => match Region.binds .any e, Nat.beq e.on j with | true, true => true | _, _ => xx es j
def XN (o : Oper) (j : Nat) : Bool := xx o.after.toList j
theorem Jb8 (h : XN o j = true) : ∃ e ∈ o.after, Region.binds .any e = true ∧ e.on = j := by
 unfold XN at h
 have key : ∀ (l : List Edge), xx l j = true → ∃ e ∈ l, Region.binds .any e = true ∧ e.on = j := by
  intro l
  induction l with
  | nil => intro h; cases h
  | cons e l ih =>
   intro h
   simp only [xx] at h
   split at h
   ·rename_i h1 h2; exact ⟨e, N', h1, Nat.eq_of_beq_eq_true h2⟩
   ·obtain ⟨e', he', h'⟩ := ih h; exact ⟨e', M' he', h'⟩
 obtain ⟨e, he, h'⟩ := key _ h
 exact ⟨e, Array.mem_toList_iff.1 he, h'⟩
def Jxd (pu : List (Nat × Nat × Value)) (o : Oper) : KY := (pu.filter fun p => XN o p.1).map (·.2)
theorem Jj9 {pu : List (Nat × Nat × Value)} (h : VA (Jxd pu o) i = some v) : ∃ p ∈ pu, XN o p.1 = true ∧ p.2 = (i, v) := by
 unfold Jxd at h
 induction pu with
 | nil => cases h
 | cons p r ih =>
  rw [List.filter_cons] at h
  split at h
  ·rename_i hw
   simp only [List.map_cons, VA] at h
   by_cases e : i = p.2.1
   ·subst e; rw [Nat.beq_refl] at h; simp only [Option.some.injEq] at h
    exact ⟨p, N', hw, by rw [← h]⟩
   ·rw [show Nat.beq i p.2.1 = false from by rw [Bool.eq_false_iff]; exact fun hb => e (Nat.eq_of_beq_eq_true hb)] at h
    exact DZ
  ·exact DZ
theorem J0 {l : List α} {n : Nat} {x : α} (h : X3 l n = some x) : x ∈ l := by rw [Vm] at h; exact List.mem_of_getElem? h
inductive MLit (c : Cx) (d : List Deferred) (t m : Nat) (pu : List (Nat × Nat × Value)) (ins : List (Nat × Value × Value)) (mv : List (Nat × Nat)) : Nat → Oper → Prop
  | mk {ty : TypeId} {ps : String} {af : Array Edge} : MLit c d t m pu ins mv 0 ⟨some m, .makeMap t none, ty, ps, af, none⟩
  | pure {i s : Nat} {v : Value} {o : Oper} (h : (i, s, v) ∈ pu) (hd : o.dst = some s) (hg : o.guard = none) (hn : KM o.op = true) (hr : Kg c d (Jxd pu o) [] (fun _ _ => True) o v) : MLit c d t m pu ins mv i o
  | ins {i j1 j2 ks vs : Nat} {k v : Value} {ty : TypeId} {ps : String} {af : Array Edge} (h : (i, k, v) ∈ ins) (h1 : (j1, ks, k) ∈ pu) (h2 : (j2, vs, v) ∈ pu)
      (hw0 : XN ⟨none, .insert t (.tmp m) (.tmp ks) (.tmp vs), ty, ps, af, none⟩ 0 = true) (hw1 : XN ⟨none, .insert t (.tmp m) (.tmp ks) (.tmp vs), ty, ps, af, none⟩ j1 = true)
      (hw2 : XN ⟨none, .insert t (.tmp m) (.tmp ks) (.tmp vs), ty, ps, af, none⟩ j2 = true) : MLit c d t m pu ins mv i ⟨none, .insert t (.tmp m) (.tmp ks) (.tmp vs), ty, ps, af, none⟩
  | mv {i s x : Nat} {o : Oper} (h : (i, s) ∈ mv) (hd : o.dst = some s) (hg : o.guard = none) (hop : o.op = .move (.tmp x) ∨ o.op = .assign (.tmp x)) (hw : XN o 0 = true) (hx : x = m ∨ ∃ j, (j, x) ∈ mv ∧ XN o j = true) : MLit c d t m pu ins mv i o
structure PureE {α : Type} (P : Program) (f : FuncId) (args : Array Value) (V : α → Value) (LL : α → J3) : Prop where
  run : ∀ w, Calls P f args w fun e w' => ∃ x, e = .returned (V x) ∧ Keep [] w w' ∧ (∀ p ∈ LL x, w.heap.size ≤ p.1 ∧ w'.heap[p.1]? = some p.2) ∧ (LL x).Pairwise fun p q => p.1 ≠ q.1
theorem St.freshs (h : St c L X w) (k : Keep [] w w') : ∀ {LL : J3}, (∀ p ∈ LL, w.heap.size ≤ p.1 ∧ w'.heap[p.1]? = some p.2) → (LL.Pairwise fun p q => p.1 ≠ q.1) → St c (LL ++ L) X w'
 | [], _, _ => h.more k
 | p :: LL, h1, h2 => by
  have ih := h.freshs k (fun q hq => h1 q (M' hq)) (List.pairwise_cons.1 h2).2
  obtain ⟨g1, g2⟩ := h1 p N'
  refine ⟨ih.keep, fun q hq => ?_, List.pairwise_cons.2 ⟨fun q hq => ?_, ih.distinct⟩, ih.ext, ih.xlt, ?_⟩
  rotate_left 2
  ·obtain ⟨xs, e1, e2⟩ := h.x
   refine ⟨xs, fun i hi => ⟨(e1 i hi).1, Nat.lt_of_lt_of_le (e1 i hi).2.1 k.size, fun q hq => ?_⟩, fun w2 hw2 => e2 w2 fun i hi => (hw2 i hi).trans (k.block i (e1 i hi).2.1 mf)⟩
   have h3 := (e1 i hi).2.1
   rcases G'.1 hq with hq | hq
   ·have := (h1 q hq).1; omega
   ·exact (e1 i hi).2.2 q hq
  ·rcases F'.1 hq with rfl | hq
   ·exact ⟨.inr (Lb' h.keep.size g1), fun hx => (by have := h.xlt _ hx; have := h.keep.size; omega), g2⟩
   ·exact ih.own q hq
  ·rcases G'.1 hq with hq | hq
   ·exact (List.pairwise_cons.1 h2).1 q hq
   ·have := JM (h.own q hq).2.2
    omega
section
variable {c : Cx} {l : KY} {L : J3} {X : XP} {Q : Exit → Act → World → Prop} {d : List Deferred}
structure MInv (c : Cx) (d : List Deferred) (l : KY) (L : J3) (X : XP) (m : Nat) (pu : List (Nat × Nat × Value)) (ins : List (Nat × Value × Value)) (mv : List (Nat × Nat)) (N : Nat) (listed : Array Bool) (a : Act) (w : World) : Prop where
  lsz : listed.size = N
  size : a.tmps.size = c.n
  defers : a.defers = d
  base : ∀ i v, VA l i = some v → a.tmps[i]? = some v
  pure : ∀ p ∈ pu, listed.getD p.1 false = true → a.tmps[p.2.1]? = some p.2.2
  world : (listed.getD 0 false = false ∧ (∀ p ∈ ins, listed.getD p.1 false = false) ∧ (∀ p ∈ mv, listed.getD p.1 false = false) ∧ St c L X w) ∨
    ∃ r es, listed.getD 0 false = true ∧ a.tmps[m]? = some (.map (some r)) ∧ (∀ p ∈ mv, listed.getD p.1 false = true → a.tmps[p.2]? = some (.map (some r))) ∧ St c ((r, .map es es.size) :: L) X w ∧
      (es.toList.map Yc).Perm ((ins.filter fun p => listed.getD p.1 false).map (·.2)) ∧ es.toList.map (·.born) = List.range es.size
theorem Jmc (listed : Array Bool) (i j : Nat) (hi : i < listed.size) : (listed.setIfInBounds i true).getD j false = (if j = i then true else listed.getD j false) := by
 by_cases h : j = i
 ·subst h; simp [hi]
 ·rw [if_neg h]; exact getD_set_ne false (fun e => h e.symm)
theorem Je8 {ins : List (Nat × Value × Value)} {k : Value} {f : Nat → Bool} (hn : (ins.map (·.1)).Nodup) (h : (i, k, v) ∈ ins) (hf : f i = false) :
  (ins.filter fun p => if p.1 = i then true else f p.1).Perm ((i, k, v) :: ins.filter fun p => f p.1) := by
 induction ins with
 | nil => cases h
 | cons p r ih =>
  rw [List.map_cons, List.nodup_cons] at hn
  rcases F'.1 h with rfl | h
  ·have h1 : (r.filter fun p => if p.1 = i then true else f p.1) = r.filter fun p => f p.1 := by
    apply List.filter_congr
    intro q hq
    have : q.1 ≠ i := fun e => hn.1 (by simpa [e] using I' (f := (·.1)) hq)
    simp [this]
   rw [List.filter_cons, List.filter_cons, h1]
   simp [hf]
  ·have hpi : p.1 ≠ i := fun e => hn.1 (by rw [e]; simpa using I' (f := (·.1)) h)
   simp only [List.filter_cons, hpi, if_false]
   cases hfp : f p.1 with
   | true => simpa using ((ih hn.2 h).cons p).trans (P')
   | false => simpa using ih hn.2 h
theorem Jka {ops : List Oper} {et : TypeId} (m : Nat) (pu : List (Nat × Nat × Value)) (ins : List (Nat × Value × Value)) (mv : List (Nat × Nat)) (l' : KY)
  (K : KeyL c.P kt dom eq) (ht : vX c.P t = some (kt, et)) (hm : c.P.follows .mixedOrders = true)
  (hops : ∀ (i : Nat) (o : Oper), ops[i]? = some o → MLit c d t m pu ins mv i o) (hedge : (ops.zipIdx.all fun p => p.1.after.all fun e => Nat.blt e.on p.2) = true) (hlen : Nat.blt 0 ops.length = true)
  (hslots : (m :: (pu.map (·.2.1) ++ mv.map (·.2))).Nodup) (hlt : (m :: (pu.map (·.2.1) ++ mv.map (·.2))).all (Nat.blt · c.n) = true) (hbase : ∀ i v, VA l' i = some v → VA l i = some v ∧ i ∉ m :: (pu.map (·.2.1) ++ mv.map (·.2)))
  (hidx : (0 :: (pu.map (·.1) ++ ins.map (·.1) ++ mv.map (·.1))).Nodup)
  (hpull : (pu.map (·.1) ++ ins.map (·.1) ++ mv.map (·.1)).all (Nat.blt · ops.length) = true)
  (hdom : ∀ p ∈ ins, dom p.2.1) (hdist : ins.Pairwise fun p q => eq p.2.1 q.2.1 = false ∧ eq q.2.1 p.2.1 = false)
  (h : ∀ r es, (es.toList.map Yc).Perm (ins.map (·.2)) → es.toList.map (·.born) = List.range es.size → HQ c d (mv.map (fun p => (p.2, .map (some r))) ++ l') ((r, .map es es.size) :: L) X (Q .normal)) :
  HC c d l L X (.region id ops.toArray true) Q := fun a w hf hs => by
 refine wpIn_region_any hm ?_
 have hsl := List.nodup_cons.1 hslots
 have hsl2 := List.nodup_append.1 hsl.2
 have hix := List.nodup_cons.1 hidx
 have hix2 := List.nodup_append.1 hix.2
 have hix3 := List.nodup_append.1 hix2.1
 have hltm : ∀ s, s ∈ m :: (pu.map (·.2.1) ++ mv.map (·.2)) → s < c.n := fun s hs => by simpa using List.all_eq_true.1 hlt s hs
 have hmn : m < c.n := hltm m N'
 have hpn : ∀ p ∈ pu, p.2.1 < c.n ∧ p.2.1 ≠ m := fun p hp => ⟨hltm _ (M' (W' (I' hp))), fun e => hsl.1 (e ▸ W' (I' hp))⟩
 have hvn : ∀ p ∈ mv, p.2 < c.n ∧ p.2 ≠ m := fun p hp => ⟨hltm _ (M' (Y' (I' hp))), fun e => hsl.1 (e ▸ Y' (I' hp))⟩
 have hpv : ∀ p ∈ pu, ∀ q ∈ mv, p.2.1 ≠ q.2 := fun p hp q hq => hsl2.2.2 _ (I' hp) _ (I' hq)
 have inj : ∀ {α : Type} (f : α → Nat) (l : List α), (l.map f).Nodup → ∀ x ∈ l, ∀ y ∈ l, f x = f y → x = y := by
  intro α f l
  induction l with
  | nil => intro _ x hx; cases hx
  | cons z r ih =>
   intro hn x hx y hy he
   rw [List.map_cons, List.nodup_cons] at hn
   rcases F'.1 hx with h1 | h1 <;> rcases F'.1 hy with h2 | h2
   rw [h1, h2]
   rw [← h1] at hn; exact absurd (he ▸ I' h2) hn.1
   rw [← h2] at hn; exact absurd (he ▸ I' h1) hn.1
   exact ih hn.2 x h1 y h2 he
 refine Jhd (MInv c d l' L X m pu ins mv ops.length) ?_ ?_ _ _ _ _ ?_ mf ?_
 ·-- a step
  intro listed a w i inv hi
  obtain ⟨hun, o, ho, hall⟩ := mem_ready.1 hi
  have hisz : i < listed.size := by
   rcases Nat.lt_or_ge i listed.size with h2 | h2
   exact h2
   simp [Array.getElem?_eq_none h2] at hun
  have hun' := getD_both hun
  have hwait : ∀ j, XN o j = true → listed.getD j false = true := fun j hj => by
   obtain ⟨e, he, hb, rfl⟩ := Jb8 hj
   exact hall e he hb
  have hset : ∀ j, (listed.setIfInBounds i true).getD j false = (if j = i then true else listed.getD j false) := fun j => Jmc listed i j hisz
  have putne : ∀ (s s' : Nat) (v : Value), s' ≠ s → (a.put (some s) v).tmps[s']? = a.tmps[s']? := fun s s' v hne => by
   simp only [Act.put, Array.getElem?_setIfInBounds]; rw [if_neg (fun e => hne e.symm)]
  have puteq : ∀ (s : Nat) (v : Value), s < c.n → (a.put (some s) v).tmps[s]? = some v := fun s v hlt => by
   simp [Act.put, inv.size, hlt]
  have hcert := hops i o Ml
  unfold wpOpIn
  rw [ho]
  simp only
  cases hcert with
  | mk =>
   rw [if_pos (by simp [Region.wanted])]
   refine ⟨Qc, ?_⟩
   rw [Oper.semAt_eq _ _ _ (VJ rfl)]
   rcases inv.world with ⟨h0, h1, h2, h3⟩ | ⟨r, es, h0, _⟩
   have hrun : (execOp a.eval ⟨some m, .makeMap t none, ‹_›, ‹_›, ‹_›, none⟩).run c.P w = .ok (.value (.map (some w.heap.size))) (w.alloc (.map #[] 0)) := by
    simp [execOp, Instr.makeMap, Sem.run_bind, Result.andThen]
   rw [hrun, Oper.uponIn_value]
   refine ⟨by simpa using inv.lsz, by simp [Act.put, inv.size], by simp [Act.put, inv.defers], fun j v hv => ?_, fun p hp hl => ?_, .inr ⟨w.heap.size, #[], ?_, puteq m _ hmn, fun p hp hl => ?_, h3.alloc _, ?_, rfl⟩⟩
   rw [putne m j _ (fun e => (hbase j v hv).2 (e ▸ N'))]; exact inv.base j v hv
   rw [putne m _ _ (hpn p hp).2]
   rw [hset] at hl
   have : p.1 ≠ 0 := fun e => hix.1 (e ▸ W' (W' (I' hp)))
   rw [if_neg this] at hl
   exact inv.pure p hp hl
   rw [hset]; simp
   rw [hset] at hl
   have : p.1 ≠ 0 := fun e => hix.1 (e ▸ Y' (I' hp))
   rw [if_neg this, h2 p hp] at hl; cases hl
   have : (ins.filter fun p => (listed.setIfInBounds 0 true).getD p.1 false) = [] := by
    rw [List.filter_eq_nil_iff]
    intro p hp
    rw [hset]
    have : p.1 ≠ 0 := fun e => hix.1 (e ▸ W' (Y' (I' hp)))
    rw [if_neg this, h1 p hp]; simp
   rw [this]; exact O'
   rw [h0] at hun'; cases hun'
  | @pure _ s v _ hmem hd hg hn hr =>
   have hw : Region.wanted o (yielded ops.toArray a.tmps) = true := by simp [Region.wanted, hg]
   rw [if_pos hw]
   refine ⟨Qc, ?_⟩
   rw [Oper.semAt_eq _ _ _ (VJ hn), hr a w ⟨inv.size, inv.defers, fun j u hu => (by obtain ⟨p, hp, hpw, he⟩ := Jj9 hu; have := inv.pure p hp (hwait p.1 hpw); rw [he] at this; exact this)⟩
    (by rcases inv.world with ⟨_, _, _, h3⟩ | ⟨_, _, _, _, _, h3, _⟩ <;> exact (h3.weakL (S')).weakX fun _ _ _ => trivial), Oper.uponIn_value, hd]
   have hs1 := hpn _ hmem
   simp only at hs1
   have h0i : (0 : Nat) ≠ i := fun e => hix.1 (e ▸ W' (W' (I' hmem)))
   have hii : ∀ p ∈ ins, p.1 ≠ i := fun p hp e => hix3.2.2 i (I' (f := (·.1)) hmem) p.1 (I' hp) e.symm
   have hvi : ∀ p ∈ mv, p.1 ≠ i := fun p hp e => hix2.2.2 i (W' (I' (f := (·.1)) hmem)) p.1 (I' hp) e.symm
   have hfil : (ins.filter fun p => (listed.setIfInBounds i true).getD p.1 false) = ins.filter fun p => listed.getD p.1 false := by
    apply List.filter_congr; intro p hp; rw [hset, if_neg (hii p hp)]
   refine ⟨by simpa using inv.lsz, by simp [Act.put, inv.size], by simp [Act.put, inv.defers], fun j u hu => ?_, fun p hp hl => ?_, ?_⟩
   ·rw [putne s j _ (fun e => (hbase j u hu).2 (e ▸ M' (W' (I' (f := (·.2.1)) hmem))))]; exact inv.base j u hu
   ·rw [hset] at hl
    by_cases e : p.1 = i
    ·have : p = (i, s, v) := inj (·.1) pu hix3.1 p hp _ hmem e
     subst this; exact puteq s v hs1.1
    ·rw [if_neg e] at hl
     rw [putne s _ _ (fun e' => e (by have := inj (·.2.1) pu hsl2.1 p hp _ hmem e'; rw [this]))]
     exact inv.pure p hp hl
   rcases inv.world with ⟨h0, h1, h2, h3⟩ | ⟨r, es, h0, h1, h2, h3, h4, h5⟩
   exact .inl ⟨by rw [hset, if_neg h0i]; exact h0, fun p hp => by rw [hset, if_neg (hii p hp)]; exact h1 p hp, fun p hp => by rw [hset, if_neg (hvi p hp)]; exact h2 p hp, h3⟩
   refine .inr ⟨r, es, by rw [hset, if_neg h0i]; exact h0, by rw [putne s m _ (fun e => hs1.2 e.symm)]; exact h1, fun p hp hl => ?_, h3, by rw [hfil]; exact h4, h5⟩
   rw [hset, if_neg (hvi p hp)] at hl
   rw [putne s _ _ (fun e => hpv _ hmem p hp e.symm)]
   exact h2 p hp hl
  | @ins _ j1 j2 ks vs k v _ _ _ hmem h1 h2 hw0 hw1 hw2 =>
   rw [if_pos (by simp [Region.wanted])]
   refine ⟨Qc, ?_⟩
   rw [Oper.semAt_eq _ _ _ (VJ rfl)]
   have hl0 := hwait 0 hw0
   have hk := inv.pure _ h1 (hwait j1 hw1)
   have hv := inv.pure _ h2 (hwait j2 hw2)
   simp only at hk hv
   rcases inv.world with ⟨h0, _⟩ | ⟨r, es, h0, g1, g2, g3, g4, g5⟩
   rw [h0] at hl0; cases hl0
   ·have hget := (g3.own _ N').2.2
    have hin : ∀ p ∈ es.toList.map Yc, ∃ q ∈ ins, q.2 = p ∧ listed.getD q.1 false = true := fun p hp => by
     have := g4.subset hp
     obtain ⟨q, hq, rfl⟩ := List.mem_map.1 this
     rw [List.mem_filter] at hq
     exact ⟨q, hq.1, rfl, hq.2⟩
    have hed : ∀ e ∈ es.toList, dom e.key := fun e he => by
     obtain ⟨q, hq, he', _⟩ := hin (Yc e) (I' he)
     have := hdom q hq
     rw [he'] at this; exact this
    have hnone : Qx eq k (es.toList.map Yc) = none := qJ.2 fun p hp => by
     obtain ⟨q, hq, rfl, hql⟩ := hin p hp
     have hne : q ≠ (i, k, v) := fun e => by rw [e] at hql; rw [hun'] at hql; cases hql
     have : ∀ {l : List (Nat × Value × Value)}, l.Pairwise (fun p q => eq p.2.1 q.2.1 = false ∧ eq q.2.1 p.2.1 = false) → ∀ x ∈ l, ∀ y ∈ l, x ≠ y → eq x.2.1 y.2.1 = false := by
      intro l hpw
      induction hpw with
      | nil => intro x hx; cases hx
      | cons hz _ ih =>
       intro x hx y hy hxy
       rcases F'.1 hx with e1 | e1 <;> rcases F'.1 hy with e2 | e2
       exact absurd (e1.trans e2.symm) hxy
       rw [e1]; exact (hz y e2).1
       rw [e2]; exact (hz x e1).2
       exact ih x e1 y e2 hxy
     exact this hdist _ hmem q hq (fun e => hne e.symm)
    have hrun := vY (P := c.P) (v := v) K ht hget (hdom _ hmem) hed hnone
    have ek : a.eval (.tmp ks) = k := by simp only [Act.eval, Array.getD_eq_getD_getElem?, hk]; rfl
    have ev : a.eval (.tmp vs) = v := by simp only [Act.eval, Array.getD_eq_getD_getElem?, hv]; rfl
    have em : a.eval (.tmp m) = .map (some r) := by simp only [Act.eval, Array.getD_eq_getD_getElem?, g1]; rfl
    have hrun2 : ∀ (ty : Nat) (ps : String) (af : Array Edge), (execOp a.eval ⟨none, .insert t (.tmp m) (.tmp ks) (.tmp vs), ty, ps, af, none⟩).run c.P w = .ok .skip (w.putObj r (.map (es.push { key := k, val := v, born := es.size }) (es.size + 1))) := fun ty ps af => by
     refine HZ ?_; rw [ek, ev, em, hrun]; rfl
    rw [hrun2, Oper.uponIn_skip]
    have h0i : (0 : Nat) ≠ i := fun e => hix.1 (e ▸ W' (Y' (I' hmem)))
    have hpi : ∀ p ∈ pu, p.1 ≠ i := fun p hp e => hix3.2.2 p.1 (I' hp) i (I' (f := (·.1)) hmem) e
    have hvi : ∀ p ∈ mv, p.1 ≠ i := fun p hp e => hix2.2.2 i (Y' (I' (f := (·.1)) hmem)) p.1 (I' hp) e.symm
    have hst := g3.set (k := 0) rfl (Keep.putObj r (.map (es.push { key := k, val := v, born := es.size }) (es.size + 1))) (World.putObj_heap_same (JM hget))
    refine ⟨by simpa using inv.lsz, inv.size, inv.defers, inv.base, fun p hp hl => ?_, .inr ⟨r, es.push { key := k, val := v, born := es.size }, ?_, g1, fun p hp hl => ?_, ?_, ?_, ?_⟩⟩
    rw [hset, if_neg (hpi p hp)] at hl; exact inv.pure p hp hl
    rw [hset, if_neg h0i]; exact h0
    rw [hset, if_neg (hvi p hp)] at hl; exact g2 p hp hl
    simpa using hst
    have hfi := Je8 (f := fun j => listed.getD j false) hix3.2.1 hmem hun'
    have hfe : (ins.filter fun p => (listed.setIfInBounds i true).getD p.1 false) = ins.filter fun p => if p.1 = i then true else listed.getD p.1 false := by
     apply List.filter_congr; intro p _; rw [hset]
    rw [hfe]
    refine List.Perm.trans ?_ (hfi.map _).symm
    simp only [Array.toList_push, List.map_append, List.map_cons, List.map_nil, Yc]
    exact (B').trans ((g4.cons _))
    simp only [Array.toList_push, List.map_append, g5, List.map_cons, List.map_nil, Array.size_push, List.range_succ]
  | @mv _ s x _ hmem hd hg hop hw0 hx =>
   have hw : Region.wanted o (yielded ops.toArray a.tmps) = true := by simp [Region.wanted, hg]
   rw [if_pos hw]
   refine ⟨Qc, ?_⟩
   have hn : KM o.op = true := by rcases hop with e | e <;> rw [e] <;> rfl
   rw [Oper.semAt_eq _ _ _ (VJ hn)]
   have hl0 := hwait 0 hw0
   rcases inv.world with ⟨h0, _⟩ | ⟨r, es, h0, g1, g2, g3, g4, g5⟩
   rw [h0] at hl0; cases hl0
   ·have hxv : a.tmps[x]? = some (.map (some r)) := by
     rcases hx with rfl | ⟨j, hj, hjw⟩
     exact g1
     exact g2 _ hj (hwait j hjw)
    have ex : a.eval (.tmp x) = .map (some r) := by simp only [Act.eval, Array.getD_eq_getD_getElem?, hxv]; rfl
    have hrun : (execOp a.eval o).run c.P w = .ok (.value (.map (some r))) w := by
     rcases hop with e | e <;> (simp only [execOp, e]; rw [ex]; rfl)
    rw [hrun, Oper.uponIn_value, hd]
    have hs1 := hvn _ hmem
    simp only at hs1
    have h0i : (0 : Nat) ≠ i := fun e => hix.1 (e ▸ Y' (I' hmem))
    have hii : ∀ p ∈ ins, p.1 ≠ i := fun p hp e => hix2.2.2 p.1 (Y' (I' hp)) i (I' (f := (·.1)) hmem) e
    have hpi : ∀ p ∈ pu, p.1 ≠ i := fun p hp e => hix2.2.2 p.1 (W' (I' hp)) i (I' (f := (·.1)) hmem) e
    have hfil : (ins.filter fun p => (listed.setIfInBounds i true).getD p.1 false) = ins.filter fun p => listed.getD p.1 false := by
     apply List.filter_congr; intro p hp; rw [hset, if_neg (hii p hp)]
    refine ⟨by simpa using inv.lsz, by simp [Act.put, inv.size], by simp [Act.put, inv.defers], fun j u hu => ?_, fun p hp hl => ?_, .inr ⟨r, es, by rw [hset, if_neg h0i]; exact h0, by rw [putne s m _ (fun e => hs1.2 e.symm)]; exact g1, fun p hp hl => ?_, g3, by rw [hfil]; exact g4, g5⟩⟩
    ·rw [putne s j _ (fun e => (hbase j u hu).2 (e ▸ M' (Y' (I' (f := (·.2)) hmem))))]; exact inv.base j u hu
    rw [hset, if_neg (hpi p hp)] at hl
    rw [putne s _ _ (fun e => hpv p hp _ hmem e)]
    exact inv.pure p hp hl
    ·rw [hset] at hl
     by_cases e : p.1 = i
     ·have : p = (i, s) := inj (·.1) mv hix2.2.1 p hp _ hmem e
      subst this; exact puteq s _ hs1.1
     ·rw [if_neg e] at hl
      rw [putne s _ _ (fun e' => e (by have := inj (·.2) mv hsl2.2.1 p hp _ hmem e'; rw [this]))]
      exact g2 p hp hl
 ·-- the end: all has come up
  intro listed a w inv hr
  have hallset : ∀ i, i < ops.length → listed.getD i true = true := by
   intro i
   induction i using Nat.strongRecOn with
   | _ i ih =>
    intro hi
    cases hli : listed.getD i true with
    | true => rfl
    | false =>
     exfalso
     have : i ∈ Region.ready .any ops.toArray listed := mem_ready.2 ⟨hli, ops[i], by simp [hi], fun e he _ => by
      have h1 := List.all_eq_true.1 hedge (ops[i], i) (by rw [List.mem_zipIdx_iff_getElem?]; simp [hi])
      have h2 := Array.all_eq_true_iff_forall_mem.1 h1 e he
      have h3 : e.on < i := by simpa using h2
      have h4 := ih e.on h3 m3
      have h5 : e.on < listed.size := by rw [inv.lsz]; omega
      simp [h5] at h4 ⊢; exact h4⟩
     rw [hr] at this; cases this
  have hall' : ∀ i, i < ops.length → listed.getD i false = true := fun i hi => by
   have h5 : i < listed.size := by rw [inv.lsz]; exact hi
   have h4 := hallset i hi
   simp [h5] at h4 ⊢; exact h4
  have hidx' : ∀ i, i ∈ pu.map (·.1) ++ ins.map (·.1) ++ mv.map (·.1) → i < ops.length := fun i hi => by simpa using List.all_eq_true.1 hpull i hi
  rcases inv.world with ⟨h0, _⟩ | ⟨r, es, h0, g1, g2, g3, g4, g5⟩
  rw [hall' 0 (by simpa using hlen)] at h0; cases h0
  have hfil : (ins.filter fun p => listed.getD p.1 false) = ins := by
   rw [List.filter_eq_self]
   intro p hp
   exact hall' p.1 (hidx' _ (W' (Y' (I' hp))))
  rw [hfil] at g4
  refine h r es g4 g5 a w ⟨inv.size, inv.defers, fun i v hv => ?_⟩ g3
  have : ∀ (mv' : List (Nat × Nat)), (∀ p ∈ mv', p ∈ mv) → VA (mv'.map (fun p => (p.2, Value.map (some r))) ++ l') i = some v → a.tmps[i]? = some v := by
   intro mv'
   induction mv' with
   | nil => intro _ hv; exact inv.base i v hv
   | cons p mv' ih =>
    intro hsub hv
    simp only [List.map_cons, List.cons_append, VA] at hv
    by_cases e : i = p.2
    subst e
    rw [Nat.beq_refl] at hv
    simp only [Option.some.injEq] at hv
    subst hv
    have hp := hsub p N'
    exact g2 p hp (hall' p.1 (hidx' _ (Y' (I' hp))))
    rw [show Nat.beq i p.2 = false from by rw [Bool.eq_false_iff]; exact fun hb => e (Nat.eq_of_beq_eq_true hb)] at hv
    exact ih (fun q hq => hsub q (M' hq)) hv
  exact this mv (fun p hp => hp) hv
 refine ⟨by simp, hf.size, hf.defers, fun i v hv => hf.slots i v (hbase i v hv).1, fun p _ hl => ?_, .inl ⟨getD_replicate_false _ _, fun p _ => getD_replicate_false _ _, fun p _ => getD_replicate_false _ _, hs.drew⟩⟩
 rw [getD_replicate_false] at hl; cases hl
 ·simp
theorem KG
  (hg : KW l ops ⟨some i, .call ⟨.value f, args, at_⟩, ty, ps, af, gd⟩ = some true) (hi : Nat.ble (i + 1) c.n = true) (hca : Qw l f args = some (g, vs)) (eg : Enters c.P g)
  (hp : PureE c.P g vs.toArray V LL) (h : ∀ x, HL c d ((i, V x) :: l) (LL x ++ L) X ops rest Q) : HL c d l L X ops (⟨some i, .call ⟨.value f, args, at_⟩, ty, ps, af, gd⟩ :: rest) Q :=
 Zb (V := V) (L' := fun x => LL x ++ L) (X' := fun _ => X) hg hi hca eg (fun w hs => (hp.run w).mono fun _ _ ⟨x, he, hk, h1, h2⟩ => ⟨x, he, hs.freshs hk h1 h2⟩) h
theorem Qm {f : FuncId} (hf : P.funcs[f]? = some fn) (hb : fn.body = some code) (hlen : Nat.ble vs.length fn.ntmps = true)
  (h : ∀ w, HC ⟨P, none, w, [], [], [], fn.ntmps⟩ [] (Wd 0 vs) [] (fun _ _ => True) code (bodyPostM (FW none) 0 P fn (fun e w' => ∃ x, e = .returned (V x) ∧ St ⟨P, none, w, [], [], [], fn.ntmps⟩ (LL x) (fun _ _ => True) w'))) : PureE P f vs.toArray V LL := ⟨fun w =>
 (Vj ⟨P, none, w, [], [], [], fn.ntmps⟩ hf hb rfl rfl rfl hlen (St.start P none w _) (h w)).mono fun _ _ ⟨x, he, hs⟩ => ⟨x, he, hs.keep, fun p hp => ⟨((hs.own p hp).1).elim (fun h => by cases h) id, (hs.own p hp).2.2⟩, hs.distinct⟩⟩
end
def vZ (P : Program) (t : TypeId) (n : Nat) : Bool :=
 match P.underlying t with
 | some (.struct fs) => fs.toList.all fun f => (match P.underlying f.type with | some (.int _) => true | _ => false) && Nat.blt f.offset n
 | _ => false
theorem jv (hB : vZ P t cs.size = true) (hc : ∀ v ∈ cs.toList, ∃ k n, v = .int k n) (b : Bool) (n : Nat) (w : World) : (Instr.checkKey b (n + 2) t (.agg cs)).run P w = .ok () w := by
 unfold vZ at hB
 split at hB
 ·rename_i fs hu
  rw [Instr.checkKey]
  simp only [Sem.run_bind, Q6 hu, Result.andThen]
  rw [← Array.forIn_toList]
  generalize fs.toList = l at hB
  clear hu
  induction l with
  | nil => rfl
  | cons f l ih =>
   simp only [List.all_cons, Bool.and_eq_true] at hB
   obtain ⟨⟨h1, h2⟩, h3⟩ := hB
   have ih' := ih h3
   split at h1
   ·rename_i k hk
    have hoff : f.offset < cs.size := by simpa using h2
    have hel : cs[f.offset]? = some cs[f.offset] := by simp [hoff]
    obtain ⟨k', m, hv⟩ := hc cs[f.offset] mf
    have hp : (part f.type cs f.offset).run P w = .ok (.int k' m) w := by
     simp [part, isAgg, Q6 hk, Sem.run_bind, Result.andThen, hel, hv]
    have hck : (Instr.checkKey b (n + 1) f.type (.int k' m)).run P w = .ok () w := by
     simp [Instr.checkKey, Sem.run_bind, Q6 hk, Result.andThen]
    simp only [List.forIn_cons, Sem.run_bind]
    by_cases hn : f.name ≠ "_"
    ·simp only [hn, ne_eq, not_false_eq_true, if_true, Sem.run_bind, hp, Result.andThen, hck, Sem.run_pure]
     exact ih'
    ·simp only [hn, if_false, Sem.run_bind, Sem.run_pure, Result.andThen]
     exact ih'
   ·cases h1
 ·cases hB
theorem Xf {f : FuncId} {fin : ι → Prop} (hf : P.funcs[f]? = some fn) (hb : fn.body = some code) (hlen : Nat.ble (caps.length + 1) fn.ntmps = true)
  (h : ∀ (q : Nat) (xids : List Nat) (w2 : World) (XI : ι → XP) (XF : XP),
   (∀ i v i', nx i v i' → ∀ xs w, (∀ k ∈ xs, k < w.heap.size ∧ (k ∈ xids ∨ w2.heap.size ≤ k)) → Keep ([] ++ xids) w2 w → XM xs (XI i) w → YS P q v.toArray xs w (XI i') XF) →
   HC ⟨P, none, w2, [], xids, Rl, fn.ntmps⟩ [] (Wd 0 (.func (.yield q) #[] #[] :: caps)) [] (XI p0) code
    (bodyPostM (FW none) 0 P fn (fun e w' => (∃ v, e = .returned v) ∧ Keep ([] ++ xids) w2 w' ∧ ((∃ i xs, fin i ∧ XI i xs w') ∨ ∃ xs, XF xs w')))) : vV P f caps Rl p0 nx fin :=
 fun q xids w2 XI XF hR hlt h0 hY =>
  Vj ⟨P, none, w2, [], xids, Rl, fn.ntmps⟩ hf hb rfl rfl rfl hlen
   ⟨Keep.refl _ _, by simp, by simp, fun p hp => ⟨by simp, (hR p hp).1, (hR p hp).2⟩, hlt, xids, fun k hk => ⟨.inl hk, hlt k hk, by simp⟩, h0⟩ (h q xids w2 XI XF hY)
theorem JY {l : KY} (hp : L.Perm L') (h : HL c d l L' X ops rest Q) : HL c d l L X ops rest Q :=
 fun a w hf hs => h a w hf (hs.perm hp)
theorem X6 {l : KY} {K : Act → World → Prop} (hp : L.Perm L') (h : HQ c d l L' X K) : HQ c d l L X K :=
 fun a w hf hs => h a w hf (hs.perm hp)
abbrev QZ : Type := Option (Nat × Nat × List Value)
variable {row : QZ}
def JV (n : Nat) : QZ → Value
 | none => .slice none 0 0
 | some (r, cap, _) => .slice (some ⟨r, 0, none⟩) n cap
def J9 (e : TypeId) (xs : List Value) : QZ → J3
 | none => []
 | some (r, _, sp) => [(r, .cells (xs ++ sp).toArray e (0, 0))]
def rowOk (sz n : Nat) (xs : List Value) : QZ → Prop
 | none => n = 0 ∧ xs = []
 | some (_, cap, sp) => xs.length = n * sz ∧ n * sz + sp.length = cap * sz
theorem rowOk.len {n : Nat} {xs : List Value} (h : rowOk sz n xs row) : xs.length = n * sz := by
 cases row with
 | none => obtain ⟨rfl, rfl⟩ := h; simp
 | some p => obtain ⟨r, cap, sp⟩ := p; exact h.1
theorem rowOk.same {n : Nat} {xs : List Value} (h : rowOk sz n xs row) (hl : ys.length = xs.length) : rowOk sz n ys row := by
 cases row with
 | none => obtain ⟨h1, rfl⟩ := h; exact ⟨h1, by simpa using hl⟩
 | some p => obtain ⟨r, cap, sp⟩ := p; exact ⟨hl.trans h.1, h.2⟩
section
variable {c : Cx} {l : KY} {L : J3} {X : XP} {Q : Exit → Act → World → Prop} {d : List Deferred}
variable {ops : Array Oper} {rest : List Oper} {i : Nat} {v : Value} {t : TypeId} {ps : String} {af : Array Edge} {gd : Option (Nat × Bool)} {ty : TypeId}
theorem Kw  {e b r2 off2 c2 e2 n : Nat} {z : Value} {xs : List Value}
  (hp : L.Perm (J9 e xs row ++ L0))
  (hg : KW l ops ⟨some i, .call ⟨.builtin .append, #[x, y], #[t, t]⟩, ty, ps, af, gd⟩ = some true) (hi : Nat.ble (i + 1) c.n = true)
  (hx : KU l x = some (JV n row)) (hy : KU l y = some (.slice (some ⟨r2, off2, none⟩) m c2)) (hk2 : known c L0 r2 (.cells cs2 e2 fr2))
  (ht : Q5 c.P t = some e) (hz : Vo c.P e = some z) (hs : Q9 c.P e = some sz) (hb : Je6 c.P e = some b) (hzs : z.cells.size = sz) (hsz : 0 < sz)
  (hn : (cs2.toList.drop off2).take (m * sz) = news) (hln : news.length = m * sz) (hone : news.all VU = true) (hm : 0 < m)
  (ho : rowOk sz n xs row) (h63 : n + m ≤ 9223372036854775807) (h47 : (n + m) * b ≤ 140737488355328)
  (h : ∀ r' cap' spare, rowOk sz (n + m) (xs ++ news) (some (r', cap', spare)) → HL c d ((i, .slice (some ⟨r', 0, none⟩) (n + m) cap') :: l) ((r', .cells (xs ++ news ++ spare).toArray e (0, 0)) :: L0) X ops rest Q) :
  HL c d l L X ops (⟨some i, .call ⟨.builtin .append, #[x, y], #[t, t]⟩, ty, ps, af, gd⟩ :: rest) Q := by
 have hlen := ho.len
 have fin : ∀ r' cap' spare, (n + m) * sz + spare.length = cap' * sz → HL c d ((i, .slice (some ⟨r', 0, none⟩) (n + m) cap') :: l) ((r', .cells (xs ++ news ++ spare).toArray e (0, 0)) :: L0) X ops rest Q :=
  fun r' cap' spare hsp => h r' cap' spare ⟨by rw [C', hlen, hln, Nat.add_mul], hsp⟩
 refine JY hp ?_
 cases row with
 | none =>
  obtain ⟨rfl, rfl⟩ := ho
  exact yV hg hi hx hy hk2 ht hz hs hb hzs hsz hn hln hone hm SlOwn.nil h63 h47 fin
 | some p =>
  obtain ⟨r, cap, sp⟩ := p
  refine yV hg hi hx hy (hk2.imp (M') id) ht hz hs hb hzs hsz hn hln hone hm (SlOwn.own (k := 0) O ?_ ho.1 ?_ O) h63 h47 fin
  ·simp only [List.toList_toArray]
   rw [← ho.1]; simp
  ·simp only [List.size_toArray, C']; rw [ho.1]; exact ho.2
end
section
variable {c : Cx} {l : KY} {L : J3} {X : XP} {d : List Deferred}
variable {i : Nat} {v : Value} {t : TypeId} {ps : String} {af : Array Edge} {gd : Option (Nat × Bool)} {ty : TypeId}
theorem Qh {p : Option Addr} {n : Nat} (hx : KU l x = some (.slice p n cap)) (ht : Q5 c.P t = some e) :
  Kg c d l L X ⟨some i, .call ⟨.builtin .len, #[x], #[t]⟩, ty, ps, af, gd⟩ (.int .i64 n) := fun a w hf _ => by
 have ex := hf.eval hx
 simp [execOp, resolve, Sem.run_bind, ex, Result.andThen, invoke, builtin, Builtin.len_, Q6 (Qg ht), goInt]
def yE (P : Program) (t : TypeId) : Bool := match P.underlying t with | some .string => true | _ => false
theorem V5 (h : yE P t = true) : P.underlying t = some .string := by
 unfold yE at h; split at h <;> simp_all
theorem Jmd {s : ByteArray} {n : Nat} (hx : KU l x = some (.string s)) (ht : yE c.P t = true) (hn : s.size = n) :
  Kg c d l L X ⟨some i, .call ⟨.builtin .len, #[x], #[t]⟩, ty, ps, af, gd⟩ (.int .i64 n) := fun a w hf _ => by
 have ex := hf.eval hx
 simp [execOp, resolve, Sem.run_bind, ex, Result.andThen, invoke, builtin, Builtin.len_, Q6 (V5 ht), goInt, hn]
theorem JN {fn : Fn} {first caps : Array Operand} {fs cs : List Value} (h1 : evs l first.toList = some fs) (h2 : evs l caps.toList = some cs) :
  Kg c d l L X ⟨some i, .makeFunc fn first caps, ty, ps, af, gd⟩ (.func fn fs.toArray cs.toArray) := fun a w hf _ => by
 have e1 : first.map a.eval = fs.toArray := by apply Array.toList_inj.1; rw [Array.toList_map]; simpa using hf.evals h1
 have e2 : caps.map a.eval = cs.toArray := by apply Array.toList_inj.1; rw [Array.toList_map]; simpa using hf.evals h2
 simp only [execOp, e1, e2, Sem.run_bind]
 rfl
end
section
variable {c : Cx} {l : KY} {L : J3} {X : XP} {d : List Deferred}
variable {i : Nat} {v : Value} {t : TypeId} {ps : String} {af : Array Edge} {gd : Option (Nat × Bool)} {ty : TypeId}
theorem jw {n : Nat} (hx : KU l x = some (JV n row)) (hok : row = none → n = 0) (ht : Q5 c.P t = some e) :
  Kg c d l L X ⟨some i, .call ⟨.builtin .len, #[x], #[t]⟩, ty, ps, af, gd⟩ (.int .i64 n) := by
 cases row with
 | none => rw [hok rfl] at hx ⊢; exact Qh hx ht
 | some p => obtain ⟨r, cap, sp⟩ := p; exact Qh hx ht
end
theorem rowOk.zero {n : Nat} {xs : List Value} (h : rowOk sz n xs row) : row = none → n = 0 := fun e => by subst e; exact h.1
structure PureR (P : Program) (f : FuncId) (args : Array Value) (v : Value) (Rl : J3) : Prop where
  run : ∀ w, jn Rl w → Calls P f args w fun e w' => e = .returned v ∧ Keep [] w w'
section
variable {c : Cx} {l : KY} {L : J3} {X : XP} {Q : Exit → Act → World → Prop} {d : List Deferred}
variable {ops : Array Oper} {rest : List Oper} {i : Nat} {v : Value} {t : TypeId} {ps : String} {af : Array Edge} {gd : Option (Nat × Bool)} {ty : TypeId}
theorem Ju
  (hg : KW l ops ⟨some i, .call ⟨.value f, args, at_⟩, ty, ps, af, gd⟩ = some true) (hi : Nat.ble (i + 1) c.n = true) (hca : Qw l f args = some (g, vs)) (eg : Enters c.P g)
  (hp : PureR c.P g vs.toArray v Rl) (hk : ∀ p ∈ Rl, known c L p.1 p.2) (h : HL c d ((i, v) :: l) L X ops rest Q) : HL c d l L X ops (⟨some i, .call ⟨.value f, args, at_⟩, ty, ps, af, gd⟩ :: rest) Q :=
 Zb (α := Unit) (V := fun _ => v) (L' := fun _ => L) (X' := fun _ => X) hg hi hca eg (fun w hs => (hp.run w fun p hp => hs.known (hk p hp)).mono fun _ _ ⟨he, hk⟩ => ⟨(), he, hs.more hk⟩) (fun _ => h)
end
theorem J1 {f : FuncId} (hf : P.funcs[f]? = some fn) (hb : fn.body = some code) (hlen : Nat.ble vs.length fn.ntmps = true)
  (h : ∀ w, HC ⟨P, none, w, [], [], Rl, fn.ntmps⟩ [] (Wd 0 vs) [] (fun _ _ => True) code (bodyPostM (FW none) 0 P fn (fun e w' => e = .returned v ∧ Keep [] w w'))) : PureR P f vs.toArray v Rl := ⟨fun w hR =>
 Vj ⟨P, none, w, [], [], Rl, fn.ntmps⟩ hf hb rfl rfl rfl hlen
  ⟨Keep.refl _ _, by simp, by simp, fun p hp => ⟨by simp, by simp, hR p hp⟩, by simp, [], by simp, fun _ _ => trivial⟩ (h w)⟩
theorem Xg {l : KY} {LE : τ → J3} (s : σ) (hI : I s) (hL : L = LI s) :
  HQ c [] l L Xb (Y2 c Xb I LI E LE .normal) := fun _ _ _ hs => ⟨s, hI, hL ▸ hs⟩
theorem Yd {l : KY} {LE : τ → J3} (s : τ) (hI : E .ret s) (hL : L = LE s) :
  HQ c [] l L Xb (Y2 c Xb I LI E LE .ret) := fun _ _ _ hs => ⟨s, hI, hL ▸ hs⟩
theorem yZ {l : KY} {LE : τ → J3} (s : τ) (hI : E (.exit id) s) (hL : L = LE s) :
  HQ c [] l L Xb (Y2 c Xb I LI E LE (.exit id)) := fun _ _ _ hs => ⟨s, hI, hL ▸ hs⟩
section
variable {c : Cx} {l : KY} {L : J3} {X : XP} {Q : Exit → Act → World → Prop} {d : List Deferred}
variable {i : Nat} {v : Value} {t : TypeId} {ps : String} {af : Array Edge} {gd : Option (Nat × Bool)} {ty t2 : TypeId}
theorem Jb9 {k yk : IntKind} {a b : Int} {n : Nat} (hx : KU l x = some (.int k a)) (hy : KU l y = some (.int yk z)) (hz : z = (n : Int)) (hn : n ≤ k.bits) (ha : 0 ≤ a) (hb : a / (2 ^ n : Nat) = b) :
  Kg c d l L X ⟨some i, .binOp .shr t x y t2, ty, ps, af, gd⟩ (.int k b) := fun a' w hf _ => by
 subst hz
 have e1 : ¬ ((n : Int) < 0) := by omega
 have e2 : Int.fdiv a (2 ^ n : Int) = a / (2 ^ n : Nat) := by
  rw [Int.fdiv_eq_ediv_of_nonneg _ (by exact Int.le_of_lt (Int.pow_pos m7))]; simp
 refine Ev ?_
 subst hb
 simp [binOp, eqGuard, Op.shift, Sem.run_bind, Result.andThen, e1, Nat.min_eq_left hn, e2]
theorem Jca {k yk : IntKind} {a b : Int} {n : Nat} (hx : KU l x = some (.int k a)) (hy : KU l y = some (.int yk z)) (hz : z = (n : Int)) (hn : n ≤ k.bits) (hb : k.wrap (a * (2 ^ n : Nat)) = b) :
  Kg c d l L X ⟨some i, .binOp .shl t x y t2, ty, ps, af, gd⟩ (.int k b) := fun a' w hf _ => by
 subst hz
 have e1 : ¬ ((n : Int) < 0) := by omega
 subst hb
 simp only [execOp]
 rw [hf.eval hx, hf.eval hy]
 simp [binOp, eqGuard, Op.shift, Sem.run_bind, Result.andThen, e1, Nat.min_eq_left hn]
def xy : BinOp → Option (Nat → Nat → Nat)
 | .and => some Nat.land
 | .or => some Nat.lor
 | .xor => some Nat.xor
 | _ => none
theorem wa  {n : Nat} {f : Nat → Nat → Nat} {b : Int} (hf : xy op = some f) (hx : KU l x = some (.int .u64 (m : Int))) (hy : KU l y = some (.int .u64 (n : Int))) (hm : m < 18446744073709551616) (hn : n < 18446744073709551616) (hb : ((f m n : Nat) : Int) = b) :
  Kg c d l L X ⟨some i, .binOp op t x y t2, ty, ps, af, gd⟩ (.int .u64 b) := fun a' w hfr _ => by
 subst hb
 have e1 : (BitVec.ofInt 64 (m : Int)).toNat = m := by simp [BitVec.toNat_ofInt]; omega
 have e2 : (BitVec.ofInt 64 (n : Int)).toNat = n := by simp [BitVec.toNat_ofInt]; omega
 have hm' : m < 2 ^ 64 := hm
 have hn' : n < 2 ^ 64 := hn
 have wr : ∀ q : Nat, q < 2 ^ 64 → IntKind.u64.wrap (q : Int) = q := fun q hq => wrap_u64 m3 m3
 simp only [execOp]
 rw [hfr.eval hx, hfr.eval hy]
 cases op <;> simp only [xy, Option.some.injEq, reduceCtorEq] at hf
 all_goals subst hf
 ·have := wr (m &&& n) (Nat.lt_of_le_of_lt Nat.and_le_left hm')
  have e3 : (BitVec.ofInt 64 (m : Int) &&& BitVec.ofInt 64 (n : Int)).toNat = m &&& n := by rw [BitVec.toNat_and, e1, e2]
  show Sem.run c.P (pure (Next.value (Value.int .u64 (IntKind.u64.wrap (((BitVec.ofInt 64 (m : Int) &&& BitVec.ofInt 64 (n : Int)).toNat : Nat) : Int))))) w = _
  rw [e3, this]; rfl
 ·have := wr (m ||| n) (Nat.or_lt_two_pow hm' hn')
  have e3 : (BitVec.ofInt 64 (m : Int) ||| BitVec.ofInt 64 (n : Int)).toNat = m ||| n := by rw [BitVec.toNat_or, e1, e2]
  show Sem.run c.P (pure (Next.value (Value.int .u64 (IntKind.u64.wrap (((BitVec.ofInt 64 (m : Int) ||| BitVec.ofInt 64 (n : Int)).toNat : Nat) : Int))))) w = _
  rw [e3, this]; rfl
 ·have := wr (m ^^^ n) (Nat.xor_lt_two_pow hm' hn')
  have e3 : (BitVec.ofInt 64 (m : Int) ^^^ BitVec.ofInt 64 (n : Int)).toNat = m ^^^ n := by rw [BitVec.toNat_xor, e1, e2]
  show Sem.run c.P (pure (Next.value (Value.int .u64 (IntKind.u64.wrap (((BitVec.ofInt 64 (m : Int) ^^^ BitVec.ofInt 64 (n : Int)).toNat : Nat) : Int))))) w = _
  rw [e3, this]; rfl
def bs (l : List UInt8) : ByteArray := ⟨l.toArray⟩
theorem Y4 (a : List UInt8) : (bs a).size = a.length := by simp [bs, ByteArray.size]
theorem bs_data (s : ByteArray) : bs s.data.toList = s := by simp [bs]
theorem Jkb (a b : List UInt8) : bs a ++ bs b = bs (a ++ b) := by
 apply ByteArray.ext; simp [bs]
theorem Zs (a : List UInt8) : (bs a).toList = a := by
 rw [ByteArray.toList_eq]; rfl
theorem Jso (a : List UInt8) (b : UInt8) : (bs a).push b = bs (a ++ [b]) := by
 apply ByteArray.ext; simp [bs, ByteArray.push]
theorem Jxe {a b : List UInt8} : bs a = bs b ↔ a = b := by
 constructor
 ·intro h; have := congrArg ByteArray.toList h; rwa [Zs, Zs] at this
 ·intro h; rw [h]
theorem Jcb {a b : List UInt8} (hx : KU l x = some (.string (bs a))) (hy : KU l y = some (.string (bs b))) (h : a.length + b.length ≤ 9223372036854775807) :
  Kg c d l L X ⟨some i, .binOp .add t x y t2, ty, ps, af, gd⟩ (.string (bs (a ++ b))) := fun a' w hf _ => by
 have e1 : ¬ (((bs a).size + (bs b).size : Nat) : Int) > IntKind.i64.max := by
  rw [Y4, Y4]
  show ¬ (_ > (9223372036854775807 : Int))
  omega
 refine Ev ?_
 simp only [binOp, eqGuard, Op.stringOp, Sem.run_bind]
 simp only [e1, if_false, Jkb]
 rfl
theorem xz (a b : List UInt8) : ((bs a).toList == (bs b).toList) = decide (a = b) := by
 rw [Zs, Zs]
 by_cases h : a = b <;> simp [h]
theorem Qa {a b : List UInt8} (hx : KU l x = some (.string (bs a))) (hy : KU l y = some (.string (bs b))) :
  Kg c d l L X ⟨some i, .binOp .eql t x y t2, ty, ps, af, gd⟩ (.bool (decide (a = b))) := fun a' w hf _ => by
 simp only [execOp]
 rw [hf.eval hx, hf.eval hy]
 simp only [binOp, eqGuard, Op.stringOp, Sem.run_bind, xz]
 rfl
theorem vw {a b : List UInt8} (hx : KU l x = some (.string (bs a))) (hy : KU l y = some (.string (bs b))) :
  Kg c d l L X ⟨some i, .binOp .neq t x y t2, ty, ps, af, gd⟩ (.bool (!decide (a = b))) := fun a' w hf _ => by
 simp only [execOp]
 rw [hf.eval hx, hf.eval hy]
 simp only [binOp, eqGuard, Op.stringOp, Sem.run_bind, xz]
 rfl
theorem JJ {a : List UInt8} (hx : KU l x = some (.string (bs a))) (ht : yE c.P t = true) :
  Kg c d l L X ⟨some i, .call ⟨.builtin .len, #[x], #[t]⟩, ty, ps, af, gd⟩ (.int .i64 (a.length : Nat)) := Jmd hx ht (Y4 a)
theorem JW {k : IntKind} {a : List UInt8} {n : Int} (hx : KU l x = some (.string (bs a))) (hy : KU l y = some (.int k z)) (hu : yE c.P t = true) (hz : z = (j : Int)) (hj : j < a.length) (hn : ((a.getD j 0).toNat : Int) = n) :
  Kg c d l L X ⟨some i, .index t x y, ty, ps, af, gd⟩ (.int .u8 n) := by
 subst hn
 refine Je4 hx hy (V5 hu) hz ?_
 show (bs a)[j]? = some (a.getD j 0)
 have h1 : j < (bs a).size := by rw [Y4]; exact hj
 rw [getElem?_pos (bs a) j h1]
 have h2 : (bs a)[j] = a.getD j 0 := by
  show (bs a).data[j] = _
  simp only [bs, List.getElem_toArray, List.getD_eq_getElem?_getD, List.getElem?_eq_getElem hj, Option.getD_some]
 exact congrArg some h2
def Jme : Option Int → Int
 | none => 0
 | some z => z
theorem wb (a : List UInt8) (lo hi : Nat) : (bs a).extract lo hi = bs ((a.take hi).drop lo) := by
 apply ByteArray.ext
 simp only [bs, ByteArray.data_extract, List.extract_toArray, List.extract_eq_take_drop]
 rw [List.drop_take]
theorem Kt {lo hi : Option Operand} {a r : List UInt8} {n : Nat} {kl kh : Option (IntKind × Int)} (hx : KU l x = some (.string (bs a))) (ht : yE c.P t = true)
  (hlo : lo.map (KU l) = kl.map fun p => some (Value.int p.1 p.2)) (hhi : hi.map (KU l) = kh.map fun p => some (Value.int p.1 p.2)) (hm : Jme (kl.map (·.2)) = (m : Int)) (hn : (match kh with | none => (a.length : Int) | some p => p.2) = (n : Int)) (h1 : m ≤ n) (h2 : n ≤ a.length) (hr : (a.take n).drop m = r) :
  Kg c d l L X ⟨some i, .slice t x lo hi none, ty, ps, af, gd⟩ (.string (bs r)) := fun a' w hf _ => by
 subst hr
 rw [← wb]
 have ex := hf.eval hx
 have e1 : lo.map a'.eval = kl.map fun p => Value.int p.1 p.2 := by
  cases lo with
  | none => cases kl with
   | none => rfl
   | some p => simp at hlo
  | some o => cases kl with
   | none => simp at hlo
   | some p => simp only [Option.map_some, Option.some.injEq] at hlo ⊢; exact hf.eval hlo
 have e2 : hi.map a'.eval = kh.map fun p => Value.int p.1 p.2 := by
  cases hi with
  | none => cases kh with
   | none => rfl
   | some p => simp at hhi
  | some o => cases kh with
   | none => simp at hhi
   | some p => simp only [Option.map_some, Option.some.injEq] at hhi ⊢; exact hf.eval hhi
 simp only [execOp, ex, e1, e2, Option.map_none]
 have hsz := Y4 a
 cases kl with
 | none =>
  simp only [Option.map_none, Jme] at hm
  have hm0 : m = 0 := by omega
  subst hm0
  cases kh with
  | none =>
   simp only at hn
   have : n = a.length := by omega
   subst this
   simp [Instr.sliceAt, Instr.slice, Sem.run_bind, Q6 (V5 ht), Result.andThen, Instr.sliceBounds, hsz, wb]
  | some p =>
   simp only at hn
   simp [Instr.sliceAt, Instr.slice, Sem.run_bind, Q6 (V5 ht), Result.andThen, Instr.sliceBounds, hsz, Instr.sliceBound, asIntOf, hn, h2]
 | some q =>
  simp only [Option.map_some, Jme] at hm
  cases kh with
  | none =>
   simp only at hn
   have : n = a.length := by omega
   subst this
   simp [Instr.sliceAt, Instr.slice, Sem.run_bind, Q6 (V5 ht), Result.andThen, Instr.sliceBounds, hsz, Instr.sliceBound, asIntOf, hm, h1]
  | some p =>
   simp only at hn
   simp [Instr.sliceAt, Instr.slice, Sem.run_bind, Q6 (V5 ht), Result.andThen, Instr.sliceBounds, hsz, Instr.sliceBound, asIntOf, hn, h2, hm, h1]
end
def ZG : Value → Value → Bool
 | .int _ a, .int _ b => a == b
 | .string a, .string b => a.toList == b.toList
 | .bool a, .bool b => a == b
 | _, _ => false
def Wq (P : Program) (e : TypeId) (v : Value) : Bool :=
 match P.underlying e, v with
 | some (.int k), .int k' _ => decide (k' = k)
 | some .string, .string _ => true
 | some .bool, .bool _ => true
 | _, _ => false
def Qs : List Value → List Value → Bool
 | x :: xs, y :: ys => ZG x y && Qs xs ys
 | _, _ => true
theorem xA {a b : Value} (ha : Wq P e a = true) (hb : Wq P e b = true) (d : Nat) (w : World) : (Op.equalIn (d + 1) e a b).run P w = .ok (ZG a b) w := by
 unfold Wq at ha hb
 cases hu : P.underlying e with
 | none => simp [hu] at ha
 | some D =>
  simp only [hu] at ha hb
  cases D <;> try (simp only [Bool.false_eq_true] at ha; done)
  all_goals (cases a <;> try (simp only [Bool.false_eq_true] at ha; done))
  all_goals (cases b <;> try (simp only [Bool.false_eq_true] at hb; done))
  ·exact run_equalIn_bool' w d e _ _ hu
  ·simp only [decide_eq_true_eq] at ha hb; subst ha; subst hb; exact run_equalIn_int w d e _ _ _ _ hu
  ·exact run_equalIn_string w d e _ _ hu
theorem Zt (he : WH P e = some false) (h : cs[j]? = some v) (w : World) : (part e cs j).run P w = .ok v w := by
 unfold part
 simp [Sem.run_bind, vp he, Result.andThen, h]
theorem qk {t e n : Nat} {xs : List Value} (ht : qH P t = some (n, e)) (he : WH P e = some false) (hs : Q9 P e = some 1) (hx : xs.length = n) (hy : ys.length = n) (h1 : xs.all (Wq P e) = true) (h2 : ys.all (Wq P e) = true) (d : Nat) (w : World) :
  (Op.equalIn (d + 2) t (.agg xs.toArray) (.agg ys.toArray)).run P w = .ok (Qs xs ys) w := by
 have hu := xw ht
 obtain ⟨inf, hinf, hsz⟩ : ∃ inf, P.info? e = some inf ∧ inf.size = 1 := by
  unfold Q9 at hs
  split at hs
  ·rename_i i hi; exact ⟨i, hi, by simpa using hs⟩
  ·cases hs
 have hc : P.cellsOf e = 1 := by simp [Program.cellsOf, hinf, hsz]
 rw [run_equalIn_array w (d + 1) xs.toArray ys.toArray hu hinf, hc]
 have key : ∀ (m s : Nat) (xs' ys' : List Value), xs.drop s = xs' → ys.drop s = ys' → xs'.length = m → ys'.length = m →
   (Op.eqItems (d + 1) e 1 xs.toArray ys.toArray (List.range' s m)).run P w = .ok (Qs xs' ys') w := by
  intro m
  induction m with
  | zero =>
   intro s xs' ys' _ _ h3 h4
   have : xs' = [] := List.eq_nil_of_length_eq_zero h3
   subst this
   simp [Qs, Op.eqItems, Sem.run_pure]
  | succ m ih =>
   intro s xs' ys' h1' h2' h3 h4
   cases xs' with
   | nil => simp at h3
   | cons a xs' =>
    cases ys' with
    | nil => simp at h4
    | cons b ys' =>
     have ga : xs[s]? = some a := by have := congrArg (·[0]?) h1'; simpa using this
     have gb : ys[s]? = some b := by have := congrArg (·[0]?) h2'; simpa using this
     have ha : Wq P e a = true := List.all_eq_true.1 h1 a (List.mem_of_getElem? ga)
     have hb : Wq P e b = true := List.all_eq_true.1 h2 b (List.mem_of_getElem? gb)
     rw [List.range'_succ]
     simp only [Op.eqItems, Nat.mul_one, Sem.run_bind, Zt he (show xs.toArray[s]? = some a by simpa using ga), Zt he (show ys.toArray[s]? = some b by simpa using gb), Result.andThen, xA ha hb]
     have := ih (s + 1) xs' ys' (by rw [← List.tail_drop, h1']; rfl) (by rw [← List.tail_drop, h2']; rfl) (by simpa using h3) (by simpa using h4)
     cases hab : ZG a b with
     | false => simp [Qs, hab]
     | true => simpa [Qs, hab] using this
 rw [List.range_eq_range']
 exact key n 0 xs ys O O hx hy
section
variable {c : Cx} {l : KY} {L : J3} {X : XP} {Q : Exit → Act → World → Prop} {d : List Deferred}
variable {i : Nat} {v : Value} {t : TypeId} {ps : String} {af : Array Edge} {gd : Option (Nat × Bool)} {ty t2 : TypeId}
theorem Jsp {e n : Nat} {xs : List Value} (hx : KU l x = some (.agg xs.toArray)) (hy : KU l y = some (.agg ys.toArray)) (ht : qH c.P t = some (n, e)) (he : WH c.P e = some false) (hs : Q9 c.P e = some 1) (hgt : c.P.eqGuardType c.P.depth t = false) (hlx : xs.length = n) (hly : ys.length = n) (h1 : xs.all (Wq c.P e) = true) (h2 : ys.all (Wq c.P e) = true) :
  Kg c d l L X ⟨some i, .binOp .eql t x y t2, ty, ps, af, gd⟩ (.bool (Qs xs ys)) := fun a' w hf _ => by
 have hr := qk ht he hs hlx hly h1 h2 9998 w
 simp only [execOp]
 rw [hf.eval hx, hf.eval hy]
 simp [binOp, eqGuard, Op.equal, Op.maxDepth, Sem.run_bind, Result.andThen, run_program, hgt, hr]
theorem Jsq {e n : Nat} {xs : List Value} (hx : KU l x = some (.agg xs.toArray)) (hy : KU l y = some (.agg ys.toArray)) (ht : qH c.P t = some (n, e)) (he : WH c.P e = some false) (hs : Q9 c.P e = some 1) (hgt : c.P.eqGuardType c.P.depth t = false) (hlx : xs.length = n) (hly : ys.length = n) (h1 : xs.all (Wq c.P e) = true) (h2 : ys.all (Wq c.P e) = true) :
  Kg c d l L X ⟨some i, .binOp .neq t x y t2, ty, ps, af, gd⟩ (.bool (!Qs xs ys)) := fun a' w hf _ => by
 have hr := qk ht he hs hlx hly h1 h2 9998 w
 simp only [execOp]
 rw [hf.eval hx, hf.eval hy]
 simp [binOp, eqGuard, Op.equal, Op.maxDepth, Sem.run_bind, Result.andThen, run_program, hgt, hr]
def bV (b : UInt8) : Value := .int .u8 (b.toNat : Int)
theorem Jhe {n : Nat} (h : n < 256) : Value.int .u8 (n : Int) = bV (UInt8.ofNat n) := by
 unfold bV
 rw [UInt8.toNat_ofNat', Nat.mod_eq_of_lt h]
theorem qm : ∀ (b a : List UInt8), (b.map fun x => ((x.toNat : Nat) : Int)).foldl (fun (r : ByteArray) (n : Int) => r.push (UInt8.ofNat n.toNat)) (bs a) = bs (a ++ b)
 | [], a => by simp
 | x :: b, a => by
  simp only [List.map_cons, List.foldl_cons, Int.toNat_natCast, UInt8.ofNat_toNat, Jso]
  rw [qm b]
  simp
theorem Jcc {xs : List Value} (h : w.heap[r]? = some (.cells cs e fr)) (hx : cs.toList.take xs.length = xs) : (loadCells ⟨r, 0, none⟩ xs.length).run P w = .ok xs.toArray w :=
 run_loadCells_list w ⟨r, 0, none⟩ xs fun j v hj => by
  have hlt := (La'.1 hj).1
  have hj2 : cs[j]? = some v := by
   rw [← hx, List.getElem?_take, if_pos hlt] at hj
   simpa using hj
  rw [ju, Nat.zero_add, VY h]; exact hj2
theorem VB {b : List UInt8} {dst : TypeId} (hx : KU l x = some (JV b.length row)) (hok : rowOk 1 b.length (b.map bV) row) (hk : ∀ p ∈ J9 e (b.map bV) row, known c L p.1 p.2)
  (hs : Q5 c.P src = some e) (he : c.P.underlying e = some (.int .u8)) (hd : yE c.P dst = true) :
  Kg c d l L X ⟨some i, .convert src dst x, ty, ps, af, gd⟩ (.string (bs b)) := fun a' w hf hst => by
 simp only [execOp]
 rw [hf.eval hx]
 cases row with
 | none =>
  obtain ⟨h1, _⟩ := hok
  have : b = [] := List.eq_nil_of_length_eq_zero h1
  subst this
  simp only [JV, List.length_nil, Sem.run_bind]
  rw [run_convert_bytes_string w src dst e none 0 0 (Qg hs) he (V5 hd)]
  rfl
 | some p =>
  obtain ⟨r, cap, sp⟩ := p
  have hget := hst.known (hk _ N')
  have hl := Jcc (P := c.P) (xs := b.map bV) hget mf
  rw [D'] at hl
  simp only [JV, Sem.run_bind]
  rw [run_convert_bytes_string w src dst e _ _ _ (Qg hs) he (V5 hd)]
  rw [run_bytesToString w _ _ _ (b.map fun x => ((x.toNat : Nat) : Int)) (by rw [hl]; simp [bV, Function.comp_def])]
  have := qm b []
  rw [show (bs [] : ByteArray) = ByteArray.empty from rfl] at this
  rw [this]
  rfl
end
theorem Jxf (off : Nat) : frB (0, 0) off = false := by simp [frB, Nat.blt, Nat.ble]
theorem Jxg {xs : List Value} (h : xs[off]? = some v) : X3 xs.toArray.toList off = some v := by rw [Vm]; simpa using h
section
variable {c : Cx} {l : KY} {L : J3} {X : XP} {Q : Exit → Act → World → Prop} {d : List Deferred}
variable {ops : Array Oper} {rest : List Oper} {i : Nat} {v : Value} {t : TypeId} {ps : String} {af : Array Edge} {gd : Option (Nat × Bool)} {ty : TypeId}
theorem Ji  {n : Nat} {xs : List Value} (hx : KU l x = some (.pointer (some ⟨r, 0, none⟩))) (hk : known c L r (.cells xs.toArray e fr)) (ht : WH c.P t = some true) (hn : Q9 c.P t = some n) (hl : xs.length = n) :
  Kg c d l L X ⟨some i, .load t x, ty, ps, af, gd⟩ (.agg xs.toArray) :=
 Ki (vs := xs) hx hk ht hn (by simp [← hl]) hl
theorem jx {xs : List Value} (hx : KU l x = some (.pointer (some ⟨r, off, none⟩))) (hk : known c L r (.cells xs.toArray e fr)) (ht : WH c.P t = some false) (hv : xs[off]? = some v) :
  Kg c d l L X ⟨some i, .load t x, ty, ps, af, gd⟩ v := Jc hx hk ht (Jxg hv)
theorem Je  {k n : Nat} (hg : KW l ops ⟨none, .store t x y, ty, ps, af, gd⟩ = some true)
  (hx : KU l x = some (.pointer (some ⟨r, 0, none⟩))) (hk : L[k]? = some (r, .cells cs e (0, 0))) (hy : KU l y = some (.agg ys.toArray)) (ht : Q9 c.P t = some n) (hn : ys.length = n) (hs : cs.size = n) (ho : ys.all VU = true) (hL : L.set k (r, .cells ys.toArray e (0, 0)) = L')
  (h : HL c d l L' X ops rest Q) : HL c d l L X ops (⟨none, .store t x y, ty, ps, af, gd⟩ :: rest) Q :=
 J2 (n := n) (cs' := ys.toArray) (vs := ys.toArray) hg hx hk hy ht (by simpa using hn) Ml m3 (by
  apply Array.toList_inj.1
  simp [← hs]) hL h
theorem Xh  {k : Nat} {xs : List Value} (hg : KW l ops ⟨none, .store t x y, ty, ps, af, gd⟩ = some true)
  (hx : KU l x = some (.pointer (some ⟨r, off, none⟩))) (hk : L[k]? = some (r, .cells xs.toArray e (0, 0))) (hy : KU l y = some v) (ht : Q9 c.P t = some 1) (ho : VU v = true) (hlt : off < xs.length) (hys : xs.set off v = ys) (hL : L.set k (r, .cells ys.toArray e (0, 0)) = L')
  (h : HL c d l L' X ops rest Q) : HL c d l L X ops (⟨none, .store t x y, ty, ps, af, gd⟩ :: rest) Q :=
 Jm (cs' := ys.toArray) hg hx hk hy ht ho (by simp [hlt]) (Jxf off) (by rw [← hys]; simp) hL h
end
def actAt (c : Cx) (o : Oper) (a : Act) (w : World) (R : Value → World → Prop) : Prop :=
 match (execOp a.eval o).run c.P w with
 | .ok (.value v) w' => R v w'
 | .ok .skip w' => R undef w'
 | .ok (.enter f args) w' => Calls c.P f args w' fun e w2 => ∃ v, e = .returned v ∧ R v w2
 | _ => False
theorem actAt.mono {R R' : Value → World → Prop} (h : actAt c o a w R) (hR : ∀ v w', R v w' → R' v w') : actAt c o a w R' := by
 unfold actAt at *
 revert h
 cases (execOp a.eval o).run c.P w with
 | halt x w2 => exact id
 | ok x w2 =>
  cases x <;> simp only <;> try exact id
  case value v => exact hR _ _
  case skip => exact hR _ _
  case enter f args => exact fun h => h.mono fun _ _ ⟨v, e, hv⟩ => ⟨v, e, hR _ _ hv⟩
theorem actAt.same {R : Value → World → Prop} (h : actAt c o a w R) (he : execOp a'.eval o = execOp a.eval o) : actAt c o a' w R := by
 unfold actAt at *; rw [he]; exact h
theorem Zu {R : Value → World → Prop} (h : (execOp a.eval o).run c.P w = .ok (.value v) w') (hR : R v w') : actAt c o a w R := by
 unfold actAt; rw [h]; exact hR
theorem Jcd {R : Value → World → Prop} (h : (execOp a.eval o).run c.P w = .ok .skip w') (hR : R undef w') : actAt c o a w R := by
 unfold actAt; rw [h]; exact hR
theorem qn {R : Value → World → Prop} (ho : ops[i]? = some o) (hnd : KM o.op = true)
  (hw : Region.wanted o (yielded ops a.tmps) = true) (h : actAt c o a w R) (hK : ∀ v w', R v w' → K' (a.put o.dst v) w') : wpOpIn (FW c.ro) 0 c.P ops Q' i K' a w := by
 unfold wpOpIn
 simp only [ho]
 rw [if_pos hw]
 refine ⟨Qc, ?_⟩
 rw [Oper.semAt_eq _ _ _ (VJ hnd)]
 unfold actAt at h
 revert h
 cases (execOp a.eval o).run c.P w with
 | halt x w2 => exact fun h => h.elim
 | ok x w2 =>
  cases x <;> simp only [Oper.uponIn] <;> try exact fun h => h.elim
  case value v => exact hK _ _
  case skip => exact hK _ _
  case enter f args =>
   intro h
   refine ⟨fun hdep => nW, ?_⟩
   have hc := callsIn_wide (n := 0) |>.2 h
   refine CallsIn.mono (show CallsIn (FW c.ro) 0 c.P f args w2 _ from hc) ?_
   rintro e w' ⟨v, rfl, hv⟩
   exact hK _ _ hv
structure AE where
  α : Type
  V : α → Value
  G : α → J3 → J3
  grow : Bool
  hg : grow = true → ∀ (x : α) (E : J3), List.Sublist E (G x E)
inductive Kd
  | quiet
  | pure
  | act (e : AE)
abbrev Kds := Nat → Kd
section
variable {c : Cx} {X : XP} {S : J3} {ops : Array Oper} {md : Region.Mode}
def c0 (c : Cx) (w : World) : Cx := ⟨c.P, c.ro, w, [], [], [], c.n⟩
def XT : XP := fun _ _ => True
def YQ (c : Cx) (E : J3) (X : XP) (ops : Array Oper) (o : Oper) (v : Value) (a : Act) : Prop :=
 (Region.wanted o (yielded ops a.tmps) = true ∧ ∀ w, St c E X w → actAt c o a w fun u w' => u = v ∧ Keep [] w w') ∨ (Region.wanted o (yielded ops a.tmps) = false ∧ v = undef)
def SubS (S E : J3) : Prop := ∀ p ∈ S, p ∈ E
def YP (c : Cx) (X : XP) (S : J3) (ops : Array Oper) (o : Oper) (v : Value) (a : Act) : Prop :=
 (Region.wanted o (yielded ops a.tmps) = true ∧ ∀ E, SubS S E → ∀ w, St c E X w → actAt c o a w fun u w' => u = v ∧ Keep [] w w') ∨ (Region.wanted o (yielded ops a.tmps) = false ∧ v = undef)
def YA (c : Cx) (E : J3) (X : XP) (ops : Array Oper) (o : Oper) (e : AE) (a : Act) : Prop :=
 Region.wanted o (yielded ops a.tmps) = true ∧ ∀ w, St c E X w → actAt c o a w fun u w' => ∃ x, u = e.V x ∧ St c (e.G x E) X w'
theorem YP.quiet {E : J3} (h : YP c X S ops o v a) (hE : SubS S E) : YQ c E X ops o v a := h.imp (fun ⟨h1, h2⟩ => ⟨h1, h2 E hE⟩) id
def stA (c : Cx) (X : XP) (S : J3) (ops : Array Oper) (tb : Kds) (i : Nat) (K : J3 → Act → Prop) (E : J3) (a : Act) : Prop :=
 ∃ o, ops[i]? = some o ∧ match tb i with
  | .quiet => ∃ v, YQ c E X ops o v a ∧ K E (a.put o.dst v)
  | .pure => ∃ v, YP c X S ops o v a ∧ K E (a.put o.dst v)
  | .act e => (YA c E X ops o e a ∧ ∀ x, SubS S (e.G x E) ∧ K (e.G x E) (a.put o.dst (e.V x))) ∨ (Region.wanted o (yielded ops a.tmps) = false ∧ K E (a.put o.dst undef))
def xB (c : Cx) (X : XP) (S : J3) (ops : Array Oper) (md : Region.Mode) (tb : Kds) (m : Nat) (T : J3 → Array Bool → Act → Prop) : Nat → Array Bool → J3 → Act → Prop
 | 0, listed, E, a => T E listed a
 | f + 1, listed, E, a => Region.ready md ops listed ≠ [] ∧ ∀ i ∈ Region.ready md ops listed, i < m ∧ stA c X S ops tb i (fun E' a' => xB c X S ops md tb m T f (listed.setIfInBounds i true) E' a') E a
theorem YQ.same {E : J3} (hy : YQ c E X ops o v a) (he : execOp a'.eval o = execOp a.eval o) (hw : Region.wanted o (yielded ops a'.tmps) = Region.wanted o (yielded ops a.tmps)) : YQ c E X ops o v a' := by
 unfold YQ at *; rw [hw]; exact hy.imp (fun ⟨h1, h2⟩ => ⟨h1, fun w hs => (h2 w hs).same he⟩) id
theorem YP.same (hy : YP c X S ops o v a) (he : execOp a'.eval o = execOp a.eval o) (hw : Region.wanted o (yielded ops a'.tmps) = Region.wanted o (yielded ops a.tmps)) : YP c X S ops o v a' := by
 unfold YP at *; rw [hw]; exact hy.imp (fun ⟨h1, h2⟩ => ⟨h1, fun E hE w hs => (h2 E hE w hs).same he⟩) id
theorem YA.same {E : J3} {e : AE} (hy : YA c E X ops o e a) (he : execOp a'.eval o = execOp a.eval o) (hw : Region.wanted o (yielded ops a'.tmps) = Region.wanted o (yielded ops a.tmps)) : YA c E X ops o e a' := by
 unfold YA at *; rw [hw]; exact ⟨hy.1, fun w hs => (hy.2 w hs).same he⟩
theorem YQ.weak  {E : J3} (hy : YQ c E X ops o v a) (hs : E.Sublist E') : YQ c E' X ops o v a :=
 hy.imp (fun ⟨h1, h2⟩ => ⟨h1, fun w hw => h2 w (hw.weakL hs)⟩) id
theorem Jxh {tb : Kds} {E : J3} (hnd : ∀ (j : Nat) (o : Oper), ops[j]? = some o → KM o.op = true)
  (hs : St c E X w) (hE : SubS S E) (h : ∀ E a w', SubS S E → St c E X w' → K E a → K' a w') (hh : stA c X S ops tb i K E a) : wpOpIn (FW c.ro) 0 c.P ops Q' i K' a w := by
 obtain ⟨o, ho, hm⟩ := hh
 have no : ∀ E, SubS S E → Region.wanted o (yielded ops a.tmps) = false → St c E X w → K E (a.put o.dst undef) → wpOpIn (FW c.ro) 0 c.P ops Q' i K' a w := fun E hE hw hs hk => by
  exact DP
 have yes : ∀ v, YQ c E X ops o v a → K E (a.put o.dst v) → wpOpIn (FW c.ro) 0 c.P ops Q' i K' a w := fun v hy hk => by
  rcases hy with ⟨hw, hq⟩ | ⟨hw, rfl⟩
  ·exact DB
  ·exact no E hE hw hs hk
 cases ha : tb i with
 | quiet => rw [ha] at hm; obtain ⟨v, h1, h2⟩ := hm; exact yes v h1 h2
 | pure => rw [ha] at hm; obtain ⟨v, h1, h2⟩ := hm; exact yes v (h1.quiet hE) h2
 | act e =>
  rw [ha] at hm
  rcases hm with ⟨⟨hw, hr⟩, h2⟩ | ⟨hw, h2⟩
  ·exact Du
  ·exact no E hE hw hs h2
theorem Jhf {tb : Kds} {m g : Nat} {T : J3 → Array Bool → Act → Prop} {Q' : Exit → Act → World → Prop} (hnd : ∀ (j : Nat) (o : Oper), ops[j]? = some o → KM o.op = true)
  (hT : ∀ E listed a w, SubS S E → St c E X w → T E listed a → wpAnyIn (FW c.ro) 0 c.P md ops Q' g listed a w) :
  ∀ (f : Nat) (listed : Array Bool) (E : J3) (a : Act) (w : World), SubS S E → St c E X w → xB c X S ops md tb m T f listed E a → wpAnyIn (FW c.ro) 0 c.P md ops Q' (f + g) listed a w
 | 0, listed, E, a, w, hE, hw, h => by rw [Nat.zero_add]; exact hT _ _ _ _ hE hw h
 | f + 1, listed, E, a, w, hE, hw, h => by
  rw [show f + 1 + g = (f + g) + 1 from by omega]
  exact ⟨fun h0 => absurd h0 h.1, fun i hi => Jxh hnd hw hE (fun E' a' w' hE' hw' h' => Jhf hnd hT f _ E' a' w' hE' hw' h') (h.2 i hi).2⟩
def Jmf (md : Region.Mode) (ops : Array Oper) (tb : Kds) (m i : Nat) : Prop :=
 tb i = .quiet → ∀ j e, j < m → tb j = .act e → e.grow = false → ∀ listed, i ∈ Region.ready md ops listed → j ∈ Region.ready md ops listed → False
theorem Je9 {tb : Kds} (hi : ops[i]? = some oi) (hai : tb i = .quiet ∨ tb i = .pure) (hsel : ∀ (j : Nat) (o : Oper) cs b, ops[j]? = some o → o.op ≠ .select cs b)
  (hbd : Jmf md ops tb m i)
  (hlt : ∀ listed, HeadInv md ops m listed → listed.getD i true = false → ∀ j ∈ Region.ready md ops listed, j < m)
  (hT : ∀ E listed a, T E listed a → ∀ j ∈ Region.ready md ops listed, m ≤ j) :
  ∀ (f : Nat) (listed : Array Bool) (E : J3) (a : Act), HeadInv md ops m listed →
   (∀ j oj, ops[j]? = some oj → j ≠ i → listed.getD j true = false → (∀ e ∈ oj.after, Region.binds md e = true → e.on ≠ i) → oi.apart ops oj = true) →
   SubS S E → i ∈ Region.ready md ops listed → (YQ c E X ops oi v a ∧ (tb i = .pure → YP c X S ops oi v a)) →
   xB c X S ops md tb m T f (listed.setIfInBounds i true) E (a.put oi.dst v) → xB c X S ops md tb m T (f + 1) listed E a := by
 have self : ∀ {K : J3 → Act → Prop} {E : J3} {a : Act}, (YQ c E X ops oi v a ∧ (tb i = .pure → YP c X S ops oi v a)) → K E (a.put oi.dst v) → stA c X S ops tb i K E a := by
  intro K E a hy H
  refine ⟨oi, hi, ?_⟩
  rcases hai with h | h <;> rw [h]
  ·exact ⟨v, hy.1, H⟩
  ·exact ⟨v, hy.2 h, H⟩
 intro f
 induction f with
 | zero =>
  intro listed E a inv _ hSE hr hy H
  refine ⟨fun h => nc, fun j hj => ⟨hlt _ inv (mem_ready.1 hr).1 j hj, ?_⟩⟩
  by_cases hji : j = i
  ·subst hji; exact self hy H
  ·have h1 := hT _ _ _ H j (ready_mono hj hji)
   have h2 := hlt _ inv (mem_ready.1 hr).1 j hj
   omega
 | succ f ih =>
  intro listed E a inv hfree hSE hr hy H
  refine ⟨fun h => nc, fun j hj => ?_⟩
  have hjm := hlt _ inv (mem_ready.1 hr).1 j hj
  refine ⟨hjm, ?_⟩
  by_cases hji : j = i
  ·subst hji; exact self hy H
  ·obtain ⟨oj, hoj, hm⟩ := (H.2 j (ready_mono hj hji)).2
   obtain ⟨hjun, oj', hoj', hall⟩ := mem_ready.1 hj
   rw [hoj] at hoj'
   cases hoj'
   have hnot : ∀ e ∈ oj.after, Region.binds md e = true → e.on ≠ i := fun e he hb heq => by
    have h2 := hall e he hb
    rw [heq, getD_both (mem_ready.1 hr).1] at h2
    cases h2
   obtain ⟨h1, h2, h3⟩ := Oper.apart_spec (hfree j oj hoj hji hjun hnot)
   have hfree' : ∀ k ok, ops[k]? = some ok → k ≠ i → (listed.setIfInBounds j true).getD k true = false →
     (∀ e ∈ ok.after, Region.binds md e = true → e.on ≠ i) → oi.apart ops ok = true := fun k ok hk hki hun hno => by
    refine hfree k ok hk hki ?_ hno
    by_cases hjk : j = k
    ·subst hjk; exact hjun
    ·rw [getD_set_ne true hjk] at hun; exact hun
   have back1 := fun u => (execOp_put oj (fun cs b => hsel j oj cs b hoj) a oi.dst u h1)
   have back2 := fun u => (wanted_put oj a oi.dst u h1)
   have forth1 := fun u => (execOp_put oi (fun cs b => hsel i oi cs b hi) a oj.dst u h3)
   have forth2 := fun u => (wanted_put oi a oj.dst u h3)
   have go : ∀ E' u, SubS S E' → (E.Sublist E' ∨ tb i = .pure) → xB c X S ops md tb m T f ((listed.setIfInBounds i true).setIfInBounds j true) E' ((a.put oi.dst v).put oj.dst u) →
     xB c X S ops md tb m T (f + 1) (listed.setIfInBounds j true) E' (a.put oj.dst u) := fun E' u hSE' hsub hK => by
    refine ih (listed.setIfInBounds j true) E' (a.put oj.dst u) (inv.set hj hjm) hfree' hSE' (ready_mono hr (Ne.symm hji)) ⟨?_, fun hp => (hy.2 hp).same (forth1 u) (forth2 u)⟩ ?_
    ·rcases hsub with hsub | hp
     ·exact (hy.1.weak hsub).same (forth1 u) (forth2 u)
     ·exact ((hy.2 hp).same (forth1 u) (forth2 u)).quiet hSE'
    ·rw [Array.setIfInBounds_comm _ _ hji, ← Act.put_comm a v u h2]
     exact hK
   refine ⟨oj, hoj, ?_⟩
   cases ha : tb j with
   | quiet => rw [ha] at hm; obtain ⟨u, g1, g2⟩ := hm; exact ⟨u, g1.same (back1 v).symm (back2 v).symm, go E u hSE (.inl (T')) g2⟩
   | pure => rw [ha] at hm; obtain ⟨u, g1, g2⟩ := hm; exact ⟨u, g1.same (back1 v).symm (back2 v).symm, go E u hSE (.inl (T')) g2⟩
   | act e =>
    rw [ha] at hm
    rcases hm with ⟨g1, g2⟩ | ⟨g1, g2⟩
    ·refine .inl ⟨g1.same (back1 v).symm (back2 v).symm, fun x => ⟨(g2 x).1, go _ _ (g2 x).1 ?_ (g2 x).2⟩⟩
     cases hgr : e.grow with
     | true => exact .inl (e.hg hgr x E)
     | false =>
      rcases hai with hq | hp
      ·exact (hbd hq j e hjm ha hgr listed hr hj).elim
      ·exact .inr hp
    ·exact .inr ⟨(back2 v).symm.trans g1, go E undef hSE (.inl (T')) g2⟩
def vc (c : Cx) (X : XP) (S : J3) (ops : Array Oper) (tb : Kds) (T : J3 → Act → Prop) : List Oper → Nat → J3 → Act → Prop
 | [], _, E, a => T E a
 | o :: rest, k, E, a => match tb k with
  | .quiet => ∃ v, YQ c E X ops o v a ∧ vc c X S ops tb T rest (k + 1) E (a.put o.dst v)
  | .pure => ∃ v, YP c X S ops o v a ∧ vc c X S ops tb T rest (k + 1) E (a.put o.dst v)
  | .act e => (YA c E X ops o e a ∧ ∀ x, SubS S (e.G x E) ∧ vc c X S ops tb T rest (k + 1) (e.G x E) (a.put o.dst (e.V x))) ∨ (Region.wanted o (yielded ops a.tmps) = false ∧ vc c X S ops tb T rest (k + 1) E (a.put o.dst undef))
def Kd.isAct : Kd → Bool
 | .act _ => true
 | _ => false
def Kd.isQuiet : Kd → Bool
 | .quiet => true
 | _ => false
def Kd.turns : Kd → Bool
 | .act e => !e.grow
 | _ => false
def Jmg (md : Region.Mode) (ops : Array Oper) (tb : Kds) (g : Nat) : Nat → Nat → Array Bool → Bool
 | 0, k, listed => Region.seqB md ops g k listed
 | f + 1, k, listed => (if (tb k).isAct then decide (Region.ready md ops listed = [k]) else (Region.ready md ops listed).contains k && Region.free md ops listed k) && Jmg md ops tb g f (k + 1) (listed.setIfInBounds k true)
theorem Jce {tb : Kds} {m g : Nat} {T : J3 → Act → Prop} (hsel : Region.noSelect ops = true) (hbd : ∀ i, i < m → Jmf md ops tb m i) (hlt : ∀ i, i < m → ∀ listed, HeadInv md ops m listed → listed.getD i true = false → ∀ j ∈ Region.ready md ops listed, j < m)
  (hseq : ∀ listed, Region.seqB md ops g m listed = true → ∀ j ∈ Region.ready md ops listed, m ≤ j) :
  ∀ (l : List Oper) (k : Nat) (listed : Array Bool) (E : J3) (a : Act), (∀ j, j < l.length → l[j]? = ops[k + j]?) → k + l.length = m → HeadInv md ops m listed → SubS S E →
  Jmg md ops tb g l.length k listed = true → vc c X S ops tb T l k E a →
  xB c X S ops md tb m (fun E' listed' a' => Region.seqB md ops g m listed' = true ∧ T E' a') l.length listed E a
 | [], k, listed, E, a, _, hk, _, _, hB, h => by
  have : k = m := by simpa using hk
  subst this
  exact ⟨by simpa [Jmg] using hB, h⟩
 | o :: l, k, listed, E, a, hl, hk, inv, hSE, hB, h => by
  have h0 : ops[k]? = some o := by simpa using (hl 0 mf).symm
  simp only [List.length_cons, Jmg, Bool.and_eq_true] at hB
  obtain ⟨hr, hB'⟩ := hB
  have hkm : k < m := by simp only [List.length_cons] at hk; omega
  have next : ∀ E' a', SubS S E' → k ∈ Region.ready md ops listed → vc c X S ops tb T l (k + 1) E' a' → xB c X S ops md tb m (fun E' listed' a' => Region.seqB md ops g m listed' = true ∧ T E' a') l.length (listed.setIfInBounds k true) E' a' := fun E' a' hSE' hr' hw =>
   Jce hsel hbd hlt hseq l (k + 1) _ E' a' (fun j hj => by have := hl (j + 1) mL; simpa [Nat.add_assoc, Nat.add_comm 1 j] using this) (by simp only [List.length_cons] at hk; omega) (inv.set hr' hkm) hSE' hB' hw
  unfold vc at h
  have quiet : (tb k).isAct = false → ∀ v, (tb k = .quiet ∨ tb k = .pure) → (YQ c E X ops o v a ∧ (tb k = .pure → YP c X S ops o v a)) → vc c X S ops tb T l (k + 1) E (a.put o.dst v) →
    xB c X S ops md tb m (fun E' listed' a' => Region.seqB md ops g m listed' = true ∧ T E' a') (l.length + 1) listed E a := fun hna v hai hy hw => by
   rw [hna] at hr
   simp only [Bool.false_eq_true, if_false, Bool.and_eq_true] at hr
   have hr' : k ∈ Region.ready md ops listed := by simpa using hr.1
   exact Je9 h0 hai (Region.noSelect_spec hsel) (hbd k hkm) (hlt k hkm) (fun E' listed' a' hL => hseq _ hL.1) l.length listed E a inv (Region.free_spec h0 hr.2) hSE hr' hy (next _ _ hSE hr' hw)
  cases ha : tb k with
  | quiet => rw [ha] at h; obtain ⟨v, hy, hw⟩ := h; exact quiet nT v (.inl ha) ⟨hy, fun e => by rw [ha] at e; cases e⟩ hw
  | pure => rw [ha] at h; obtain ⟨v, hy, hw⟩ := h; exact quiet nT v (.inr ha) ⟨hy.quiet hSE, fun _ => hy⟩ hw
  | act e =>
   rw [ha] at h hr
   simp only [Kd.isAct, if_true, decide_eq_true_eq] at hr
   have hr' : k ∈ Region.ready md ops listed := by rw [hr]; exact N'
   refine ⟨fun e => (by rw [e] at hr'; cases hr'), fun i hi => ?_⟩
   rw [hr] at hi
   have hik : i = k := by simpa using hi
   subst hik
   refine ⟨hkm, o, h0, ?_⟩
   rw [ha]
   rcases h with ⟨h1, h2⟩ | ⟨h1, h2⟩
   ·exact .inl ⟨h1, fun x => ⟨(h2 x).1, next _ _ (h2 x).1 hr' (h2 x).2⟩⟩
   ·exact .inr ⟨h1, next _ _ hSE hr' h2⟩
def Jmh : List (Nat × Kd) → Kds
 | [], _ => .quiet
 | (j, p) :: r, k => match Nat.beq k j with | true => p | false => Jmh r k
def onB (md : Region.Mode) (ops : Array Oper) (j i : Nat) : Bool := match ops[j]? with | some o => o.after.any fun e => Region.binds md e && e.on == i | none => false
def Jmi (md : Region.Mode) (ops : Array Oper) (tb : Kds) (m : Nat) : Bool :=
 (List.range m).all fun j => if (tb j).turns then (List.range m).all fun i => !(tb i).isQuiet || onB md ops j i || onB md ops i j else true
theorem xC {listed : Array Bool} (h : onB md ops j i = true) (hj : j ∈ Region.ready md ops listed) (hi : i ∈ Region.ready md ops listed) : False := by
 unfold onB at h
 obtain ⟨hjun, oj, hoj, hall⟩ := mem_ready.1 hj
 rw [hoj] at h
 simp only [Array.any_eq_true'] at h
 obtain ⟨e, he, hb⟩ := h
 simp only [Bool.and_eq_true, beq_iff_eq] at hb
 have h2 := hall e he hb.1
 rw [hb.2, getD_both (mem_ready.1 hi).1] at h2
 cases h2
theorem Jcf {tb : Kds} (h : Jmi md ops tb m = true) (hi : i < m) : Jmf md ops tb m i := fun hq j e hj he hg listed hir hjr => by
 have h1 := List.all_eq_true.1 h j (List.mem_range.2 hj)
 rw [he] at h1
 simp only [Kd.turns, hg, Bool.not_false, if_true] at h1
 have h2 := List.all_eq_true.1 h1 i (List.mem_range.2 hi)
 rw [hq] at h2
 simp only [Kd.isQuiet, Bool.not_true, Bool.false_or, Bool.or_eq_true] at h2
 rcases h2 with h2 | h2
 ·exact xC h2 hjr hir
 ·exact xC h2 hir hjr
end
section
variable {c : Cx} {l : KY} {L E : J3} {X : XP} {Q : Exit → Act → World → Prop} {d : List Deferred}
variable {ops : Array Oper} {rest : List Oper} {i k : Nat} {v : Value} {o : Oper} {tb : Kds} {S : J3} {T : J3 → Act → Prop}
def HA (c : Cx) (d : List Deferred) (l : KY) (E : J3) (X : XP) (S : J3) (ops : Array Oper) (tb : Kds) (rest : List Oper) (k : Nat) (T : J3 → Act → Prop) : Prop :=
 ∀ a, Fr c.n d l a → vc c X S ops tb T rest k E a
def Jmj (ops : List Oper) (tb : Kds) (m : Nat) : Bool :=
 (ops.all fun o => KM o.op) && Region.noSelect ops.toArray && Nat.ble m ops.length &&
 (Nat.beq m ops.length || (Region.sinkB .any ops.toArray m && Region.chainB .any ops.toArray m)) && Jmi .any ops.toArray tb m &&
 Jmg .any ops.toArray tb (ops.length - m) m 0 (Array.replicate ops.length false)
theorem wc {ops : List Oper} (S : J3) (tab : List (Nat × Kd)) (m : Nat) (hm : c.P.follows .mixedOrders = true) (hB : Jmj ops (Jmh tab) m = true) (hSL : SubS S L)
  (h : HA c d l L X S ops.toArray (Jmh tab) (ops.take m) 0 (fun E a' => ∀ w, St c E X w → wpListIn (FW c.ro) 0 c.P ops.toArray Q (ops.drop m) a' w)) : HC c d l L X (.region id ops.toArray true) Q := fun a w hf hs => by
 simp only [Jmj, Bool.and_eq_true, Bool.or_eq_true] at hB
 obtain ⟨⟨⟨⟨⟨h1, hsel⟩, hle⟩, hsc⟩, hcr⟩, hlex⟩ := hB
 have hle' := H' hle
 have hnd : ∀ (j : Nat) (o : Oper), ops.toArray[j]? = some o → KM o.op = true := fun j o ho => List.all_eq_true.1 h1 o (List.mem_of_getElem? Ml)
 have htl : (ops.take m).length = m := by simp; omega
 have hdl : (ops.drop m).length = ops.length - m := by simp
 have hlt : ∀ i, i < m → ∀ listed, HeadInv .any ops.toArray m listed → listed.getD i true = false → ∀ j ∈ Region.ready .any ops.toArray listed, j < m := by
  intro i hi listed inv hun j hj
  rcases Nat.lt_or_ge j m with hjm | hjm
  exact hjm
  have hjs : j < ops.length := by obtain ⟨_, oj, hoj, _⟩ := mem_ready.1 hj; simpa using (Array.getElem?_eq_some_iff.1 hoj).1
  rcases hsc with h0 | ⟨h2, h3⟩
  exact F4
  exact Dd
 have inv0 : HeadInv .any ops.toArray m (Array.replicate ops.length false) :=
  ⟨by simp, fun j oj _ hl => nL, fun t _ ht => getD_in MI (getD_replicate_false _ _)⟩
 have H := Jce (c := c) (X := X) (md := .any) (g := ops.length - m) hsel (fun i hi => Jcf hcr hi) hlt (fun listed hq => seqB_ready hq) (ops.take m) 0 _ L a
  (fun j hj => by
   have hj' : j < m := by rw [htl] at hj; exact hj
   simp [hj']) (by simpa using htl) inv0 hSL (by rw [htl]; exact hlex) (h a hf)
 refine wpIn_region_any hm ?_
 have := Jhf (Q' := Q) (g := ops.length - m) hnd (fun E' listed a' w' _ hw' hL => by
  have := WY (ro := c.ro) (P := c.P) (md := .any) (Q' := Q) (ops.drop m) m listed a' w' (fun j => by simp [List.getElem?_drop]) MK (hL.2 w' hw')
  rwa [hdl] at this) _ _ _ _ _ hSL Mr H
 rw [htl, show m + (ops.length - m) = ops.toArray.size from by simp; omega] at this
 simpa using this
theorem Jfa (h : HL c d l E X ops tail Q) : HA c d l E X S ops tb [] k (fun E' a' => ∀ w, St c E' X w → wpListIn (FW c.ro) 0 c.P ops Q tail a' w) :=
 fun a hf w hs => h a w hf hs
theorem Jxi (hg : KW l ops o = some true) (hd : o.dst = some i) (hi : Nat.ble (i + 1) c.n = true) (hA : tb k = .quiet) (hr : Kg c d l E X o v) (h : HA c d ((i, v) :: l) E X S ops tb rest (k + 1) T) : HA c d l E X S ops tb (o :: rest) k T := fun a hf => by
 unfold vc
 rw [hA]
 refine ⟨v, .inl ⟨Kh hf hg, fun w hs => Zu (hr a w hf hs) ⟨rfl, Keep.refl _ _⟩⟩, ?_⟩
 rw [hd]; exact h _ (hf.put (H' hi))
theorem ZH (hg : KW l ops o = some true) (hd : o.dst = some i) (hi : Nat.ble (i + 1) c.n = true) (hA : tb k = .pure) (hr : ∀ E', SubS S E' → Kg c d l E' X o v) (h : HA c d ((i, v) :: l) E X S ops tb rest (k + 1) T) : HA c d l E X S ops tb (o :: rest) k T := fun a hf => by
 unfold vc
 rw [hA]
 refine ⟨v, .inl ⟨Kh hf hg, fun E' hE' w hs => Zu (hr E' hE' a w hf hs) ⟨rfl, Keep.refl _ _⟩⟩, ?_⟩
 rw [hd]; exact h _ (hf.put (H' hi))
theorem Jwc (e : v = v') (h : HA c d ((i, v') :: l) E X S ops tb rest k T) : HA c d ((i, v) :: l) E X S ops tb rest k T := e ▸ h
theorem jy {R : Value → World → Prop}
  (hf : Fr c.n d l a) (hca : Qw l f args = some (g, vs)) (eg : Enters c.P g) (h : Calls c.P g vs.toArray w fun e w2 => ∃ v, e = .returned v ∧ R v w2) : actAt c ⟨dst, .call ⟨.value f, args, at_⟩, ty, ps, af, gd⟩ a w R := by
 unfold actAt
 rw [VK hf hca c.P w _ rfl eg]
 exact h
theorem Jhg {e : AE} (x0 : e.α) (hg : KW l ops o = some true) (hd : o.dst = none) (hA : tb k = .act e) (hx : ∀ x, e.G x E = E') (hr : ∀ a w, Fr c.n d l a → St c E X w → ∃ w', (execOp a.eval o).run c.P w = .ok .skip w' ∧ St c E' X w') (hu : ∀ x, e.V x = undef) (hS : SubS S E')
  (h : HA c d l E' X S ops tb rest (k + 1) T) : HA c d l E X S ops tb (o :: rest) k T := fun a hf => by
 unfold vc
 rw [hA]
 refine .inl ⟨⟨Kh hf hg, fun w hs => ?_⟩, fun x => ⟨by rw [hx]; exact hS, ?_⟩⟩
 ·obtain ⟨w', h1, h2⟩ := hr a w hf hs
  exact Jcd h1 ⟨x0, (hu x0).symm, by rw [hx]; exact h2⟩
 ·rw [hd, hx]; exact h _ hf
def Jsr : J3 → Nat → Obj → J3
 | [], _, _ => []
 | (r, _) :: E, 0, o => (r, o) :: E
 | p :: E, k + 1, o => p :: Jsr E k o
def jz (k : Nat) (ob : Obj) : AE := ⟨Unit, fun _ => undef, fun _ E => Jsr E k ob, false, fun h => by cases h⟩
end
section
variable {c : Cx} {l : KY} {E : J3} {X : XP} {d : List Deferred}
variable {ops : Array Oper} {rest : List Oper} {i k : Nat} {v : Value} {t : TypeId} {ps : String} {af : Array Edge} {gd : Option (Nat × Bool)} {ty : TypeId} {tb : Kds} {S : J3} {T : J3 → Act → Prop}
def yF (r : Nat) : Value := .pointer (some ⟨r, 0, none⟩)
def slV (n r : Nat) : Value := .slice (some ⟨r, 0, none⟩) n n
theorem qK  {n : Nat} (hg : KW l ops ⟨none, .store t x y, ty, ps, af, gd⟩ = some true) (hA : tb k = .act (jz q (.cells ys.toArray e (0, 0))))
  (hx : KU l x = some (.pointer (some ⟨r, 0, none⟩))) (hk : E[q]? = some (r, .cells cs e (0, 0))) (hy : KU l y = some (.agg ys.toArray)) (ht : Q9 c.P t = some n) (hn : ys.length = n) (hcz : cs.size = n) (ho : ys.all VU = true) (hL : E.set q (r, .cells ys.toArray e (0, 0)) = E') (hP : Jsr E q (.cells ys.toArray e (0, 0)) = E') (hS : SubS S E')
  (h : HA c d l E' X S ops tb rest (k + 1) T) : HA c d l E X S ops tb (⟨none, .store t x y, ty, ps, af, gd⟩ :: rest) k T :=
 Jhg (e := jz q (.cells ys.toArray e (0, 0))) () hg rfl hA (fun _ => hP) (fun a w hf hst => ⟨w.setRow r ys.toArray, by
  have hcs : (cs.toList.take 0 ++ ys.toArray.toList ++ cs.toList.drop (0 + n)).toArray = ys.toArray := by
   apply Array.toList_inj.1
   simp [← hcz]
  refine Ev ?_
  have h1 := run_storeCells_at (P := c.P) r 0 e ys.toArray.toList 0 cs w (hst.get hk) MD (fun u hu => by rw [X4]; exact List.all_eq_true.1 ho u (by simpa using hu))
  simp only [Nat.add_zero, Array.length_toList, List.size_toArray, hn] at h1
  rw [hcs] at h1
  simp [Instr.storeAt, Instr.sureAddr, Sem.run_bind, Result.andThen, storeVar, Vz ht, Value.cells, hn, h1], by
  subst hL
  exact hst.set hk (Keep.setRow r ys.toArray) (setRow_heap _ _ _ _ _ _ (hst.get hk))⟩) (fun _ => rfl) hS h
theorem wd (hg : KW l ops ⟨none, .store t x y, ty, ps, af, gd⟩ = some true) (hA : tb k = .act (jz q (.cells cs' e (0, 0))))
  (hx : KU l x = some (.pointer (some ⟨r, off, none⟩))) (hk : E[q]? = some (r, .cells cs e (0, 0))) (hy : KU l y = some v) (ht : Q9 c.P t = some 1) (ho : VU v = true) (hc : (cs[off]?).isSome = true)
  (hcs : cs.setIfInBounds off v = cs') (hL : E.set q (r, .cells cs' e (0, 0)) = E') (hP : Jsr E q (.cells cs' e (0, 0)) = E') (hS : SubS S E')
  (h : HA c d l E' X S ops tb rest (k + 1) T) : HA c d l E X S ops tb (⟨none, .store t x y, ty, ps, af, gd⟩ :: rest) k T :=
 Jhg (e := jz q (.cells cs' e (0, 0))) () hg rfl hA (fun _ => hP) (fun a w hf hs => ⟨w.setCell ⟨r, off, none⟩ v, by
  simp only [execOp]; rw [hf.eval hx, hf.eval hy]
  obtain ⟨old, hold⟩ := Option.isSome_iff_exists.1 hc
  have h1 := run_store c.P w ⟨r, off, none⟩ v .plain (by rw [X4]; exact ho)
  rw [VY (hs.get hk), hold, qi (hs.get hk) (Jxf off)] at h1
  have hcell : v.cells = #[v] := by cases v <;> first | rfl | cases ho
  simp [Instr.storeAt, Instr.sureAddr, Sem.run_bind, Result.andThen, storeVar, Vz ht, hcell, storeCells, Addr.add, h1], by
  subst hL; subst hcs
  exact hs.set hk (Keep.setCell r off v) (Wm v (hs.get hk))⟩) (fun _ => rfl) hS h
theorem qL (h1 : -9223372036854775808 ≤ z) (h2 : z ≤ 9223372036854775807) (h : HA c d ((i, .int .i64 z) :: l) E X S ops tb rest k T) : HA c d ((i, .int .i64 (IntKind.i64.wrap z)) :: l) E X S ops tb rest k T := by rw [wrap_i64 h1 h2]; exact h
end
open Go Go.RowKit Go.Shelf
def we : Nat → List Value → Option (List Value)
 | 0, _ => some []
 | n + 1, x :: xs => match we n xs with | some r => some (x :: r) | none => none
 | _ + 1, [] => none
theorem wg : ∀ {n : Nat} {xs r : List Value}, we n xs = some r → xs.take n = r ∧ r.length = n
 | 0, xs, r, h => by unfold we at h; cases h; exact ⟨by simp, rfl⟩
 | n + 1, [], r, h => by unfold we at h; cases h
 | n + 1, x :: xs, r, h => by
  unfold we at h
  cases e : we n xs with
  | none => rw [e] at h; cases h
  | some q => rw [e] at h; cases h; obtain ⟨h1, h2⟩ := wg e; exact ⟨by rw [List.take_succ_cons, h1], by rw [List.length_cons, h2]⟩
def Jxj : Nat → Option Nat
 | 0 => some 0 | 1 => some 1 | 2 => some 2 | 3 => some 3 | 4 => some 4 | 5 => some 5 | 6 => some 6 | 7 => some 7 | 8 => some 8 | 9 => some 9 | 10 => some 10
 | 11 => some 11 | 12 => some 12 | 13 => some 13 | 14 => some 14 | 15 => some 15 | 16 => some 16 | 17 => some 17 | 18 => some 18 | 19 => some 19 | 20 => some 20 | n => some n
theorem Jss {n : Nat} (h : Jxj n = some m) : n = m := by
 unfold Jxj at h
 split at h <;> exact J' h
def Jmk (P : Program) (L : J3) (ops : Array Oper) (N : Nat) (ks : List Nat) (l : KY) (o : Oper) : Option (Nat × Value × List Nat × List (Nat × Nat)) :=
 match KW l ops o with
 | none => none
 | some false => match o.dst with
  | none => none
  | some i => match Nat.ble (i + 1) N with
   | false => none
   | true => some (i, undef, ks, [])
 | some true => match o.dst with
  | none => none
  | some i => match Nat.ble (i + 1) N with
   | false => none
   | true => match o.op with
    | .move x => match KU l x with
     | some v => some (i, v, ks, [])
     | none => none
    | .assign x => match KU l x with
     | some v => some (i, v, ks, [])
     | none => none
    | .extract x ix => match KU l x with
     | some (.tuple vs) => match X3 vs.toList ix with
      | some v => some (i, v, ks, [])
      | none => none
     | _ => none
    | .pick x y z => match KU l x with
     | some (.bool true) => match KU l y with
      | some v => some (i, v, ks, [])
      | none => none
     | some (.bool false) => match KU l z with
      | some v => some (i, v, ks, [])
      | none => none
     | _ => none
    | .fieldAddr t x f => match KU l x with
     | some (.pointer (some ⟨r, off, none⟩)) => match vU P t f with
      | some (fo, _ + 1) => match Jxj (off + fo) with
       | some m => some (i, .pointer (some ⟨r, m, none⟩), ks, [])
       | none => none
      | _ => none
     | _ => none
    | .load t x => match KU l x with
     | some (.pointer (some ⟨r, off, none⟩)) => match ks with
      | [] => none
      | k :: ks' => match L[k]? with
       | some (r', .cells cs e fr) => match WH P t with
        | some false => match X3 cs.toList off with
         | some v => some (i, v, ks', [(r, r')])
         | none => none
        | some true => match Q9 P t with
         | some n => match we n (cs.toList.drop off) with
          | some vs => some (i, .agg vs.toArray, ks', [(r, r')])
          | none => none
         | none => none
        | none => none
       | _ => none
     | _ => none
    | _ => match KM o.op, ZT l o.op.operands.toList, VT P (execOp (evT l) o) with
     | true, true, some (.value v) => some (i, v, ks, [])
     | _, _, _ => none
section
variable {c : Cx} {l : KY} {L : J3} {X : XP} {Q : Exit → Act → World → Prop} {d : List Deferred} {ops : Array Oper}
theorem Jml {ks ks' : List Nat} {q : List (Nat × Nat)} (hB : Jmk c.P L ops c.n ks l o = some (i, v, ks', q)) (hq : ∀ p ∈ q, p.1 = p.2) (h : HL c d ((i, v) :: l) L X ops rest Q) : HL c d l L X ops (o :: rest) Q := by
 unfold Jmk at hB
 split at hB
 ·cases hB
 ·rename_i hg
  split at hB
  ·cases hB
  ·rename_i hd
   split at hB
   ·cases hB
   ·rename_i hi
    cases hB
    exact Jg7 hg hd hi h
 ·rename_i hg
  split at hB
  ·cases hB
  ·rename_i i0 hd
   split at hB
   ·cases hB
   ·rename_i hi
    obtain ⟨dst, op, ty, ps, af, gd⟩ := o
    simp only at hd
    subst hd
    dsimp only at hB
    cases op
    case move x =>
     dsimp only at hB
     split at hB
     ·rename_i e; cases hB; exact qh hg O O hi (Jw e) h
     ·cases hB
    case assign x =>
     dsimp only at hB
     split at hB
     ·rename_i e; cases hB; exact qh hg O O hi (J7 e) h
     ·cases hB
    case extract x ix =>
     dsimp only at hB
     split at hB
     ·rename_i e
      split at hB
      ·rename_i e2; cases hB; exact qh hg O O hi (Jb e e2) h
      ·cases hB
     ·cases hB
    case pick x y z =>
     dsimp only at hB
     split at hB
     ·rename_i e
      split at hB
      ·rename_i e2; cases hB; exact qh hg O O hi (Jp e e2) h
      ·cases hB
     ·rename_i e
      split at hB
      ·rename_i e2; cases hB; exact qh hg O O hi (Jy e e2) h
      ·cases hB
     ·cases hB
    case fieldAddr t x f =>
     dsimp only at hB
     split at hB
     ·rename_i e
      split at hB
      ·rename_i e2
       split at hB
       ·rename_i e3; cases hB; exact qh hg O O hi (Ja e e2 (Jss e3)) h
       ·cases hB
      ·cases hB
     ·cases hB
    case load t x =>
     dsimp only at hB
     split at hB
     ·rename_i e
      split at hB
      ·cases hB
      ·split at hB
       ·rename_i e2
        split at hB
        ·rename_i e3
         split at hB
         ·rename_i e4
          cases hB
          have hr := hq _ (List.mem_singleton_self _)
          simp only at hr
          subst hr
          exact qh hg O O hi (Jc e (WF e2) e3 e4) h
         ·cases hB
        ·rename_i e3
         split at hB
         ·rename_i e4
          split at hB
          ·rename_i e5
           cases hB
           have hr := hq _ (List.mem_singleton_self _)
           simp only at hr
           subst hr
           exact qh hg O O hi (Ki e (WF e2) e3 e4 (wg e5).1 (wg e5).2) h
          ·cases hB
         ·cases hB
        ·cases hB
       ·cases hB
     ·cases hB
    all_goals
     dsimp only at hB
     split at hB
     ·rename_i e1 e2 e3; cases hB; exact qh hg e1 O hi (JH e1 e2 e3) h
     ·cases hB
end
section
variable {c : Cx} {l : KY} {L : J3} {X : XP} {Q : Exit → Act → World → Prop} {K : Act → World → Prop} {d : List Deferred} {ops : Array Oper}
theorem sQ {x y : Code} (h : ∀ K, (∀ {d l L X}, HC c d l L X y Q → HQ c d l L X K) → HC c d l L X x (Exit.then K Q)) : HC c d l L X (x.seq y) Q := Jw3 fun K hK => h K fun {d l L X} => hK d l L X
theorem sR {os : List Oper} {y : Code} (h : ∀ K, (∀ {d l L X}, HC c d l L X y Q → HQ c d l L X K) → HL c d l L X os.toArray os (Exit.then K Q)) : HC c d l L X (Code.seq (.region id os.toArray false) y) Q := sQ fun K hK => Zp (h K hK)
theorem sB {b y : Code} (h : ∀ K, (∀ {d l L X}, HC c d l L X y Q → HQ c d l L X K) → HC c d l L X b (Exit.inBlock id (Exit.then K Q))) : HC c d l L X (Code.seq (.block id b) y) Q := sQ fun K hK => Jbx (h K hK)
theorem nK {y : Code} (hK : ∀ {d l L X}, HC c d l L X y Q' → HQ c d l L X K) (h : HC c d l L X y Q') : HL c d l L X ops [] (Exit.then K Q) := W9 (JS (hK h))
theorem pT {tt : Nat} (hP : c.P = P) (hr : fn.results = [ResultVar.tmp tt].toArray) (h : VA l tt = some v) (hR : ∀ w, St c L X w → R (.returned (QD [v])) w) : HQ c [] l L X (bodyPostM (FW none) 0 P fn R .ret) := Jh hP hr (.cons (Jg h) .nil) hR
end
def xD : Nat → (Nat × Obj) → J3 → Option J3
 | 0, x, _ :: L => some (x :: L)
 | n + 1, x, y :: L => match xD n x L with | some r => some (y :: r) | none => none
 | _, _, [] => none
theorem xE : ∀ {k : Nat} {x : Nat × Obj} {L r : J3}, xD k x L = some r → L.set k x = r
 | 0, x, y :: L, r, h => by unfold xD at h; cases h; rfl
 | n + 1, x, y :: L, r, h => by
  unfold xD at h
  cases e : xD n x L with
  | none => rw [e] at h; cases h
  | some q => rw [e] at h; cases h; rw [List.set_cons_succ, xE e]
 | 0, x, [], r, h => by unfold xD at h; cases h
 | n + 1, x, [], r, h => by unfold xD at h; cases h
def vd : Nat → List Value → List Value → Option (List Value)
 | 0, [], cs => some cs
 | 0, v :: vs, _ :: cs => match vd 0 vs cs with | some r => some (v :: r) | none => none
 | n + 1, vs, c :: cs => match vd n vs cs with | some r => some (c :: r) | none => none
 | _, _, [] => none
theorem vx : ∀ {off : Nat} {vs cs r : List Value}, vd off vs cs = some r → off + vs.length ≤ cs.length ∧ cs.take off ++ vs ++ cs.drop (off + vs.length) = r
 | 0, [], cs, r, h => by unfold vd at h; cases h; exact ⟨by simp, by simp⟩
 | 0, v :: vs, [], r, h => by unfold vd at h; cases h
 | 0, v :: vs, c :: cs, r, h => by
  unfold vd at h
  cases e : vd 0 vs cs with
  | none => rw [e] at h; cases h
  | some q =>
   rw [e] at h; cases h
   obtain ⟨h1, h2⟩ := vx e
   refine ⟨by simp at h1 ⊢; omega, ?_⟩
   rw [← h2]; simp
 | n + 1, vs, [], r, h => by cases vs <;> (unfold vd at h; cases h)
 | n + 1, vs, c :: cs, r, h => by
  have h : (match vd n vs cs with | some r => some (c :: r) | none => none) = some r := by cases vs <;> exact h
  cases e : vd n vs cs with
  | none => rw [e] at h; cases h
  | some q =>
   rw [e] at h; cases h
   obtain ⟨h1, h2⟩ := vx e
   refine ⟨by rw [List.length_cons]; omega, ?_⟩
   rw [← h2, show n + 1 + vs.length = (n + vs.length) + 1 by omega]; rfl
def Jz4 (P : Program) (L : J3) (l : KY) (ops : Array Oper) (o : Oper) (k : Nat) : Option (J3 × Nat × Nat) :=
 match KW l ops o with
 | some true => match o.dst with
  | none => match o.op with
   | .store t x y => match KU l x with
    | some (.pointer (some ⟨r, off, none⟩)) => match L[k]? with
     | some (r', .cells cs e (0, 0)) => match Q9 P t with
      | some n => match KU l y with
       | some (.agg vs) => match Nat.beq vs.size n, vs.toList.all VU, vd off vs.toList cs.toList with
        | true, true, some r2 => match xD k (r', .cells r2.toArray e (0, 0)) L with
         | some L' => some (L', r, r')
         | none => none
        | _, _, _ => none
       | some v => match Nat.beq n 1, VU v, vd off [v] cs.toList with
        | true, true, some r2 => match xD k (r', .cells r2.toArray e (0, 0)) L with
         | some L' => some (L', r, r')
         | none => none
        | _, _, _ => none
       | none => none
      | none => none
     | _ => none
    | _ => none
   | _ => none
  | some _ => none
 | _ => none
section
variable {c : Cx} {l : KY} {L : J3} {X : XP} {Q : Exit → Act → World → Prop} {d : List Deferred} {ops : Array Oper}
theorem Jz5 (off : Nat) : frB (0, 0) off = false := by unfold frB; cases off <;> rfl
theorem LT  {r' : Nat} (k : Nat) (hB : Jz4 c.P L l ops o k = some (L', r, r')) (hr : r = r') (h : HL c d l L' X ops rest Q) : HL c d l L X ops (o :: rest) Q := by
 subst hr
 unfold Jz4 at hB
 split at hB
 ·rename_i hg
  split at hB
  ·rename_i hd
   split at hB
   ·rename_i t x y ho
    obtain ⟨dst, op, ty, ps, af, gd⟩ := o
    simp only at hd ho
    subst hd ho
    split at hB
    ·rename_i hx
     split at hB
     ·rename_i hk
      split at hB
      ·rename_i ht
       split at hB
       ·rename_i hy
        split at hB
        ·rename_i h1 h2 h3
         split at hB
         ·rename_i h4
          cases hB
          obtain ⟨s1, s2⟩ := vx h3
          have h1 := Nat.eq_of_beq_eq_true h1
          refine J2 (k := k) hg hx hk hy ht h1 h2 (by simpa [← h1] using s1) ?_ (xE h4) h
          rw [← s2]; congr 1; simp [← h1]
         ·cases hB
        ·cases hB
       ·rename_i hy
        split at hB
        ·rename_i h1 h2 h3
         split at hB
         ·rename_i h4
          cases hB
          obtain ⟨s1, s2⟩ := vx h3
          have h1 := Nat.eq_of_beq_eq_true h1
          subst h1
          simp only [List.length_singleton, Array.length_toList] at s1
          refine Jm (k := k) hg hx hk hy ht h2 mL (Jz5 _) ?_ (xE h4) h
          rw [← s2]
          apply Array.toList_inj.1
          simp [List.set_eq_take_append_cons_drop, s1]
          intro hh; omega
         ·cases hB
        ·cases hB
       ·cases hB
      ·cases hB
     ·cases hB
    ·cases hB
   ·cases hB
  ·cases hB
 ·cases hB
end
def Jz6 (l : KY) (ops : Array Oper) (o : Oper) (n : Nat) : Option Nat := match KW l ops o, KM o.op, o.dst with
 | some true, true, some i => match Nat.ble (i + 1) n with | true => some i | false => none
 | _, _, _ => none
def Jz7 (l : KY) (ops : Array Oper) (o : Oper) (n : Nat) : Option Nat := match KW l ops o, o.dst with
 | some false, some i => match Nat.ble (i + 1) n with | true => some i | false => none
 | _, _ => none
section
variable {c : Cx} {l : KY} {L : J3} {X : XP} {Q : Exit → Act → World → Prop} {d : List Deferred} {ops : Array Oper}
theorem LR (hB : Jz6 l ops o c.n = some i) (hr : Kg c d l L X o v) (h : HL c d ((i, v) :: l) L X ops rest Q) : HL c d l L X ops (o :: rest) Q := by
 unfold Jz6 at hB
 split at hB
 ·split at hB
  ·cases hB; exact qh ma ma ma ma hr h
  ·cases hB
 ·cases hB
theorem LK (hB : Jz7 l ops o c.n = some i) (h : HL c d ((i, undef) :: l) L X ops rest Q) : HL c d l L X ops (o :: rest) Q := by
 unfold Jz7 at hB
 split at hB
 ·split at hB
  ·cases hB; exact Jg7 ma ma ma h
  ·cases hB
 ·cases hB
end
def ZV : List Value → Option (List Value)
 | [] => some []
 | x :: xs => match ZV xs with | some r => some (x :: r) | none => none
theorem qo : ∀ {xs r : List Value}, ZV xs = some r → xs = r
 | [], r, h => by unfold ZV at h; cases h; rfl
 | x :: xs, r, h => by
  unfold ZV at h
  cases e : ZV xs with
  | none => rw [e] at h; cases h
  | some q => rw [e] at h; cases h; rw [qo e]
def Jz8 (P : Program) (l : KY) (ops : Array Oper) (o : Oper) (N : Nat) : Option (Nat × List Value × TypeId) :=
 match KW l ops o with
 | some true => match o.dst with
  | some i => match Nat.ble (i + 1) N with
   | true => match o.op with
    | .box t x => match KU l x with
     | some v => match ZV v.cells.toList with
      | some r => some (i, r, t)
      | none => none
     | none => none
    | .alloc t => match Vo P t with
     | some z => match ZV z.cells.toList with
      | some r => some (i, r, t)
      | none => none
     | none => none
    | _ => none
   | false => none
  | none => none
 | _ => none
section
variable {c : Cx} {l : KY} {L : J3} {X : XP} {Q : Exit → Act → World → Prop} {d : List Deferred} {ops : Array Oper}
theorem LN  {t : Nat} {r : List Value} (hB : Jz8 c.P l ops o c.n = some (i, r, t)) (h : ∀ b, HL c d ((i, .pointer (some ⟨b, 0, none⟩)) :: l) ((b, .cells r.toArray t (0, 0)) :: L) X ops rest Q) : HL c d l L X ops (o :: rest) Q := by
 unfold Jz8 at hB
 split at hB
 ·rename_i hg
  split at hB
  ·rename_i hd
   split at hB
   ·rename_i hi
    split at hB
    ·rename_i ho
     obtain ⟨dst, op, ty, ps, af, gd⟩ := o
     simp only at hd ho
     subst hd ho
     split at hB
     ·rename_i hx
      split at hB
      ·rename_i hr; cases hB; exact JR hg hi hx (by rw [← qo hr]) h
      ·cases hB
     ·cases hB
    ·rename_i ho
     obtain ⟨dst, op, ty, ps, af, gd⟩ := o
     simp only at hd ho
     subst hd ho
     split at hB
     ·rename_i hz
      split at hB
      ·rename_i hr; cases hB; exact jr hg hi hz (by rw [← qo hr]) h
      ·cases hB
     ·cases hB
    ·cases hB
   ·cases hB
  ·cases hB
 ·cases hB
theorem kn {o : Obj} (k : Nat) (h : L[k]? = some (r, o)) : known c L r o := WF h
end
inductive Fm where
  | sq (y : Code)
  | bl (id : Nat)
  | kk (K : Act → World → Prop)
def QF (c : Cx) : List Fm → (Exit → Act → World → Prop) → Exit → Act → World → Prop
 | [], Q => Q
 | .sq y :: fs, Q => Exit.then (y.wpIn (FW c.ro) 0 c.P (QF c fs Q)) (QF c fs Q)
 | .bl id :: fs, Q => Exit.inBlock id (QF c fs Q)
 | .kk K :: fs, Q => Exit.then K (QF c fs Q)
inductive Pt where
  | cd (x : Code)
  | ex (e : Exit)
  | op (ops : Array Oper) (rest : List Oper)
def PtH (c : Cx) (d : List Deferred) (l : KY) (L : J3) (X : XP) (fs : List Fm) (Q : Exit → Act → World → Prop) : Pt → Prop
 | .cd x => HC c d l L X x (QF c fs Q)
 | .ex e => HQ c d l L X (QF c fs Q e)
 | .op ops rest => HL c d l L X ops rest (QF c fs Q)
abbrev CtR := Option (KY × List Fm × Pt × List (Nat × Nat))
def YU (P : Program) (L : J3) (N : Nat) : Nat → List Nat → KY → List Fm → Pt → CtR
 | 0, _, l, fs, p => some (l, fs, p, [])
 | n + 1, ks, l, fs, .cd x => match x with
  | .seq x y => YU P L N n ks l (.sq y :: fs) (.cd x)
  | .block id b => YU P L N n ks l (.bl id :: fs) (.cd b)
  | .region _ ops false => YU P L N n ks l fs (.op ops ops.toList)
  | .skip => YU P L N n ks l fs (.ex .normal)
  | .ret => YU P L N n ks l fs (.ex .ret)
  | .exit id => YU P L N n ks l fs (.ex (.exit id))
  | .cond x t e => match KU l x with
   | some (.bool true) => YU P L N n ks l fs (.cd t)
   | some (.bool false) => YU P L N n ks l fs (.cd e)
   | _ => none
  | _ => none
 | n + 1, ks, l, .sq y :: fs, .ex e => match e with
  | .normal => YU P L N n ks l fs (.cd y)
  | .ret => YU P L N n ks l fs (.ex .ret)
  | .exit j => YU P L N n ks l fs (.ex (.exit j))
  | _ => none
 | n + 1, ks, l, .bl id :: fs, .ex e => match e with
  | .normal => YU P L N n ks l fs (.ex .normal)
  | .ret => YU P L N n ks l fs (.ex .ret)
  | .exit j => match Nat.beq j id with
   | true => YU P L N n ks l fs (.ex .normal)
   | false => YU P L N n ks l fs (.ex (.exit j))
  | _ => none
 | n + 1, ks, l, .kk K :: fs, .ex e => match e with
  | .ret => YU P L N n ks l fs (.ex .ret)
  | .exit j => YU P L N n ks l fs (.ex (.exit j))
  | _ => none
 | _ + 1, _, _, [], .ex _ => none
 | n + 1, ks, l, fs, .op ops [] => YU P L N n ks l fs (.ex .normal)
 | n + 1, ks, l, fs, .op ops (o :: rest) => match Jmk P L ops N ks l o with
  | some (i, v, ks', q) => match YU P L N n ks' ((i, v) :: l) fs (.op ops rest) with
   | some (l', fs', p', qs) => some (l', fs', p', q ++ qs)
   | none => none
  | none => none
section
variable {c : Cx} {L : J3} {X : XP} {Q : Exit → Act → World → Prop} {d : List Deferred}
theorem Jst {l : KY} {x y : Code} (h : HC c d l L X x (Exit.then (y.wpIn (FW c.ro) 0 c.P Q) Q)) : HC c d l L X (x.seq y) Q :=
 fun a w hf hs => wpIn_seq (h a w hf hs)
theorem Y5 : ∀ (n : Nat) {ks : List Nat} {l : KY} {fs : List Fm} {p : Pt} {l' : KY} {fs' : List Fm} {p' : Pt} {qs : List (Nat × Nat)},
  YU c.P L c.n n ks l fs p = some (l', fs', p', qs) → (∀ q ∈ qs, q.1 = q.2) → PtH c d l' L X fs' Q p' → PtH c d l L X fs Q p := by
 intro n
 induction n with
 | zero => intro ks l fs p l' fs' p' qs h _ hk; simp only [YU, Option.some.injEq, Prod.mk.injEq] at h; obtain ⟨rfl, rfl, rfl, _⟩ := h; exact hk
 | succ n ih =>
  intro ks l fs p l' fs' p' qs h hq hk
  cases p with
  | cd x =>
   simp only [YU] at h
   split at h
   exact Jst (ih h hq hk)
   exact Jbx (ih h hq hk)
   rename_i ops; obtain ⟨ops⟩ := ops; exact Zp (ih h hq hk)
   exact xr (ih h hq hk)
   exact Jw4 (ih h hq hk)
   exact Jsk (ih h hq hk)
   split at h
   rename_i e; exact Jl2 e (ih h hq hk)
   rename_i e; exact Jl3 e (ih h hq hk)
   cases h
   cases h
  | ex e =>
   match fs, h with
   | [], h => simp only [YU] at h; cases h
   | .sq y :: fs, h =>
    simp only [YU] at h
    split at h
    have hy := ih (p := .cd y) h hq hk; exact hy
    exact Jby (ih h hq hk)
    exact Jbz (ih h hq hk)
    cases h
   | .bl id :: fs, h =>
    simp only [YU] at h
    split at h
    exact Jj2 (ih h hq hk)
    exact Jj3 (ih h hq hk)
    split at h
    rename_i e; have e := Nat.eq_of_beq_eq_true e; subst e; exact Jj4 (ih h hq hk)
    rename_i e; exact Je1 e (ih h hq hk)
    cases h
   | .kk K :: fs, h =>
    simp only [YU] at h
    split at h
    exact Jby (ih h hq hk)
    exact Jbz (ih h hq hk)
    cases h
  | op ops rest =>
   cases rest with
   | nil => simp only [YU] at h; exact W9 (ih h hq hk)
   | cons o rest =>
    simp only [YU] at h
    split at h
    rename_i i v ks' q e
    split at h
    rename_i e2
    cases h
    exact Jml e (fun p hp => hq p (W' hp)) (ih (p := .op ops rest) e2 (fun p hp => hq p (Y' hp)) hk)
    cases h
    ·cases h
variable {l l' : KY} {fs fs' : List Fm} {qs : List (Nat × Nat)} {x x' : Code} {e e' : Exit} {ops ops' : Array Oper} {rest rest' : List Oper} {K : Act → World → Prop}
theorem cD {r s p : Prop} (a : r) (b : s) (k : r → s → p := by
 intro za zb
 refine Jl O (fun g => ?_) (fun g => ?_) <;> try simp only [ZZ] at g
 ·revert g; exact za
 ·revert g; exact zb) : p := k a b
theorem Kl (h : HC c d l L X x (QF c [] Q)) : HC c d l L X x Q := h
theorem inR (h : HC c d l L X x (QF c [.kk K] Q)) : HC c d l L X x (Exit.then K Q) := h
theorem Ku (n : Nat) (h : YU c.P L c.n n [] l fs (.cd x) = some (l', fs', .cd x', [])) (k : HC c d l' L X x' (QF c fs' Q)) : HC c d l L X x (QF c fs Q) := Y5 n h (fun _ h => nomatch h) k
theorem Jv (n : Nat) (h : YU c.P L c.n n [] l fs (.cd x) = some (l', fs', .op ops' rest', [])) (k : HL c d l' L X ops' rest' (QF c fs' Q)) : HC c d l L X x (QF c fs Q) := Y5 n h (fun _ h => nomatch h) k
theorem KF (n : Nat) (h : YU c.P L c.n n [] l fs (.cd x) = some (l', fs', .ex e', [])) (k : HQ c d l' L X (QF c fs' Q e')) : HC c d l L X x (QF c fs Q) := Y5 n h (fun _ h => nomatch h) k
theorem JP (n : Nat) (h : YU c.P L c.n n [] l fs (.op ops rest) = some (l', fs', .cd x', [])) (k : HC c d l' L X x' (QF c fs' Q)) : HL c d l L X ops rest (QF c fs Q) := Y5 (p := .op ops rest) n h (fun _ h => nomatch h) k
theorem J5 (n : Nat) (h : YU c.P L c.n n [] l fs (.op ops rest) = some (l', fs', .op ops' rest', [])) (k : HL c d l' L X ops' rest' (QF c fs' Q)) : HL c d l L X ops rest (QF c fs Q) := Y5 (p := .op ops rest) n h (fun _ h => nomatch h) k
theorem JD (n : Nat) (h : YU c.P L c.n n [] l fs (.op ops rest) = some (l', fs', .ex e', [])) (k : HQ c d l' L X (QF c fs' Q e')) : HL c d l L X ops rest (QF c fs Q) := Y5 (p := .op ops rest) n h (fun _ h => nomatch h) k
theorem V0 (n : Nat) (h : YU c.P L c.n n [] l fs (.ex e) = some (l', fs', .cd x', [])) (k : HC c d l' L X x' (QF c fs' Q)) : HQ c d l L X (QF c fs Q e) := Y5 (p := .ex e) n h (fun _ h => nomatch h) k
theorem wh (n : Nat) (h : YU c.P L c.n n [] l fs (.ex e) = some (l', fs', .op ops' rest', [])) (k : HL c d l' L X ops' rest' (QF c fs' Q)) : HQ c d l L X (QF c fs Q e) := Y5 (p := .ex e) n h (fun _ h => nomatch h) k
theorem vf (n : Nat) (h : YU c.P L c.n n [] l fs (.ex e) = some (l', fs', .ex e', [])) (k : HQ c d l' L X (QF c fs' Q e')) : HQ c d l L X (QF c fs Q e) := Y5 (p := .ex e) n h (fun _ h => nomatch h) k
theorem JQ (I : σ → Prop) (lI : σ → KY) (LI : σ → J3) (XI : σ → XP) (μ : σ → Nat) (s0 : σ) (h0 : I s0) (hl : LookAll l (lI s0)) (hL : (LI s0).Sublist L) (hX : ∀ xs w, X xs w → XI s0 xs w)
  (hr : ∀ s, I s → HC c d (lI s) (LI s) (XI s) body (QF c (.kk (Jl8 c d I lI LI XI μ s) :: fs) Q)) : HC c d l L X (.loop body) (QF c fs Q) := Jsn I lI LI XI μ s0 h0 hl hL hX hr
end
end Go.SL
