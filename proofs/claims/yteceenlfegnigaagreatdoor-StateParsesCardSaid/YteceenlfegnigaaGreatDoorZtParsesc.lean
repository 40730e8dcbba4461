import Derived.Test.YteceenlfegnigaaGreatDoorZtParsesb
import Derived.Test.YteceenlfegnigaaGreatDoorProg
import Derived.Laws.Externs
import Derived.Shelf.Spec.BitsCarry
import Derived.Shelf.Strings.Builder1
import Derived.Shelf.Strings.Builder2
import Derived.Shelf.Strings.Trim
import Derived.Shelf.Small.Utf8
import Derived.Shelf.Small.Strs
import Derived.Shelf.Strings.BuilderF
import Derived.Shelf.Strings.BuilderK
import Derived.Shelf.Strings.Builder2Cap
import Derived.Shelf.Strings.Search1
import Derived.Shelf.Strings.Prefix
import Derived.Shelf.Unicode.Decode
import Derived.Shelf.Strings.Runes
import Derived.Shelf.Strings.AsciiSet
import Derived.Shelf.Bits.Mul64
import Derived.Shelf.Strings.Repeat
import Derived.Shelf.Unicode.DecodeSlow
import Derived.Shelf.Unicode.DecodeAny
import Derived.Shelf.Strings.BuilderCap
import Derived.Shelf.Slices.Turned
import Derived.Ground.Names2Prog
import Derived.Shelf.Slices.Clone
set_option maxRecDepth 100000
namespace Go.SL
set_option linter.all false
open Go Go.RowKit Go.Shelf
open Go.Proofs (Enters enters_of)
variable {a : Act} {es : Array MapEntry} {ops : Array Oper} {c : Cx} {Q : Exit → Act → World → Prop} {g : FuncId} {L : Jj} {tv : Ko} {d : List Deferred} {rest : List Oper} {α : Type} {xs : List α} {h i id j q r : Nat} {o : Oper} {f x : Operand} {dst : Option Nat} {P : Program} {e e1 e2 : TypeId} {v v' : Value} {w : World} {X : XP}
def Jas : Ko → Nat → Option Value
 | [], _ => none
 | (j, v) :: l, i => match Nat.beq i j with | true => some v | false => Jas l i
def Zq (ops : List Oper) (j : Nat) : Option Nat := match W1 ops j with | some o => o.dst | none => none
def yg (ops : List Oper) (tv : Ko) : List Edge → Ko
 | [] => []
 | e :: es => match Zq ops e.on, Jas tv e.on with | some i, some v => (i, v) :: yg ops tv es | _, _ => yg ops tv es
def Jde (ops : List Oper) (tv : Ko) (j : Nat) : Ko := match W1 ops j with | some o => yg ops tv (o.after.toList.filter fun e => Region.binds .any e) | none => []
def Jvl (ops : List Oper) (P : List Nat) (k : Nat) : Bool :=
 (P.all fun j => Nat.blt j ops.length) && Nat.blt k ops.length && !P.contains k && Nat.blt P.length ops.length &&
 ((k :: P).all fun j => match W1 ops j with | some o => Kx o.op && o.guard.isNone && (o.after.all fun e => !Region.binds .any e || (P.contains e.on && Nat.blt e.on j)) | none => false) &&
 ((List.range ops.length).all fun j => P.contains j || Nat.beq j k || (match W1 ops j with | some o => o.after.any fun e => Region.binds .any e && !P.contains e.on | none => false))
def Zr (n : Nat) (l : Ko) (ops : List Oper) : List Nat → Bool
 | [] => true
 | j :: r => (match Zq ops j with | some i => Nat.blt i n && (match Vu l i with | some _ => false | none => true) && (r.all fun j' => match Zq ops j' with | some i' => !Nat.beq i i' | none => false) | none => false) && Zr n l ops r
inductive BoomOk (c : Cx) (d : List Deferred) (l : Ko) (L : Jj) (X : XP) (ops : List Oper) (tv : Ko) : Ko → Prop
  | nil : BoomOk c d l L X ops tv []
  | cons {j : Nat} {v : Value} {o : Oper} {ds rest : Ko} (h1 : W1 ops j = some o) (h2 : Jde ops tv j = ds) (h3 : J9 c d (ds ++ l) L X o v) (h : BoomOk c d l L X ops tv rest) : BoomOk c d l L X ops tv ((j, v) :: rest)
theorem BoomOk.get {l : Ko} {ops : List Oper} : ∀ {tw : Ko}, BoomOk c d l L X ops tv tw → ∀ p ∈ tw, ∃ o, W1 ops p.1 = some o ∧ J9 c d (Jde ops tv p.1 ++ l) L X o p.2
 | _, .nil, p, h => by cases h
 | _, .cons h1 h2 h3 h, p, hp => by
  rcases List.mem_cons.1 hp with rfl | hp
  ·exact ⟨_, h1, h2 ▸ h3⟩
  ·exact h.get p hp
theorem yh : ∀ {tv : Ko} {i : Nat} {v : Value}, Jas tv i = some v → (i, v) ∈ tv
 | [], _, _, h => by cases h
 | (j, u) :: l, i, v, h => by
  rw [Jas] at h
  split at h
  ·rename_i e
   obtain rfl := Nat.eq_of_beq_eq_true e
   cases h; exact List.mem_cons_self
  ·exact List.mem_cons_of_mem _ (yh h)
theorem Joa {d l : Ko} (h : Vu (d ++ l) i = some v) : (i, v) ∈ d ∨ Vu l i = some v := by
 induction d with
 | nil => exact .inr h
 | cons x xs ih =>
  obtain ⟨j, u⟩ := x
  rw [List.cons_append, Vu] at h
  split at h
  ·rename_i e
   obtain rfl := Nat.eq_of_beq_eq_true e
   cases h; exact .inl List.mem_cons_self
  ·exact (ih h).imp (List.mem_cons_of_mem _) id
theorem jw {ops : List Oper} {tv : Ko} : ∀ {es : List Edge} {i : Nat} {v : Value}, (i, v) ∈ yg ops tv es → ∃ e ∈ es, Zq ops e.on = some i ∧ (e.on, v) ∈ tv
 | [], _, _, h => by cases h
 | e :: es, i, v, h => by
  rw [yg] at h
  split at h
  ·rename_i i' v' h1 h2
   rcases List.mem_cons.1 h with e1 | h
   ·cases e1; exact ⟨e, List.mem_cons_self, h1, yh h2⟩
   ·obtain ⟨e', h3, h4⟩ := jw h; exact ⟨e', List.mem_cons_of_mem _ h3, h4⟩
  ·obtain ⟨e', h3, h4⟩ := jw h; exact ⟨e', List.mem_cons_of_mem _ h3, h4⟩
theorem yj {n : Nat} {l : Ko} {ops : List Oper} : ∀ {P : List Nat}, Zr n l ops P = true → ∀ j ∈ P, ∃ i, Zq ops j = some i ∧ i < n ∧ Vu l i = none
 | [], _, j, h => by cases h
 | k :: r, h, j, hj => by
  rw [Zr, Bool.and_eq_true] at h
  rcases List.mem_cons.1 hj with rfl | hj
  ·have h1 := h.1
   split at h1
   ·rename_i i hi
    simp only [Bool.and_eq_true] at h1
    have h2 := h1.1.2
    split at h2
    ·cases h2
    ·rename_i h3
     exact ⟨i, hi, by have := h1.1.1; simpa using this, h3⟩
   ·cases h1
  ·exact yj h.2 j hj
theorem zK {n : Nat} {l : Ko} {ops : List Oper} : ∀ {P : List Nat}, Zr n l ops P = true → ∀ j ∈ P, ∀ j' ∈ P, j ≠ j' → ∀ i i', Zq ops j = some i → Zq ops j' = some i' → i ≠ i'
 | [], _, j, h, _, _, _, _, _, _, _ => by cases h
 | k :: r, h, j, hj, j', hj', hne, i, i', hi, hi' => by
  rw [Zr, Bool.and_eq_true] at h
  have key : ∀ x ∈ r, ∀ i i', Zq ops k = some i → Zq ops x = some i' → i ≠ i' := fun x hx i i' hi hi' => by
   have h1 := h.1
   rw [hi] at h1
   simp only [Bool.and_eq_true] at h1
   have h2 := List.all_eq_true.1 h1.2 x hx
   rw [hi'] at h2
   simp only [Bool.not_eq_true'] at h2
   intro e
   rw [e, Nat.beq_refl] at h2
   cases h2
  rcases List.mem_cons.1 hj with rfl | hjr
  ·rcases List.mem_cons.1 hj' with rfl | hjs
   ·exact absurd rfl hne
   ·exact key j' hjs i i' hi hi'
  ·rcases List.mem_cons.1 hj' with rfl | hjs
   ·exact fun e => key j hjr i' i hi' hi e.symm
   ·exact zK h.2 j hjr j' hjs hne i i' hi hi'
theorem qb {n : Nat} {l : Ko} {ops : List Oper} : ∀ {P : List Nat}, Zr n l ops P = true → P.Nodup
 | [], _ => List.nodup_nil
 | k :: r, h => by
  rw [Zr, Bool.and_eq_true] at h
  refine List.nodup_cons.2 ⟨fun hm => ?_, qb h.2⟩
  have h1 := h.1
  split at h1
  ·rename_i i hi
   simp only [Bool.and_eq_true] at h1
   have h2 := List.all_eq_true.1 h1.2 k hm
   rw [hi] at h2
   simp at h2
  ·cases h1
theorem Job (h : (tv.map (·.1)).Nodup) {p q : Nat × Value} (hp : p ∈ tv) (hq : q ∈ tv) (e : q.1 = p.1) : q.2 = p.2 := by
 induction tv with
 | nil => cases hp
 | cons x xs ih =>
  rw [List.map_cons, List.nodup_cons] at h
  rcases List.mem_cons.1 hp with rfl | hpr
  ·rcases List.mem_cons.1 hq with rfl | hqr
   ·rfl
   ·exact absurd (List.mem_map.2 ⟨q, hqr, e⟩) h.1
  ·rcases List.mem_cons.1 hq with rfl | hqr
   ·exact absurd (List.mem_map.2 ⟨p, hpr, e.symm⟩) h.1
   ·exact ih h.2 hpr hqr
theorem yl {f g : Nat → Bool} (hfg : ∀ j, g j = true → f j = true) : ∀ P : List Nat, (P.filter g).length ≤ (P.filter f).length
 | [] => Nat.le_refl _
 | x :: xs => by
  have := yl hfg xs
  by_cases hg : g x = true
  ·rw [List.filter_cons_of_pos hg, List.filter_cons_of_pos (hfg x hg)]; simpa using this
  ·rw [List.filter_cons_of_neg hg]
   by_cases hf : f x = true
   ·rw [List.filter_cons_of_pos hf]; simp; omega
   ·rw [List.filter_cons_of_neg hf]; exact this
theorem ym {f g : Nat → Bool} (hfg : ∀ j, g j = true → f j = true) {i : Nat} (h1 : f i = true) (h2 : g i = false) : ∀ {P : List Nat}, i ∈ P → (P.filter g).length < (P.filter f).length
 | [], h => by cases h
 | x :: xs, h => by
  by_cases hx : x = i
  ·subst hx
   rw [List.filter_cons_of_neg (by rw [h2]; simp), List.filter_cons_of_pos h1]
   have := yl hfg xs
   simp; omega
  ·have ih := ym hfg h1 h2 (P := xs) (by rcases List.mem_cons.1 h with e | h; exact absurd e.symm hx; exact h)
   by_cases hg : g x = true
   ·rw [List.filter_cons_of_pos hg, List.filter_cons_of_pos (hfg x hg)]; simpa using ih
   ·rw [List.filter_cons_of_neg hg]
    by_cases hf : f x = true
    ·rw [List.filter_cons_of_pos hf]; simp; omega
    ·rw [List.filter_cons_of_neg hf]; exact ih
theorem Jig {l : Ko} {ops : List Oper} (tv : Ko) (k : Nat) {ok : Oper} {P : List Nat} {dk : Ko} (hm : c.P.follows .mixedOrders = true) (hP : tv.map (·.1) = P) (hB : Jvl ops P k = true)
  (hf : Zr c.n l ops P = true) (hr : BoomOk c d l L X ops tv tv) (hk : W1 ops k = some ok) (hdk : Jde ops tv k = dk)
  (hp : ∀ (next : Act → World → Prop) a w, Fr c.n d (dk ++ l) a → St c L X w → ok.uponIn (FW c.ro) 0 c.P a next Q ((execOp a.eval ok).run c.P w)) : HC c d l L X (.region id ops.toArray true) Q := fun a w hfr hs => by
 subst hdk
 simp only [Jvl, Bool.and_eq_true] at hB
 obtain ⟨⟨⟨⟨⟨b1, b2⟩, b3⟩, b4⟩, b5⟩, b6⟩ := hB
 have b2' : k < ops.length := by simpa using b2
 have b3' : k ∉ P := by simpa using b3
 have b4' : P.length < ops.length := by simpa using b4
 have toArr : ∀ {j : Nat} {o : Oper}, W1 ops j = some o → ops.toArray[j]? = some o := fun {j o} h => by rw [Vd] at h; simpa using h
 have op5 : ∀ j, j = k ∨ j ∈ P → ∃ o, W1 ops j = some o ∧ Kx o.op = true ∧ o.guard = none ∧ ∀ e ∈ o.after, Region.binds .any e = true → e.on ∈ P ∧ e.on < j := fun j hj => by
  have h1 := List.all_eq_true.1 b5 j (by rcases hj with rfl | hj; exact List.mem_cons_self; exact List.mem_cons_of_mem _ hj)
  split at h1
  rename_i o ho
  simp only [Bool.and_eq_true] at h1
  refine ⟨o, ho, h1.1.1, by simpa using h1.1.2, fun e he hb => ?_⟩
  have h2 := h1.2
  rw [Array.all_eq_true_iff_forall_mem] at h2
  have h3 := h2 e he
  rw [hb] at h3
  simpa using h3
  cases h1
 have op6 : ∀ j o, W1 ops j = some o → j ∉ P → j ≠ k → ∃ e ∈ o.after, Region.binds .any e = true ∧ e.on ∉ P := fun j o ho hj hjk => by
  have hjl : j < ops.length := by rw [Vd] at ho; exact (List.getElem?_eq_some_iff.1 ho).1
  have h1 := List.all_eq_true.1 b6 j (List.mem_range.2 hjl)
  rw [ho] at h1
  have e1 : P.contains j = false := by simpa using hj
  have e2 : Nat.beq j k = false := by rw [Bool.eq_false_iff]; exact fun h => hjk (Nat.eq_of_beq_eq_true h)
  rw [e1, e2] at h1
  simp only [Bool.false_or] at h1
  obtain ⟨q, hq, h2⟩ := Array.any_eq_true.1 h1
  have he := Array.getElem_mem hq
  generalize o.after[q] = e at he h2
  simp only [Bool.and_eq_true, Bool.not_eq_true'] at h2
  exact ⟨e, he, h2.1, by simpa using h2.2⟩
 -- what holds on the way
 let Inv : Array Bool → Act → Prop := fun listed a => listed.size = ops.length ∧ (∀ j, listed.getD j false = true → j ∈ P) ∧ Fr c.n d l a ∧ ∀ p ∈ tv, listed.getD p.1 false = true → ∀ i, Zq ops p.1 = some i → a.tmps[i]? = some p.2
 have both : ∀ {listed : Array Bool} {j : Nat}, listed.size = ops.length → j < ops.length → listed.getD j true = listed.getD j false := fun {listed j} h1 h2 => by
  simp [Array.getD, h1, h2]
 have rdy : ∀ {listed : Array Bool} {a : Act}, Inv listed a → ∀ N j, j ≤ N → (j = k ∨ j ∈ P) → listed.getD j false = false → ∃ i, i ∈ Region.ready .any ops.toArray listed := fun {listed a} hi N => by
  induction N with
  | zero =>
   intro j hj hjP hun
   obtain ⟨o, ho, _, _, hdep⟩ := op5 j hjP
   have hjl : j < ops.length := by rw [Vd] at ho; exact (List.getElem?_eq_some_iff.1 ho).1
   exact ⟨j, mem_ready.2 ⟨by rw [both hi.1 hjl]; exact hun, o, toArr ho, fun e he hb => by have := (hdep e he hb).2; omega⟩⟩
  | succ N ih =>
   intro j hj hjP hun
   obtain ⟨o, ho, _, _, hdep⟩ := op5 j hjP
   have hjl : j < ops.length := by rw [Vd] at ho; exact (List.getElem?_eq_some_iff.1 ho).1
   by_cases hall : ∀ e ∈ o.after, Region.binds .any e = true → listed.getD e.on false = true
   exact ⟨j, mem_ready.2 ⟨by rw [both hi.1 hjl]; exact hun, o, toArr ho, hall⟩⟩
   obtain ⟨e, he⟩ := Classical.not_forall.1 hall
   obtain ⟨he, h2⟩ := Classical.not_imp.1 he
   obtain ⟨hb, h3⟩ := Classical.not_imp.1 h2
   obtain ⟨h4, h5⟩ := hdep e he hb
   exact ih e.on m0 (.inr h4) (by simpa using h3)
 have frd : ∀ {listed : Array Bool} {a : Act} {j : Nat} {o : Oper}, Inv listed a → W1 ops j = some o → (∀ e ∈ o.after, Region.binds .any e = true → listed.getD e.on false = true) → Fr c.n d (Jde ops tv j ++ l) a := fun {listed a j o} hi ho hall => by
  refine ⟨hi.2.2.1.size, hi.2.2.1.defers, fun i v hv => ?_⟩
  rcases Joa hv with h | h
  unfold Jde at h
  rw [ho] at h
  obtain ⟨e, he, h1, h2⟩ := jw h
  rw [List.mem_filter] at he
  exact hi.2.2.2 (e.on, v) h2 (hall e (by simpa using he.1) he.2) i h1
  exact hi.2.2.1.slots i v h
 have main : ∀ (f : Nat) (listed : Array Bool) (a : Act) (w : World), Inv listed a → St c L X w → (P.filter fun j => !listed.getD j false).length ≤ f → wpAnyIn (FW c.ro) 0 c.P .any ops.toArray Q (f + 1) listed a w := by
  intro f
  induction f with
  | zero =>
   intro listed a w hi hs hcnt
   have hku : listed.getD k false = false := by
    cases h : listed.getD k false with
    | false => rfl
    | true => exact absurd (hi.2.1 k h) b3'
   refine ⟨fun h0 => ?_, fun i hir => ?_⟩
   obtain ⟨i, hir⟩ := rdy hi k k (Nat.le_refl _) (.inl rfl) hku
   rw [h0] at hir; cases hir
   obtain ⟨hun, o, ho, hall⟩ := mem_ready.1 hir
   have hil : i < ops.length := by have := (Array.getElem?_eq_some_iff.1 ho).1; simpa using this
   have ho' : W1 ops i = some o := by rw [Vd]; simpa using ho
   by_cases hik : i = k
   subst hik
   rw [hk] at ho'
   cases ho'
   obtain ⟨o2, g1, g2, g3, _⟩ := op5 i (.inl rfl)
   rw [hk] at g1; cases g1
   exact G4
   by_cases hiP : i ∈ P
   have h1 : listed.getD i false = false := by rw [← both hi.1 hil]; exact hun
   have : i ∈ P.filter fun j => !listed.getD j false := List.mem_filter.2 ⟨hiP, by rw [h1]; rfl⟩
   rw [List.length_eq_zero_iff.1 (Nat.le_zero.1 hcnt)] at this
   cases this
   exact HP
  | succ f ih =>
   intro listed a w hi hs hcnt
   have hku : listed.getD k false = false := by
    cases h : listed.getD k false with
    | false => rfl
    | true => exact absurd (hi.2.1 k h) b3'
   refine ⟨fun h0 => ?_, fun i hir => ?_⟩
   obtain ⟨i, hir⟩ := rdy hi k k (Nat.le_refl _) (.inl rfl) hku
   rw [h0] at hir; cases hir
   ·obtain ⟨hun, o, ho, hall⟩ := mem_ready.1 hir
    have hil : i < ops.length := by have := (Array.getElem?_eq_some_iff.1 ho).1; simpa using this
    have ho' : W1 ops i = some o := by rw [Vd]; simpa using ho
    by_cases hik : i = k
    subst hik
    rw [hk] at ho'
    cases ho'
    obtain ⟨o2, g1, g2, g3, _⟩ := op5 i (.inl rfl)
    rw [hk] at g1; cases g1
    exact G4
    ·by_cases hiP : i ∈ P
     ·have h1 : listed.getD i false = false := by rw [← both hi.1 hil]; exact hun
      rw [← hP] at hiP
      obtain ⟨p, hpm, rfl⟩ := List.mem_map.1 hiP
      rw [hP] at hiP
      obtain ⟨o2, g1, hrun⟩ := hr.get p hpm
      rw [ho'] at g1; cases g1
      obtain ⟨o3, g2, g3, g4, _⟩ := op5 p.1 (.inr hiP)
      rw [ho'] at g2; cases g2
      obtain ⟨dst, f1, f2, f3⟩ := yj hf p.1 hiP
      have f1' : o.dst = some dst := by unfold Zq at f1; rw [ho'] at f1; exact f1
      unfold wpOpIn
      simp only [ho]
      rw [if_pos (by unfold Region.wanted; rw [g4])]
      refine ⟨Qa, ?_⟩
      rw [Oper.semAt_eq _ _ _ (W6 g3), hrun a w (frd hi ho' hall) hs, Oper.uponIn_value, f1']
      refine ih _ _ w ⟨by simp [hi.1], fun j hj => ?_, ?_, fun q hq hlq i' hi' => ?_⟩ hs ?_
      by_cases hjp : j = p.1
      rw [hjp]; exact hiP
      refine hi.2.1 j ?_
      have e1 : (listed.setIfInBounds p.1 true).getD j false = listed.getD j false := getD_set_ne false (fun e => hjp e.symm)
      rw [← e1]; exact hj
      refine ⟨by simp [Act.put, hi.2.2.1.size], by simp [Act.put, hi.2.2.1.defers], fun i2 v2 hv2 => ?_⟩
      have hne : dst ≠ i2 := fun e => by rw [e, hv2] at f3; cases f3
      simp only [Act.put, Array.getElem?_setIfInBounds, if_neg hne]
      exact hi.2.2.1.slots i2 v2 hv2
      ·by_cases hqp : q.1 = p.1
       have e1 : i' = dst := by rw [hqp, f1] at hi'; exact (Option.some.inj hi').symm
       subst e1
       have e2 : q.2 = p.2 := by
        exact Job (by rw [hP]; exact qb hf) hpm hq hqp
       simp only [Act.put, Array.getElem?_setIfInBounds, if_true, hi.2.2.1.size, f2, e2]
       ·have e1 : (listed.setIfInBounds p.1 true).getD q.1 false = listed.getD q.1 false := getD_set_ne false (fun e => hqp e.symm)
        rw [e1] at hlq
        have hne : dst ≠ i' := zK hf p.1 hiP q.1 (by rw [← hP]; exact List.mem_map_of_mem (f := (·.1)) hq) (fun e => hqp e.symm) _ _ f1 hi'
        simp only [Act.put, Array.getElem?_setIfInBounds, if_neg hne]
        exact hi.2.2.2 q hq hlq i' hi'
      have hlt := ym (f := fun j => !listed.getD j false) (g := fun j => !(listed.setIfInBounds p.1 true).getD j false) (fun j hj => by
       by_cases hjp : j = p.1
       subst hjp
       simp [Array.getD, hi.1, hil] at hj
       rw [getD_set_ne false (fun e => hjp e.symm)] at hj; exact hj) (i := p.1) (by rw [h1]; rfl) (by simp [Array.getD, hi.1, hil]) hiP
      omega
     exact HP
 refine wpIn_region_any hm ?_
 have hsz : ops.toArray.size = (ops.length - 1) + 1 := by simp; omega
 rw [hsz]
 refine main _ _ a _ ⟨by simp; omega, fun j hj => ?_, hfr, fun p _ hlp => ?_⟩ ME ?_
 rw [getD_replicate_false] at hj; cases hj
 rw [getD_replicate_false] at hlp; cases hlp
 ·have := List.length_filter_le (fun j => !(Array.replicate ((ops.length - 1) + 1) false).getD j false) P
  omega
end Go.SL
namespace Go.Proofs.YteceenlfegnigaaGreatDoor
set_option linter.all false
open Go.SL Go.RowKit Go.Shelf
variable {a : AcL} {cs : Array Value} {s : BS} {g : FuncId} {L' R : Jj} {xs : List (BS × BS)} {l' : List Bool} {sp vs : List Value} {m' : List Vl} {B b c cap d e i j m r sz : Nat} {f : Operand} {pb pi : Pl} {t x : Ty} {q : Ty × Nat × Nat} {α : Type} {row : Vg} {y z : Vl} {w : World}
theorem Jwt : Go.Proofs.Enters Tryz.prog 16 := Go.Proofs.enters_of Tryz.func16 m5 rfl
theorem Jkv : Go.Proofs.Enters Tryz.prog 19 := Go.Proofs.enters_of Tryz.func19 m5 rfl
theorem Jwu : Go.Proofs.Enters Tryz.prog 37 := Go.Proofs.enters_of Tryz.func37 m5 rfl
theorem Jsy : Go.Proofs.Enters Tryz.prog 39 := Go.Proofs.enters_of Tryz.func39 m5 rfl
theorem Jwv : Go.Proofs.Enters Tryz.prog 40 := Go.Proofs.enters_of Tryz.func40 m5 rfl
theorem Jww : Go.Proofs.Enters Tryz.prog 42 := Go.Proofs.enters_of Tryz.func42 m5 rfl
theorem Jsz : Go.Proofs.Enters Tryz.prog 48 := Go.Proofs.enters_of Tryz.func48 m5 rfl
theorem Jwx : Go.Proofs.Enters Tryz.prog 53 := Go.Proofs.enters_of Tryz.func53 m5 rfl
theorem Js0 : Go.Proofs.Enters Tryz.prog 62 := Go.Proofs.enters_of Tryz.func62 m5 rfl
theorem Js1 : Go.Proofs.Enters Tryz.prog 64 := Go.Proofs.enters_of Tryz.func64 m5 rfl
theorem Jwy : Go.Proofs.Enters Tryz.prog 69 := Go.Proofs.enters_of Tryz.func69 m5 rfl
theorem Jwz : Go.Proofs.Enters Tryz.prog 77 := Go.Proofs.enters_of Tryz.func77 m5 rfl
theorem Jw0 : Go.Proofs.Enters Tryz.prog 78 := Go.Proofs.enters_of Tryz.func78 m5 rfl
theorem Js2 : Go.Proofs.Enters Tryz.prog 79 := Go.Proofs.enters_of Tryz.func79 m5 rfl
theorem Joc : Go.Proofs.Enters Tryz.prog 80 := Go.Proofs.enters_of Tryz.func80 m5 rfl
theorem Js3 : Go.Proofs.Enters Tryz.prog 83 := Go.Proofs.enters_of Tryz.func83 m5 rfl
theorem Js4 : Go.Proofs.Enters Tryz.prog 85 := Go.Proofs.enters_of Tryz.func85 m5 rfl
theorem Jw1 : Go.Proofs.Enters Tryz.prog 93 := Go.Proofs.enters_of Tryz.func93 m5 rfl
theorem jk : Go.Proofs.Enters Tryz.prog 94 := Go.Proofs.enters_of Tryz.func94 m5 rfl
theorem Jod : Go.Proofs.Enters Tryz.prog 95 := Go.Proofs.enters_of Tryz.func95 m5 rfl
theorem Js5 : Go.Proofs.Enters Tryz.prog 97 := Go.Proofs.enters_of Tryz.func97 m5 rfl
theorem Jih : Go.Proofs.Enters Tryz.prog 101 := Go.Proofs.enters_of Tryz.func101 m5 rfl
theorem Joe : Go.Proofs.Enters Tryz.prog 103 := Go.Proofs.enters_of Tryz.func103 m5 rfl
theorem Jof : Go.Proofs.Enters Tryz.prog 113 := Go.Proofs.enters_of Tryz.func113 m5 rfl
theorem Jog : Go.Proofs.Enters Tryz.prog 114 := Go.Proofs.enters_of Tryz.func114 m5 rfl
theorem Jii : Go.Proofs.Enters Tryz.prog 115 := Go.Proofs.enters_of Tryz.func115 m5 rfl
theorem Joh : Go.Proofs.Enters Tryz.prog 122 := Go.Proofs.enters_of Tryz.func122 m5 rfl
theorem zM : Go.Proofs.Enters Tryz.prog 123 := Go.Proofs.enters_of Tryz.func123 m5 rfl
theorem Joi : Go.Proofs.Enters Tryz.prog 129 := Go.Proofs.enters_of Tryz.func129 m5 rfl
theorem Jij : Go.Proofs.Enters Tryz.prog 134 := Go.Proofs.enters_of Tryz.func134 m5 rfl
theorem Jdf : Go.Proofs.Enters Tryz.prog 140 := Go.Proofs.enters_of Tryz.func140 m5 rfl
theorem Joj : Go.Proofs.Enters Tryz.prog 142 := Go.Proofs.enters_of Tryz.func142 m5 rfl
theorem Jok : Go.Proofs.Enters Tryz.prog 143 := Go.Proofs.enters_of Tryz.func143 m5 rfl
theorem Jdg : Go.Proofs.Enters Tryz.prog 161 := Go.Proofs.enters_of Tryz.func161 m5 rfl
theorem Jol : Go.Proofs.Enters Tryz.prog 164 := Go.Proofs.enters_of Tryz.func164 m5 rfl
theorem Jik : Go.Proofs.Enters Tryz.prog 165 := Go.Proofs.enters_of Tryz.func165 m5 rfl
theorem Jdh : Go.Proofs.Enters Tryz.prog 174 := Go.Proofs.enters_of Tryz.func174 m5 rfl
theorem Jom : Go.Proofs.Enters Tryz.prog 175 := Go.Proofs.enters_of Tryz.func175 m5 rfl
theorem Jon : Go.Proofs.Enters Tryz.prog 181 := Go.Proofs.enters_of Tryz.func181 m5 rfl
theorem Joo : Go.Proofs.Enters Tryz.prog 186 := Go.Proofs.enters_of Tryz.func186 m5 rfl
theorem Jil : Go.Proofs.Enters Tryz.prog 197 := Go.Proofs.enters_of Tryz.func197 m5 rfl
theorem Jop : Go.Proofs.Enters Tryz.prog 204 := Go.Proofs.enters_of Tryz.func204 m5 rfl
theorem Jim : Go.Proofs.Enters Tryz.prog 209 := Go.Proofs.enters_of Tryz.func209 m5 rfl
theorem Jin : Go.Proofs.Enters Tryz.prog 210 := Go.Proofs.enters_of Tryz.func210 m5 rfl
theorem Joq : Go.Proofs.Enters Tryz.prog 212 := Go.Proofs.enters_of Tryz.func212 m5 rfl
theorem Jor : Go.Proofs.Enters Tryz.prog 230 := Go.Proofs.enters_of Tryz.func230 m5 rfl
theorem Jdi : Go.Proofs.Enters Tryz.prog 248 := Go.Proofs.enters_of Tryz.func248 m5 rfl
theorem Jio : Go.Proofs.Enters Tryz.prog 250 := Go.Proofs.enters_of Tryz.func250 m5 rfl
theorem Jip : Go.Proofs.Enters Tryz.prog 273 := Go.Proofs.enters_of Tryz.func273 m5 rfl
theorem Jiq : Go.Proofs.Enters Tryz.prog 282 := Go.Proofs.enters_of Tryz.func282 m5 rfl
theorem Jf9 {k n : Int} {p : Pl} {ins : List Ty} (ht : Ty.In R (.mk k n p ins)) : PureR Tryz.prog 187 [Ty.val (.mk k n p ins)].toArray (.bool (JG k n ins.length)) R := by
 cases ht with
 | mk hk hn hl hs hi =>
 refine Ja Tryz.func187 rfl rfl fun w => MX fun r1 => ?_; refine Goc 17 [0] rfl rfl (cD (fun g => ?_) fun g => ?_)
 ·refine G5 ?_
  refine Jp 11 rfl (fun gb => ?_) (fun gb => ?_) <;> (try simp only [ZZ] at gb) <;> first | (refine LR rfl (J5 rfl rfl rfl) ?_) | (refine LK rfl ?_)
  all_goals refine LW 3 [0] rfl rfl ?_
  all_goals first | refine LK rfl ?_ | (refine Jp 15 rfl (fun gb => ?_) (fun gb => ?_) <;> (try simp only [ZZ] at gb) <;> first | (refine LR rfl (J5 rfl rfl rfl) ?_) | (refine LK rfl ?_))
  all_goals refine GZ ?_
  all_goals first | refine LK rfl ?_ | (refine Jp 20 rfl (fun gb => ?_) (fun gb => ?_) <;> (try simp only [ZZ] at gb) <;> first | (refine LR rfl (J5 rfl rfl rfl) ?_) | (refine LK rfl ?_))
  all_goals refine GZ ?_
  all_goals first | refine LK rfl ?_ | (refine Jp 25 rfl (fun gb => ?_) (fun gb => ?_) <;> (try simp only [ZZ] at gb) <;> first | (refine LR rfl (J5 rfl rfl rfl) ?_) | (refine LK rfl ?_))
  all_goals refine GZ ?_
  all_goals first | refine LK rfl ?_ | (refine Jp 30 rfl (fun gb => ?_) (fun gb => ?_) <;> (try simp only [ZZ] at gb) <;> first | (refine LR rfl (J5 rfl rfl rfl) ?_) | (refine LK rfl ?_))
  all_goals (
   refine LW 5 [0] rfl rfl (Jz 1 rfl (Yh 4 rfl ?_)); refine MW fun w1 hs1 => ?_
   unfold JG
   simp only [JC]
   simp_all
   all_goals first | done | rfl | omega | (rw [Bool.eq_iff_iff]; simp only [Bool.and_eq_true, decide_eq_true_eq]; omega)
   skip)
 ·refine Nv ?_; refine cD (fun g => ?_) fun g => ?_
  ·refine G5 ?_
   refine Jp 42 rfl (fun gb => ?_) (fun gb => ?_) <;> (try simp only [ZZ] at gb) <;> first | (refine LR rfl (J5 rfl rfl rfl) ?_) | (refine LK rfl ?_)
   all_goals (
    refine kD fun w1 hs1 => ?_
    simp_all
    all_goals first | done | rfl | omega | (rw [Bool.eq_iff_iff]; simp only [Bool.and_eq_true, decide_eq_true_eq]; omega)
    skip)
  ·refine JE 7 rfl (cD (fun g => ?_) fun g => ?_)
   ·refine JE 2 rfl (cD (fun g => ?_) fun g => ?_)
    ·refine G5 ?_
     refine Jp 54 rfl (fun gb => ?_) (fun gb => ?_) <;> (try simp only [ZZ] at gb) <;> first | (refine LR rfl (J5 rfl rfl rfl) ?_) | (refine LK rfl ?_)
     all_goals refine GZ ?_
     all_goals first | refine LK rfl ?_ | (refine Jp 59 rfl (fun gb => ?_) (fun gb => ?_) <;> (try simp only [ZZ] at gb) <;> first | (refine LR rfl (J5 rfl rfl rfl) ?_) | (refine LK rfl ?_))
     all_goals (
      refine kD fun w1 hs1 => ?_
      simp_all
      first | done | rfl | omega | (rw [Bool.eq_iff_iff]; simp only [Bool.and_eq_true, decide_eq_true_eq]; omega)
      skip)
    ·refine JE 7 rfl (cD (fun g => ?_) fun g => ?_)
     ·refine JE 2 rfl (cD (fun g => ?_) fun g => ?_)
      ·refine G5 ?_
       refine Jp 71 rfl (fun gb => ?_) (fun gb => ?_) <;> (try simp only [ZZ] at gb) <;> first | (refine LR rfl (J5 rfl rfl rfl) ?_) | (refine LK rfl ?_)
       all_goals refine GZ ?_
       all_goals first | refine LK rfl ?_ | (refine Jp 76 rfl (fun gb => ?_) (fun gb => ?_) <;> (try simp only [ZZ] at gb) <;> first | (refine LR rfl (J5 rfl rfl rfl) ?_) | (refine LK rfl ?_))
       all_goals (
        refine kD fun w1 hs1 => ?_
        simp_all
        skip)
      ·refine Nv ?_; refine cD (fun g => ?_) fun g => ?_
       ·refine Hi ?_
        refine Jp 86 rfl (fun gb => ?_) (fun gb => ?_) <;> (try simp only [ZZ] at gb) <;> first | (refine LR rfl (J5 rfl rfl rfl) ?_) | (refine LK rfl ?_)
        all_goals refine gD ?_
        all_goals first | refine LK rfl ?_ | (refine Jp 92 rfl (fun gb => ?_) (fun gb => ?_) <;> (try simp only [ZZ] at gb) <;> first | (refine LR rfl (J5 rfl rfl rfl) ?_) | (refine LK rfl ?_))
        all_goals refine N3 ?_
        all_goals (
         refine Gg fun w1 hs1 => ?_
         simp_all
         skip)
       ·refine QZ 9 [0] rfl rfl ?_
        refine Jp 101 rfl (fun gb => ?_) (fun gb => ?_) <;> (try simp only [ZZ] at gb) <;> first | (refine LR rfl (J5 rfl rfl rfl) ?_) | (refine LK rfl ?_)
        all_goals refine gD ?_
        all_goals first | refine LK rfl ?_ | (refine Jp 107 rfl (fun gb => ?_) (fun gb => ?_) <;> (try simp only [ZZ] at gb) <;> first | (refine LR rfl (J5 rfl rfl rfl) ?_) | (refine LK rfl ?_))
        all_goals refine N3 ?_
        all_goals (
         refine gG fun w1 hs1 => ?_
         unfold JG
         simp only [JC]
         simp_all
         skip)
     ·refine kX ?_; refine cD (fun g => ?_) fun g => ?_
      ·refine G5 ?_
       refine Jp 71 rfl (fun gb => ?_) (fun gb => ?_) <;> (try simp only [ZZ] at gb) <;> first | (refine LR rfl (J5 rfl rfl rfl) ?_) | (refine LK rfl ?_)
       all_goals refine GZ ?_
       all_goals first | refine LK rfl ?_ | (refine Jp 76 rfl (fun gb => ?_) (fun gb => ?_) <;> (try simp only [ZZ] at gb) <;> first | (refine LR rfl (J5 rfl rfl rfl) ?_) | (refine LK rfl ?_))
       all_goals (
        refine kD fun w1 hs1 => ?_
        simp_all
        skip)
      ·refine Nv ?_; refine cD (fun g => ?_) fun g => ?_
       ·refine Hi ?_
        refine Jp 86 rfl (fun gb => ?_) (fun gb => ?_) <;> (try simp only [ZZ] at gb) <;> first | (refine LR rfl (J5 rfl rfl rfl) ?_) | (refine LK rfl ?_)
        all_goals refine gD ?_
        all_goals first | refine LK rfl ?_ | (refine Jp 92 rfl (fun gb => ?_) (fun gb => ?_) <;> (try simp only [ZZ] at gb) <;> first | (refine LR rfl (J5 rfl rfl rfl) ?_) | (refine LK rfl ?_))
        all_goals refine N3 ?_
        all_goals (
         refine Gg fun w1 hs1 => ?_
         simp_all
         skip)
       ·refine QZ 9 [0] rfl rfl ?_
        refine Jp 101 rfl (fun gb => ?_) (fun gb => ?_) <;> (try simp only [ZZ] at gb) <;> first | (refine LR rfl (J5 rfl rfl rfl) ?_) | (refine LK rfl ?_)
        all_goals refine gD ?_
        all_goals first | refine LK rfl ?_ | (refine Jp 107 rfl (fun gb => ?_) (fun gb => ?_) <;> (try simp only [ZZ] at gb) <;> first | (refine LR rfl (J5 rfl rfl rfl) ?_) | (refine LK rfl ?_))
        all_goals refine N3 ?_
        all_goals (
         refine gG fun w1 hs1 => ?_
         unfold JG
         simp only [JC]
         simp_all
         skip)
   ·refine kX ?_; refine cD (fun g => ?_) fun g => ?_
    ·refine G5 ?_
     refine Jp 54 rfl (fun gb => ?_) (fun gb => ?_) <;> (try simp only [ZZ] at gb) <;> first | (refine LR rfl (J5 rfl rfl rfl) ?_) | (refine LK rfl ?_)
     all_goals refine GZ ?_
     all_goals first | refine LK rfl ?_ | (refine Jp 59 rfl (fun gb => ?_) (fun gb => ?_) <;> (try simp only [ZZ] at gb) <;> first | (refine LR rfl (J5 rfl rfl rfl) ?_) | (refine LK rfl ?_))
     all_goals (
      refine kD fun w1 hs1 => ?_
      simp_all
      first | done | rfl | omega | (rw [Bool.eq_iff_iff]; simp only [Bool.and_eq_true, decide_eq_true_eq]; omega)
      skip)
    ·refine JE 7 rfl (cD (fun g => ?_) fun g => ?_)
     ·refine JE 2 rfl (cD (fun g => ?_) fun g => ?_)
      ·refine G5 ?_
       refine Jp 71 rfl (fun gb => ?_) (fun gb => ?_) <;> (try simp only [ZZ] at gb) <;> first | (refine LR rfl (J5 rfl rfl rfl) ?_) | (refine LK rfl ?_)
       all_goals refine GZ ?_
       all_goals first | refine LK rfl ?_ | (refine Jp 76 rfl (fun gb => ?_) (fun gb => ?_) <;> (try simp only [ZZ] at gb) <;> first | (refine LR rfl (J5 rfl rfl rfl) ?_) | (refine LK rfl ?_))
       all_goals (
        refine kD fun w1 hs1 => ?_
        simp_all
        all_goals first | done | rfl | omega | (rw [Bool.eq_iff_iff]; simp only [Bool.and_eq_true, decide_eq_true_eq]; omega)
        skip)
      ·refine Nv ?_; refine cD (fun g => ?_) fun g => ?_
       ·refine Hi ?_
        refine Jp 86 rfl (fun gb => ?_) (fun gb => ?_) <;> (try simp only [ZZ] at gb) <;> first | (refine LR rfl (J5 rfl rfl rfl) ?_) | (refine LK rfl ?_)
        all_goals refine gD ?_
        all_goals first | refine LK rfl ?_ | (refine Jp 92 rfl (fun gb => ?_) (fun gb => ?_) <;> (try simp only [ZZ] at gb) <;> first | (refine LR rfl (J5 rfl rfl rfl) ?_) | (refine LK rfl ?_))
        all_goals refine N3 ?_
        all_goals (
         refine Gg fun w1 hs1 => ?_
         simp_all
         skip)
       ·refine QZ 9 [0] rfl rfl ?_
        refine Jp 101 rfl (fun gb => ?_) (fun gb => ?_) <;> (try simp only [ZZ] at gb) <;> first | (refine LR rfl (J5 rfl rfl rfl) ?_) | (refine LK rfl ?_)
        all_goals refine gD ?_
        all_goals first | refine LK rfl ?_ | (refine Jp 107 rfl (fun gb => ?_) (fun gb => ?_) <;> (try simp only [ZZ] at gb) <;> first | (refine LR rfl (J5 rfl rfl rfl) ?_) | (refine LK rfl ?_))
        all_goals refine N3 ?_
        all_goals (
         refine gG fun w1 hs1 => ?_
         unfold JG
         simp only [JC]
         simp_all
         skip)
     ·refine kX ?_; refine cD (fun g => ?_) fun g => ?_
      ·refine G5 ?_
       refine Jp 71 rfl (fun gb => ?_) (fun gb => ?_) <;> (try simp only [ZZ] at gb) <;> first | (refine LR rfl (J5 rfl rfl rfl) ?_) | (refine LK rfl ?_)
       all_goals refine GZ ?_
       all_goals first | refine LK rfl ?_ | (refine Jp 76 rfl (fun gb => ?_) (fun gb => ?_) <;> (try simp only [ZZ] at gb) <;> first | (refine LR rfl (J5 rfl rfl rfl) ?_) | (refine LK rfl ?_))
       all_goals (
        refine kD fun w1 hs1 => ?_
        simp_all
        all_goals first | done | rfl | omega | (rw [Bool.eq_iff_iff]; simp only [Bool.and_eq_true, decide_eq_true_eq]; omega)
        skip)
      ·refine Nv ?_; refine cD (fun g => ?_) fun g => ?_
       ·refine Hi ?_
        refine Jp 86 rfl (fun gb => ?_) (fun gb => ?_) <;> (try simp only [ZZ] at gb) <;> first | (refine LR rfl (J5 rfl rfl rfl) ?_) | (refine LK rfl ?_)
        all_goals refine gD ?_
        all_goals first | refine LK rfl ?_ | (refine Jp 92 rfl (fun gb => ?_) (fun gb => ?_) <;> (try simp only [ZZ] at gb) <;> first | (refine LR rfl (J5 rfl rfl rfl) ?_) | (refine LK rfl ?_))
        all_goals refine N3 ?_
        all_goals (
         refine Gg fun w1 hs1 => ?_
         simp_all
         all_goals first | done | rfl | omega | (rw [Bool.eq_iff_iff]; simp only [Bool.and_eq_true, decide_eq_true_eq]; omega)
         skip)
       ·refine QZ 9 [0] rfl rfl ?_
        refine Jp 101 rfl (fun gb => ?_) (fun gb => ?_) <;> (try simp only [ZZ] at gb) <;> first | (refine LR rfl (J5 rfl rfl rfl) ?_) | (refine LK rfl ?_)
        all_goals refine gD ?_
        all_goals first | refine LK rfl ?_ | (refine Jp 107 rfl (fun gb => ?_) (fun gb => ?_) <;> (try simp only [ZZ] at gb) <;> first | (refine LR rfl (J5 rfl rfl rfl) ?_) | (refine LK rfl ?_))
        all_goals refine N3 ?_
        all_goals (
         refine gG fun w1 hs1 => ?_
         unfold JG
         simp only [JC]
         simp_all
         all_goals first | done | rfl | omega | (rw [Bool.eq_iff_iff]; simp only [Bool.and_eq_true, decide_eq_true_eq]; omega)
         skip)
theorem Jdj (ht : t.In R) : ∀ d : Int, 0 ≤ d → d ≤ 1000 → PureR Tryz.prog 148 [t.val, .int .i64 d].toArray (.int .i64 (Va t d)) R := by
  induction ht with
  | @mk k n p ins hk hn hl hs hi ih =>
  intro d hd0 hd1
  have hform := Jf9 (.mk hk hn hl hs hi : Ty.In R (.mk k n p ins))
  refine Ja Tryz.func148 rfl rfl fun w => MX fun r1 => ?_; refine X6 10 [0] rfl rfl ?_
  refine Jp 11 rfl (fun gb => ?_) (fun gb => ?_) <;> (try simp only [ZZ] at gb) <;> first | (refine LR rfl (J5 rfl rfl rfl) ?_) | (refine LK rfl ?_)
  all_goals (
   refine LW 3 [0] rfl rfl (Jz 1 rfl (Zj 1 rfl ?_)); refine JH rfl (fun g => ?_) (fun g => ?_)
   try simp only [ZZ] at g
   refine g8 fun w1 hs1 => ?_; rw [Va, if_pos m0]; rfl
   · try exact Bool.noConfusion g
     all_goals try simp only [ZZ] at g
     all_goals (
      refine Gx ?_; refine N2 ?_; refine Jb rfl rfl rfl (enters_of Tryz.func187 m5 rfl) hform oR (JQ 10 rfl (cD (fun g => ?_) fun g => ?_))
      refine g8 fun w1 hs1 => ?_; rw [Va, if_neg m0, if_pos m9]; rfl
      refine JE 9 rfl (cD (fun g => ?_) fun g => ?_)
      refine g8 fun w1 hs1 => ?_; rw [Va, if_neg m0, if_neg mz, if_pos m0]; rfl
      refine JE 9 rfl (Jy (σ := Nat) (fun i => i ≤ ins.length ∧ Xc (ins.drop i) (d + 1) = Xc ins (d + 1)) (fun i => [(1, .int .i64 d), (2, .pointer (some ⟨r1, 0, none⟩)), (6, .int .i64 (i : Int))]) (fun _ => [(r1, .cells #[.int .i64 k, .int .i64 n, Ky ins.length p] 76 (0, 0))]) (fun _ _ _ => True) (fun i => ins.length - i) 0 ⟨by omega, rfl⟩ (lK rfl) (List.Sublist.refl _) (fun _ _ h => h) ?_); rintro i ⟨hi1, hinv⟩; refine Hi ?_; refine Ni ?_; refine NR ?_; refine cD (fun g => ?_) fun g => ?_
      refine kX ?_
      obtain ⟨y, hy, hmem⟩ := Q0 nI
      rw [Yv hy, Xc] at hinv; refine kK ?_; refine NT ?_; refine NC ?_; refine Jh m0 m0 (Jb rfl rfl rfl (enters_of Tryz.func148 m5 rfl) (ih y hmem (d + 1) m0 m0) oR (HW ?_)); refine cD (fun g => ?_) fun g => ?_
      refine GR fun w1 hs1 => ?_; rw [Va, if_neg m0, if_neg mz, if_neg m0, ← hinv, if_neg m9]; rfl
      refine gY ?_; refine N0 ?_; exact Jr (i + 1) ⟨by omega, by rw [if_pos m9] at hinv; exact hinv⟩ m0 (lK rfl) (List.Sublist.refl _) (fun _ _ h => h)
      refine kd fun w1 hs1 => ?_; rw [Va, if_neg m0, if_neg mz, if_neg m0, ← hinv, List.drop_of_length_le m0, Xc]; rfl
      skip)
   skip)
theorem vj (ht : t.In R) : PureR Tryz.prog 96 [t.val].toArray (.int .i64 (Va t 0)) R := by
 have h1 := Jdj ht 0 m0 m0
 obtain ⟨k, n, p, ins⟩ := t
 refine Ja Tryz.func96 rfl rfl fun w => kv fun r1 => ?_; refine Jb rfl rfl rfl (enters_of Tryz.func148 m5 rfl) h1 oR ?_; exact Nz
theorem Jdk (ht : t.In R) : PureR Tryz.prog 168 [t.val].toArray (.bool (VP t)) R := by
  induction ht with
  | @mk k n p ins hk hn hl hs hi ih =>
  refine Ja Tryz.func168 rfl rfl fun w => MX fun r1 => ?_; refine X6 10 [0] rfl rfl ?_
  refine Jp 7 rfl (fun gb => ?_) (fun gb => ?_) <;> (try simp only [ZZ] at gb) <;> first | (refine LR rfl (J5 rfl rfl rfl) ?_) | (refine LK rfl ?_)
  all_goals refine GZ ?_
  all_goals first | refine LK rfl ?_ | (refine Jp 12 rfl (fun gb => ?_) (fun gb => ?_) <;> (try simp only [ZZ] at gb) <;> first | (refine LR rfl (J5 rfl rfl rfl) ?_) | (refine LK rfl ?_))
  all_goals (
   refine LW 3 [0] rfl rfl (Jz 1 rfl (Zj 1 rfl ?_)); refine JH rfl (fun g => ?_) (fun g => ?_)
   · try simp only [ZZ] at g
     refine g8 fun w1 hs1 => ?_; rw [VP]
     simp_all [JC]; done
   · try exact Bool.noConfusion g
     all_goals try simp only [ZZ] at g
     all_goals (
      refine JE 9 rfl (Jy (σ := Nat) (fun i => i ≤ ins.length ∧ Yw (ins.drop i) = Yw ins) (fun i => [(1, .pointer (some ⟨r1, 0, none⟩)), (3, .int .i64 (i : Int))]) (fun _ => [(r1, .cells #[.int .i64 k, .int .i64 n, Ky ins.length p] 76 (0, 0))]) (fun _ _ _ => True) (fun i => ins.length - i) 0 ⟨by omega, rfl⟩ (lK rfl) (List.Sublist.refl _) (fun _ _ h => h) ?_); rintro i ⟨hi1, hinv⟩; refine Hi ?_; refine Ni ?_; refine NR ?_; refine cD (fun g => ?_) fun g => ?_
      · refine kX ?_
        obtain ⟨y, hy, hmem⟩ := Q0 nI
        rw [Yv hy, Yw] at hinv; refine kK ?_; refine NT ?_; refine Jb rfl rfl rfl (enters_of Tryz.func168 m5 rfl) (ih y hmem) oR (NR ?_); refine cD (fun g => ?_) fun g => ?_
        · refine kd fun w1 hs1 => ?_; rw [VP]
          simp_all [JC]; done
        refine gY ?_; refine N0 ?_; exact Jr (i + 1) ⟨by omega, by simp_all⟩ m0 (lK rfl) (List.Sublist.refl _) (fun _ _ h => h)
      · refine kd fun w1 hs1 => ?_; rw [VP]; rw [← hinv, List.drop_of_length_le m0, Yw]; simp_all [JC]; done
      skip)
   skip)
theorem Wl (ht : t.In R) : PureR Tryz.prog 123 [t.val].toArray (.bool (JA t)) R := by
 have h1 := vj ht
 have h2 := Jdk ht
 obtain ⟨k, n, p, ins⟩ := t
 refine Ja Tryz.func123 rfl rfl fun w => kv fun r1 => ?_; refine Jb rfl rfl rfl (enters_of Tryz.func96 m5 rfl) h1 oR (NC ?_)
 refine Jp 6 rfl (fun gb => ?_) (fun gb => ?_) <;> (try simp only [ZZ] at gb) <;> first | (refine LR rfl (Jo (vs := [_, _, _]) rfl (kn 0 rfl) rfl rfl rfl rfl) ?_) | (refine LK rfl ?_)
 all_goals first | (refine Jb rfl rfl rfl (enters_of Tryz.func168 m5 rfl) h2 oR ?_) | refine LK rfl ?_
 all_goals (
  refine NE fun w1 hs1 => ?_
  simp_all [JA, JC]
  skip)
theorem zN {k n : Int} {p : Pl} {ins : List Ty} (h1 : k ≠ 1) (h2 : k ≠ 2) (h5 : k ≠ 5) (h3 : k ≠ 3) : JO (.mk k n p ins) = V5 ins := by
 rw [JO, if_neg h1, if_neg h2, if_neg h5, if_neg h3]
theorem Jga (ht : t.In R) : ∀ d : Int, 0 ≤ d → Va t d = 0 → VP t = true → PureR Tryz.prog 181 [t.val].toArray (.int .i64 (JO t)) R := by
 induction ht with
 | @mk k n p ins hk hn hl hs hi ih =>
 intro d hd hc hf
 have hsz := jp _ d hd hc hf
 have hb5 := xT (show (5 - d).toNat ≤ 5 by omega)
 obtain ⟨hk8, ho, h6, hci⟩ := Qv hc
 rw [VP, Bool.and_eq_true] at hf
 have hne : (k ≠ 4 ∧ k ≠ 6) ∧ k ≠ 8 := by simpa using hf.1
 have hfi := Zm.1 hf.2
 have hsub : ∀ x ∈ ins, 1 ≤ JO x := fun x hx => (jp x (d + 1) m0 (hci x hx) (hfi x hx)).1
 have hone : k = 3 → ins.length = 1 ∧ 1 ≤ n ∧ n ≤ 512 := fun h => by subst h; simp [JG] at ho; omega
 have hbit : k = 5 → 1 ≤ n ∧ n ≤ 512 := fun h => by subst h; simp [JG] at ho; omega
 have hdp : ∀ i, 0 ≤ V5 (ins.drop i) := fun i => Int.le_trans m0 (vQ (B := 2251799813685248) (l := ins.drop i) fun x hx => ⟨hsub x (List.mem_of_mem_drop hx), Int.le_trans (jp x (d + 1) m0 (hci x (List.mem_of_mem_drop hx)) (hfi x (List.mem_of_mem_drop hx))).2 (xT m0)⟩).1
 refine Ja Tryz.func181 rfl rfl fun w => MX fun r1 => ?_; refine Goc 17 [0] rfl rfl (cD (fun g => ?_) fun g => ?_)
 refine Gcq 10 [0] rfl rfl (MW fun w1 hs1 => ?_); rw [JO, if_pos m9]; rfl
 ·refine Nv ?_; refine cD (fun g => ?_) fun g => ?_
  refine D9 fun w1 hs1 => ?_; rw [JO, if_neg m9, if_pos m9]; rfl
  ·refine Nv ?_; refine cD (fun g => ?_) fun g => ?_
   refine QZ 5 [0] rfl rfl (Jh m0 m0 (V7 rfl (Jfg m0 m0 m0 (Jz 6 rfl ?_)))); refine MW fun w1 hs1 => ?_; rw [JO, if_neg m9, if_neg m9, if_pos m9]; rfl
   ·refine Nv ?_; refine cD (fun g => ?_) fun g => ?_
    refine GL ?_
    obtain ⟨y, hy, hmem⟩ := Q0 (show 0 < ins.length by have := hone m9; omega)
    have hyn : JO (.mk k n p ins) = n * JO y := by
     have h1 := hone m9
     rw [JO, if_neg m0, if_neg m0, if_neg m0, if_pos m9, show ins = [y] from by
      match ins, h1.1, hy with
      | [z], _, hy => simp at hy; rw [hy], V5, V5, Int.add_zero]
    rw [hyn] at hsz; refine JX 9 m5 m5 ?_
    refine ke ?_
    refine ke ?_; refine Jc rfl rfl rfl (Jg (j := 0) rfl hs rfl rfl rfl rfl m0) (Jc rfl rfl rfl (Kj oR rfl hs hy rfl rfl) (WQ rfl rfl rfl Jon (ih y hmem (d + 1) m0 (hci y hmem) (hfi y hmem)) oR (N1 ?_))); refine Qc (show _ = Value.int .i64 (n * JO y) from congrArg (Value.int .i64) (wrap_i64 m0 m0)) (NW ?_); refine Ga ?_; refine MW fun w1 hs1 => ?_; rw [hyn]; rfl
    ·refine JE 15 rfl (Jy (σ := Nat × Int) (fun s => s.1 ≤ ins.length ∧ 0 ≤ s.2 ∧ s.2 + V5 (ins.drop s.1) = V5 ins) (fun s => [(1, .pointer (some ⟨r1, 0, none⟩)), (3, .int .i64 s.2), (4, .int .i64 (s.1 : Int))]) (fun _ => [(r1, .cells #[.int .i64 k, .int .i64 n, Ky ins.length p] 76 (0, 0))]) (fun _ _ _ => True) (fun s => ins.length - s.1) (0, 0) ⟨by omega, by omega, by simp⟩ (lK rfl) (List.Sublist.refl _) (fun _ _ h => h) ?_); rintro ⟨i, m⟩ ⟨hi1, hm, hinv⟩; simp only at hinv hi1 hm; refine Hi ?_; refine Ni ?_; refine NR ?_; refine cD (fun g => ?_) fun g => ?_
     refine JE 4 rfl ?_
     obtain ⟨y, hy, hmem⟩ := Q0 nI
     have hdi := hdp (i + 1)
     have hyp := hsub y hmem
     rw [Yv hy, V5] at hinv; rw [zN m0 m0 m0 m0] at hsz; refine QZ 5 [0] rfl rfl (NT ?_); refine Jb rfl rfl rfl Jon (ih y hmem (d + 1) m0 (hci y hmem) (hfi y hmem)) oR (V7 rfl (Jh m0 m0 (JK 7 rfl ?_))); refine N0 ?_; exact Jr (i + 1, m + JO y) ⟨by omega, by simp only; omega, by simp only; omega⟩ ml (lK rfl) (List.Sublist.refl _) (fun _ _ h => h)
     ·refine GR fun w1 hs1 => ?_; rw [zN m0 m0 m0 m0, ← hinv, List.drop_of_length_le m0, V5, Int.add_zero]; rfl
theorem Wm : JA t = true ↔ Va t 0 = 0 ∧ VP t = true := by unfold JA; simp
theorem XG (ht : t.In R) : PureR Tryz.prog 140 [t.val].toArray (.int .i64 (WR t)) R := by
 have h1 := Wl ht
 have h2 := Jga ht 0 m0
 obtain ⟨k, n, p, ins⟩ := t
 refine Ja Tryz.func140 rfl rfl fun w => MX fun r1 => ?_; refine Gc ?_; refine N2 ?_; refine Jb rfl rfl rfl zM h1 oR (NR ?_); refine cD (fun g => ?_) fun g => ?_
 refine g8 fun w1 hs1 => ?_
 simp_all [WR, JC]
 ·refine Gx ?_; refine N2 ?_; refine Jb rfl rfl rfl Jon (h2 (Wm.1 m9).1 (Wm.1 m9).2) oR (DG fun w1 hs1 => ?_)
  simp_all [WR, JC]
theorem Zs {a a' b' c' d' : Nat} {l : List Bool} {pb' pi' : Pl} {m : List Vl} {k k' : Int} : X9 (.mk a b c d l pb m pi k) (.mk a' b' c' d' l' pb' m' pi' k') = (decide ([a, b, c, d] = [a', b', c', d']) && decide (k = k') && decide (l = l') && Wi m m') := by
 rw [X9]; rfl
theorem Js6 {l : List Bool} {x y : Bool} (h1 : l[i]? = some x) (h2 : l'[i]? = some y) (h : x ≠ y) : l ≠ l' := fun e => by subst e; rw [h1] at h2; exact h (Option.some.inj h2)
theorem Js7 {l : List Bool} (hl : l.length = l'.length) (hi : l.length ≤ i) (h : ∀ j, j < i → l[j]? = l'[j]?) : l = l' := by
 apply List.ext_getElem?
 intro j
 by_cases hj : j < i
 ·exact h j hj
 ·rw [List.getElem?_eq_none m0, List.getElem?_eq_none m0]
theorem Js8 {m : List Vl} {x : Vl} (h1 : m[i]? = some x) (h2 : m'[i]? = some y) (h : X9 x y = false) : Wi m m' = false := by
 cases hs : Wi m m' with
 | false => rfl
 | true => rw [(WB.1 hs).2 i x y h1 h2] at h; cases h
theorem Js9 {m : List Vl} (h : m.length ≠ m'.length) : Wi m m' = false := by
 cases hs : Wi m m' with
 | false => rfl
 | true => exact absurd (WB.1 hs).1 h
theorem Y0 (n : Nat) : Pure Tryz.prog 80 [uV n].toArray (wV [n, 0, 0, 0]) := by
 refine J8 Tryz.func80 rfl rfl fun w => MX fun r1 => ?_; refine ND ?_; refine NS ?_
 refine Nm ?_; refine HX ?_; refine Jd rfl rfl (.cons (Jl (vs := [_, _, _, _]) rfl (kn 0 rfl) rfl rfl) .nil) (fun w1 hs1 => ?_); exact N4
theorem Jz9 {ns : List Nat} (hns : ∀ i, ns.getD i 0 < 256) (hlen : ns.length = 32) (hrow : rowOk 1 32 (ns.map iV) row) :
  PureR Tryz.prog 247 [J3 32 row].toArray (wV (YJ (fun t => ns.getD t 0) 32)) (JL 3 (ns.map iV) row) := by
 refine Ja Tryz.func247 rfl rfl fun w => JS ?_
 obtain ⟨f, hf⟩ : ∃ f, f = fun t => ns.getD t 0 := ⟨_, rfl⟩
 have hfl : ∀ i, f i < 256 := fun i => by rw [hf]; exact hns i
 rw [← hf]; refine Nw ?_; refine LN rfl fun r1 => GV ?_; refine LN rfl fun r2 => HW ?_; refine Jy (σ := Nat) (fun i => i ≤ 32) (fun i => [(0, J3 32 row), (2, .pointer (some ⟨r1, 0, none⟩)), (3, .pointer (some ⟨r2, 0, none⟩)), (4, .int .i64 (i : Int))]) (fun i => [(r2, .cells ((YJ f i).map uV).toArray 31 (0, 0)), (r1, .cells ([0, 0, 0, 0].map uV).toArray 31 (0, 0))]) (fun _ _ _ => True) (fun i => 32 - i) 0 (Nat.zero_le _) (lK rfl) (List.Sublist.refl _) (fun _ _ h => h) ?_; intro i hi; refine JE 7 rfl (cD (fun g => ?_) fun g => ?_)
 refine JE 4 rfl (JX 18 m5 m5 (kU ?_)); refine Jfh m0 m0 m0 (HJ ?_); refine Jc rfl rfl rfl (wv (m := 1) (n := 32) (row := row) (off' := i) rfl hrow rfl rfl rfl rfl m0 m0) (Jc rfl rfl rfl (Jjv rfl hrow (fun p hp => .inr hp) rfl (Jcf m0)) (N1 ?_)); refine Qc (show _ = Value.int .u64 ((f i : Nat) : Int) from by rw [hf]; exact congrArg (Value.int .u64) (wrap_u64 m0 (by have := hns i; omega))) (kU ?_); refine Jl9 m0 (N1 ?_); refine V9 m0 m0 (N1 ?_); refine Jb5 m0 m0 (Jc rfl rfl rfl (ww (n := i % 8 * 8) rfl rfl m0 mT (vK (vc (hfl i) m0))) (N1 ?_)); refine Qc (Jr9 (Jwf hfl m0)) (Gu ?_); refine Gc ?_; refine N0 ?_; exact Nt
 ·refine kX ?_
  have hi32 : i = 32 := by omega
  subst hi32; refine Nw ?_; refine GP ?_; refine HX ?_; refine Jd rfl rfl (.cons (Jl (vs := [_, _, _, _]) rfl (kn 1 rfl) rfl rfl) .nil) (fun w1 hs1 => ?_); exact N4
theorem Jos {l : List Nat} (hi : i < 32) : ((List.replicate (32 - i) (0 : UInt8) ++ ZO l i).map bV).set (31 - i) (bV (UInt8.ofNat (dg l i))) = (List.replicate (32 - (i + 1)) 0 ++ ZO l (i + 1)).map bV := by
 rw [← List.map_set, show 32 - i = (31 - i) + 1 from by omega, Jr8, show 32 - (i + 1) = 31 - i from by omega]
 rfl
theorem YU {l : List Nat} (hl : WOk l) : Pure Tryz.prog 115 [wV l].toArray (.string (bs (ZO l 32))) := by
 refine J8 Tryz.func115 rfl rfl fun w => Dd fun r1 => ?_; refine ND ?_; refine WJ (n := 32) (b := 1) rfl rfl rfl rfl rfl rfl rfl rfl rfl m7 m7 fun r2 => JQ 10 rfl (Jy (σ := Nat) (fun i => i ≤ 32) (fun i => [(1, .pointer (some ⟨r1, 0, none⟩)), (3, .slice (some ⟨r2, 0, none⟩) 32 32), (6, .int .i64 (i : Int))]) (fun i => [(r2, .cells ((List.replicate (32 - i) (0 : UInt8) ++ ZO l i).map bV).toArray 5 (0, 0)), (r1, .cells (l.map uV).toArray 31 (0, 0))]) (fun _ _ _ => True) (fun i => 32 - i) 0 (Nat.zero_le _) (lK rfl) (List.Sublist.refl _) (fun _ _ h => h) ?_); intro i hi; refine Nv ?_; refine cD (fun g => ?_) fun g => ?_
 refine Jt 14 rfl (Jh m0 m0 (NC ?_)); refine Jfg m0 m0 m0 (LR rfl (JN (j := i / 8) (m := 1) (off' := i / 8) rfl rfl rfl rfl m0 m0 m0) (LR rfl (KJ rfl (kn 1 rfl) rfl (KW (by rw [hl.1]; omega))) (NC ?_))); refine Jv9 m0 (V7 rfl (Jh m0 m0 (LR rfl (jL (n := i % 8 * 8) rfl rfl m0 mT m0 (vL _ _)) ?_))); refine V7 rfl (Jk (show _ = bV (UInt8.ofNat (dg l i)) from jO _) (LR rfl (Kc (j := 31 - i) (m := 1) (off' := 31 - i) rfl rfl rfl rfl m0 m0 m0) ?_)); refine KS (k := 0) (off := 31 - i) (xs := (List.replicate (32 - i) (0 : UInt8) ++ ZO l i).map bV) (ys := (List.replicate (32 - (i + 1)) 0 ++ ZO l (i + 1)).map bV) rfl rfl rfl rfl rfl rfl (by simp [We]; omega) (Jos m0) rfl ?_; exact H5
 ·refine kX ?_
  have hi32 : i = 32 := by omega
  subst hi32; refine GW ?_; refine LR rfl (Qq (b := ZO l 32) (row := some (r2, 32, [])) (e := 5) rfl ⟨rfl, rfl⟩ (fun p hp => .inl nJ) rfl rfl rfl) ?_; exact Nz
theorem zi (s : List UInt8) : Pure Tryz.prog 188 [.string (bs s)].toArray (Jmr (Zk s)) := by
 refine J8 Tryz.func188 rfl rfl fun w => MX fun r1 => ?_; refine Gi ?_; refine DK ?_; refine cD (fun g => ?_) fun g => ?_
 refine Nw ?_; exact kY
 ·refine JE 14 rfl (Jy (σ := Nat × List Value × Vg) (fun q => q.1 ≤ 32 ∧ q.2.1 = (yY s q.1).map iV ∧ rowOk 1 q.1 q.2.1 q.2.2) (fun q => [(0, .string (bs s)), (2, .pointer (some ⟨r1, 0, none⟩)), (4, J3 q.1 q.2.2), (5, .int .i64 (31 - (q.1 : Int)))]) (fun q => (r1, .cells (zW.map uV).toArray 31 (0, 0)) :: JL 3 q.2.1 q.2.2) (fun _ _ _ => True) (fun q => 32 - q.1) (0, [], none) ⟨by decide, rfl, ⟨rfl, rfl⟩⟩ (lK rfl) (List.Sublist.refl _) (fun _ _ h => h) ?_); rintro ⟨m, xs, row⟩ ⟨hm, hxs, hrow⟩; simp only at hm hxs hrow ⊢; refine JE 7 rfl (cD (fun g => ?_) fun g => ?_)
  refine Jt 8 rfl (Jk (show _ = Value.int .i64 ((31 - m : Nat) : Int) from congrArg (Value.int .i64) m0) (LR rfl (KU (j := 31 - m) rfl rfl rfl rfl m0 rfl) (V7 rfl (Jk (show _ = Value.int .i64 ((s.getD (31 - m) 0).toNat : Nat) from congrArg (Value.int .i64) (wrap_i64 m0 (by have := QC (s.getD (31 - m) 0); omega))) (kN fun r2 => ?_))))); refine JF (L0 := [_, _]) (xs := xs) (row := row) (n := m) (sz := 1) (b := 8) (news := [_]) (List.perm_append_comm (l₁ := [_, _])) rfl rfl rfl rfl (kn 0 rfl) rfl rfl rfl rfl rfl m7 rfl rfl rfl m7 hrow m0 m0 fun ra cap sp hra => Gi ?_; refine N0 ?_; refine QG [2, 0] (L' := [_, _]) m7 rfl ?_; exact Jr (m + 1, xs ++ [Value.int .i64 ((s.getD (31 - m) 0).toNat : Nat)], some (ra, cap, sp)) ⟨by simp only; omega, by simp only; rw [Jj0, hxs], hra⟩ ml (.cons rfl (.cons rfl (.cons rfl (.cons (congrArg (fun z => some (Value.int .i64 z)) ml) .nil)))) (List.Sublist.refl _) (fun _ _ h => h)
  ·refine Nv ?_
   have hm32 : m = 32 := by omega
   subst hm32; subst hxs; refine Nw ?_; refine Jb rfl rfl rfl (enters_of Tryz.func247 m5 rfl) (Jz9 (ns := yY s 32) (Jsa s) rfl hrow) (fun p hp => .inl (List.mem_cons_of_mem _ hp)) (Jk (congrArg wV (Jms s)) (Ju (k := 0) (n := 4) (ys := (qB s).map uV) rfl rfl rfl rfl rfl rfl rfl rfl rfl (gJ ?_))); refine Jd rfl rfl (.cons (Jl (vs := [_, _, _, _]) rfl (kn 0 rfl) rfl rfl) (.cons (Jn rfl) .nil)) (fun w1 hs1 => ?_); refine ⟨?_, hs1.keep⟩; rw [show Zk s = (qB s, 0) from by unfold Zk; rw [if_pos m0]]; rfl
theorem yo (s : List UInt8) : Pure Tryz.prog 184 [.string (bs s)].toArray (Jmr (Zk s)) := by
 refine J8 Tryz.func184 rfl rfl fun w => JS ?_
 obtain ⟨f, hf⟩ : ∃ f : Nat → Nat, f = fun t => (s.getD (31 - t) 0).toNat := ⟨_, rfl⟩
 have hfl : ∀ i, f i < 256 := fun i => by rw [hf]; exact QC _
 have hfu : YJ f 32 = qB s := by rw [hf]; rfl
 refine Nw ?_; refine LN rfl fun r1 => Gi ?_; refine DK ?_; refine cD (fun g => ?_) fun g => ?_
 refine Nw ?_; exact kY
 ·refine Gx ?_; refine LN rfl fun r2 => HW ?_; refine Jy (σ := Nat) (fun i => i ≤ 32) (fun i => [(0, .string (bs s)), (2, .pointer (some ⟨r1, 0, none⟩)), (4, .pointer (some ⟨r2, 0, none⟩)), (10, .int .i64 (i : Int))]) (fun i => [(r2, .cells ((YJ f i).map uV).toArray 31 (0, 0)), (r1, .cells (zW.map uV).toArray 31 (0, 0))]) (fun _ _ _ => True) (fun i => 32 - i) 0 (Nat.zero_le _) (lK rfl) (List.Sublist.refl _) (fun _ _ h => h) ?_; intro i hi; refine Nv ?_; refine cD (fun g => ?_) fun g => ?_
  refine JE 10 rfl (JX 15 m5 m5 (HJ ?_)); refine N1 ?_; refine V9 m0 m0 (Jc rfl rfl rfl (KU (j := 31 - i) rfl rfl rfl m0 m0 rfl) (N1 ?_)); refine Qc (show _ = Value.int .u64 ((f i : Nat) : Int) from by rw [hf]; exact congrArg (Value.int .u64) (wrap_u64 m0 (by have := QC (s.getD (31 - i) 0); omega))) (kU ?_); refine Jl9 m0 (N1 ?_); refine V9 m0 m0 (Jc rfl rfl rfl (ww (n := i % 8 * 8) rfl rfl m0 mT (vK (vc (hfl i) m0))) (Jc rfl rfl rfl (VC (op := .or) (b := (((YJ f i).getD (i / 8) 0 + f i * 2 ^ (i % 8 * 8) : Nat) : Int)) rfl rfl rfl ((xN hfl i).get _) (vc (hfl i) m0) (congrArg (fun z : Nat => (z : Int)) (by rw [Jhg f m0]; exact Jmq (Jmp hfl _ _)))) (Gu ?_))); exact H5
  ·refine Nv ?_
   have hi32 : i = 32 := by omega
   subst hi32; refine H4 ?_; refine GP ?_; refine gJ ?_; refine Jd rfl rfl (.cons (Jl (vs := [_, _, _, _]) rfl (kn 1 rfl) rfl rfl) (.cons (Jn rfl) .nil)) (fun w1 hs1 => ?_); refine ⟨?_, hs1.keep⟩; rw [show Zk s = (qB s, 0) from by unfold Zk; rw [if_pos m0], ← hfu]; rfl
theorem Jta {a b : List Nat} (ha : a.length = 4) (hb : b.length = 4) : PureE (α := Nat × Nat) Tryz.prog 281 [wV a, wV b].toArray (fun p => .func (.func 287) #[] #[.pointer (some ⟨p.1, 0, none⟩), .pointer (some ⟨p.2, 0, none⟩)])
  (fun p => [(p.2, .cells (b.map uV).toArray 31 (0, 0)), (p.1, .cells (a.map uV).toArray 31 (0, 0))]) := by
 refine VB Tryz.func281 rfl rfl fun w => kE fun r1 r2 => ?_; refine ND ?_; exact kC
def Jot (a b : List Nat) (i : Nat) : List Value := [.int .i64 (i : Int), .agg [.int .u64 ((a.getD i 0 : Nat) : Int), .int .u64 ((b.getD i 0 : Nat) : Int)].toArray]
theorem Jtb {a b : List Nat} (ha : a.length = 4) (hb : b.length = 4) (p1 p2 : Nat) : xB Tryz.prog 287 [.pointer (some ⟨p1, 0, none⟩), .pointer (some ⟨p2, 0, none⟩)]
    [(p2, .cells (b.map uV).toArray 31 (0, 0)), (p1, .cells (a.map uV).toArray 31 (0, 0))] 0 (nxN (Jot a b) 4) (Jfi 4) := by
  refine W9 Tryz.func287 rfl rfl fun q xids w2 XI XF hY => JS (Nv ?_); refine Jy (σ := Nat) (fun i => i ≤ 4) (fun i => [(0, .func (.yield q) #[] #[]), (1, .pointer (some ⟨p1, 0, none⟩)), (2, .pointer (some ⟨p2, 0, none⟩)), (5, .int .i64 (i : Int))]) (fun _ => []) (fun i => XI i) (fun i => 4 - i) 0 (Nat.zero_le _) (lK rfl) (List.nil_sublist _) (fun _ _ h => h) ?_; intro i hi; refine Nv ?_; refine cD (fun g => ?_) fun g => ?_
  · refine JE 11 rfl (JX 9 m5 m5 (NK ?_)); refine MY ?_; refine Jc rfl rfl rfl (JN (j := i) (m := 1) (off' := i) rfl rfl rfl rfl rfl m0 m0) (Jc rfl rfl rfl (KJ rfl (JB (k := 1) rfl) rfl (KW m0)) (MY ?_)); refine Jc rfl rfl rfl (JN (j := i) (m := 1) (off' := i) rfl rfl rfl rfl rfl m0 m0) (Jc rfl rfl rfl (KJ rfl (JB (k := 0) rfl) rfl (KW m0)) (Jc rfl rfl rfl (Js (r := [_, _]) rfl rfl) (Kv (WP (XT := XI (i + 1)) (XF := XF) rfl rfl rfl rfl (hY i (Jot a b i) (i + 1) ⟨by omega, rfl, rfl⟩) ?_ ?_))))
    all_goals (
     refine H2 ?_; refine JH rfl (fun g => ?_) (fun g => ?_)
     · try exact Bool.noConfusion g
       all_goals try simp only [ZZ] at g
       all_goals (
        exact N5
        skip)
     · try exact Bool.noConfusion g
       all_goals try simp only [ZZ] at g
       all_goals (
        refine G6 ?_; exact NJ
        skip)
     skip)
  · refine gn fun w1 hs1 => ?_
    obtain ⟨xs1, hx1⟩ := hs1.now
    exact ⟨⟨_, rfl⟩, hs1.keep, .inl ⟨i, _, (by show i = 4; omega), hx1⟩⟩
theorem Jtc {F G : Nat → Nat → Nat → Nat} (C : Car Tryz.prog g F G) {a b : List Nat} (ha : WOk a) (hb : WOk b) : Pure Tryz.prog 270 [wV a, wV b, .func (.func g) #[] #[]].toArray (Jmr (crR F G a b)) := by
 refine J8 Tryz.func270 rfl rfl fun w => kE fun r1 r2 => ?_; refine LN rfl fun r3 => Ql (cs := (zW.map uV).toArray) rfl rfl rfl rfl fun r4 => ND ?_; refine Ql (cs := (zW.map uV).toArray) rfl rfl rfl rfl fun r5 => GV ?_; refine LN rfl fun r6 => ?_
 refine Nm ?_; refine ND ?_; refine LR rfl (Jm (xs := a.map uV) (n := 4) rfl (kn 5 rfl) rfl rfl nZ) (LR rfl (Jm (xs := b.map uV) (n := 4) rfl (kn 4 rfl) rfl rfl M0) (Vx rfl rfl rfl (enters_of Tryz.func281 m5 rfl) (Jta ha.1 hb.1) fun pp => ?_))
 obtain ⟨p1, p2⟩ := pp
 change HL _ _ _ [(p2, _), (p1, _), (r6, _), (r5, _), (r4, _), (r3, _), (r2, _), (r1, _)] _ _ _ _; refine NR ?_; refine YE [3, 2, 0, 1, 4, 5, 6, 7] m7 rfl (Yr (τ := Unit) (fun i (s : List Nat × Nat) => s = yZ F G a b i ∧ i ≤ 4) (fun s => [(r5, .cells (s.1.map uV).toArray 31 (0, 0)), (r6, .cells #[uV s.2] 29 (0, 0))]) (fun _ _ => False) (fun _ => []) [(p2, _), (p1, _), (r4, _), (r3, _), (r2, _), (r1, _)] (zW, 0) rfl rfl (enters_of Tryz.func287 m5 rfl) (Jtb ha.1 hb.1 p1 p2) mA rfl mf rfl ⟨rfl, by decide⟩ ?_ ?_ ?_)
 rintro q Xr Xb w3 i _ _ s ⟨hi, rfl, rfl⟩ ⟨hs, -⟩ Kr hKr; refine inR ?_
 have hs4 : s.1.length = 4 := by rw [hs]; exact ZP F G a b i
 have hs1 : s.2 ≤ 1 := by rw [hs]; exact (Jmt C ha hb i).2
 refine gY ?_; refine LN rfl fun r1 => ?_
 refine Nm ?_; refine gF ?_; clear hKr; refine GW ?_; refine LR rfl (Je rfl (JB (k := 3) rfl) rfl rfl) ?_
 refine Hp ?_; refine LR rfl (Je rfl (kn 0 rfl) rfl rfl) ?_
 refine LR rfl (JN (j := 1) rfl rfl rfl rfl rfl mG mc) (LS 2 [0, 2] rfl rfl (LR rfl (Jr3 rfl rfl (fun w => C.run (a.getD i 0) (b.getD i 0) s.2 w hs1)) (gw ?_))); refine LR rfl (JN (j := i) (m := 1) (off' := i) rfl rfl rfl rfl rfl m0 m0) (KS (k := 1) (off := i) (xs := s.1.map uV) (ys := (s.1.set i (F (a.getD i 0) (b.getD i 0) s.2)).map uV) rfl rfl rfl rfl rfl rfl (by rw [List.length_map, hs4]; omega) (Wr rfl) rfl ?_)
 refine LT 2 rfl rfl (Jz 2 rfl (QG [1, 2] (L' := [_, _]) m7 rfl (QU (yZ F G a b (i + 1)) ⟨rfl, by omega⟩ ?_))); simp only [yZ, ← hs]
 rintro D i s hfi ⟨hs, -⟩
 have hi4 : i = 4 := hfi
 subst hi4
 have hs4 : s.1.length = 4 := by rw [hs]; exact ZP F G a b 4
 have hcr : crR F G a b = if s.2 = 0 then (s.1, 0) else (zW, 6) := by rw [hs]; rfl
 refine Gqc 9 [2] rfl rfl (cD (fun h9 => ?_) fun h9 => ?_)
 refine Nw ?_; refine NS ?_
 refine LT 5 rfl rfl (Ga ?_); refine D0 ?_
 (refine Jd rfl rfl (.cons (Jl (vs := [_, _, _, _]) rfl (kn 5 rfl) rfl rfl) (.cons (Jn rfl) .nil)) (fun w1 hs1 => ?_)
  exact ⟨by rw [hcr, if_neg m0]; rfl, hs1.keep⟩)
 refine Gx ?_; refine LR rfl (Jm (xs := s.1.map uV) (n := 4) rfl (kn 1 rfl) rfl rfl (by rw [List.length_map, hs4])) (Ju (k := 5) (n := 4) (ys := s.1.map uV) rfl rfl rfl rfl rfl (by rw [List.length_map, hs4]) rfl (by simp [uV, QW, List.all_map, List.all_eq_true]) rfl (gJ ?_)); refine D0 ?_
 (refine Jd rfl rfl (.cons (Jl (vs := s.1.map uV) rfl (kn 5 rfl) rfl (by rw [List.length_map, hs4]; rfl)) (.cons (Jn rfl) .nil)) (fun w1 hs1 => ?_)
  exact ⟨by rw [hcr, if_pos m0]; rfl, hs1.keep⟩)
 ·exact gp
theorem Jtd : Car Tryz.prog 271 jP ji := by
 refine ⟨fun x y c w hc => ?_, fun x y c => Nat.mod_lt _ m7, fun x y c hx hy hc => ?_⟩
 ·show (callFunc _ #[.int .u64 (x : Int), .int .u64 (y : Int), .int .u64 (c : Int)]).run _ _ = _
  rw [run_callFunc_extern Tryz.func271 m5 m5 m5 (e := sub64Entry) m5, run_sub64 x y c hc]
  rfl
 ·unfold ji; split <;> omega
theorem Jgb {a b : List Nat} (ha : WOk a) (hb : WOk b) : Pure Tryz.prog 253 [wV a, wV b].toArray (Jmr (ze a b)) := by
 refine J8 Tryz.func253 rfl rfl fun w => kE fun r1 r2 => ?_; refine Ql (cs := (zW.map uV).toArray) rfl rfl rfl rfl fun r3 => ND ?_; refine LR rfl (Jm (xs := a.map uV) (n := 4) rfl (kn 2 rfl) rfl rfl nZ) (LR rfl (Jm (xs := b.map uV) (n := 4) rfl (kn 1 rfl) rfl rfl M0) (J6 rfl rfl rfl (enters_of Tryz.func270 m5 rfl) (Jtc Jtd ha hb) (NC ?_))); refine D7 ?_; refine gJ ?_; refine Jd rfl rfl (.cons (Jl (vs := (ze a b).1.map uV) rfl (kn 0 rfl) rfl (by rw [List.length_map, show (ze a b).1.length = 4 from xP]; rfl)) (.cons (Jn rfl) .nil)) (fun w1 hs1 => ?_); exact N4
theorem Jdl {a b : List Nat} (ha : WOk a) (hb : WOk b) : Pure Tryz.prog 206 [wV a, wV b].toArray (.bool (zu a b)) := by
 refine J8 Tryz.func206 rfl rfl fun w => kE fun r1 r2 => ?_; refine Gc ?_; refine Hk ?_; refine LR rfl (xH (xs := a.map uV) (ys := b.map uV) (n := 4) rfl rfl rfl rfl rfl m5 nZ M0 (ZQ rfl a) (ZQ rfl b)) (Jk (congrArg Value.bool (vM (ha.1.trans hb.1.symm))) (Gj ?_)); refine cD (fun g => ?_) fun g => ?_
 ·refine g8 fun w1 hs1 => ?_
  (have hab : a = b := by assumption
   unfold zu; simp [JC, hab]; done)
 ·refine Gx ?_; refine Hk ?_; refine J6 rfl rfl rfl (enters_of Tryz.func253 m5 rfl) (Jgb ha hb) (gw ?_); refine Ql (cs := (zW.map uV).toArray) rfl rfl rfl rfl fun r3 => D7 ?_; refine Jz 11 rfl (MW fun w1 hs1 => ?_)
  (have hab : ¬ a = b := by assumption
   unfold zu; simp [JC, hab])
theorem Jat {l : List Nat} (hl : WOk l) : Pure Tryz.prog 61 [wV l].toArray (wB l) := by
 refine J8 Tryz.func61 rfl rfl fun w => Dd fun r1 => ?_; refine JQ 6 rfl (JX 5 m5 m5 (Jc rfl rfl rfl (Jm (xs := l.map uV) (n := 4) rfl (kn 0 rfl) rfl rfl ML) ?_))
 refine kB ?_; refine Jc rfl rfl rfl (KJ rfl (kn 0 rfl) rfl (KW (by rw [hl.1]; omega))) (Qt rfl rfl rfl Joc (Y0 (l.getD 0 0)) (Jc rfl rfl rfl (Jg9 (xs := l.map uV) (ys := [l.getD 0 0, 0, 0, 0].map uV) (n := 4) rfl rfl rfl rfl rfl m5 ML rfl (ZQ rfl _) (ZQ rfl _)) (Qc (show _ = Value.bool (!X7 l) from congrArg (fun z => Value.bool (!z)) (vM (by rw [hl.1]; rfl))) (Kv (Gj ?_))))); refine cD (fun g => ?_) fun g => ?_
 refine GD ?_; refine Nl fun w1 hs1 => ?_
 (have hsm : X7 l = false := by assumption
  unfold wB; simp [JC, hsm, uV])
 ·refine Gx ?_
  refine Hp ?_; refine LR rfl (KJ rfl (kn 0 rfl) rfl (KW (by rw [hl.1]; omega))) (Ga ?_); refine Nl fun w1 hs1 => ?_
  (have hsm : X7 l = true := by assumption
   unfold wB; simp [JC, hsm, uV]; done)
end Go.Proofs.YteceenlfegnigaaGreatDoor
namespace Go.Proofs
open Go.Shelf
def Tryz.lays161_ren : Go.Shelf.Ren := ⟨fun | 161 => 252 | 231 => 266 | 227 => 267 | 233 => 268 | 235 => 269 | 228 => 278 | 197 => 279 | 151 => 280 | 260 => 285 | 152 => 286 | 137 => 288 | 119 => 289 | 224 => 290 | 225 => 291 | 217 => 292 | 266 => 293 | n => n, fun | 9 => 9 | 4 => 4 | 3 => 3 | 5 => 5 | 117 => 241 | 116 => 240 | 0 => 0 | 124 => 244 | 105 => 255 | 21 => 21 | 119 => 264 | 46 => 121 | 139 => 267 | 138 => 266 | n => n, fun | 3 => 1 | 4 => 2 | n => n⟩
theorem Tryz.lays161 : Go.Proofs.Lays.n161 Tryz.prog Tryz.lays161_ren := {
 mixed := by kernel_rfl
 f119 := Tryz.func289.trans (congrArg some (by kernel_rfl))
 f137 := Tryz.func288.trans (congrArg some (by kernel_rfl))
 f151 := Tryz.func280.trans (congrArg some (by kernel_rfl))
 f152 := Tryz.func286.trans (congrArg some (by kernel_rfl))
 f161 := Tryz.func252.trans (congrArg some (by kernel_rfl))
 f197 := Tryz.func279.trans (congrArg some (by kernel_rfl))
 f217 := Tryz.func292.trans (congrArg some (by kernel_rfl))
 f224 := Tryz.func290.trans (congrArg some (by kernel_rfl))
 f225 := Tryz.func291.trans (congrArg some (by kernel_rfl))
 f227 := Tryz.func267.trans (congrArg some (by kernel_rfl))
 f228 := Tryz.func278.trans (congrArg some (by kernel_rfl))
 f231 := Tryz.func266.trans (congrArg some (by kernel_rfl))
 f233 := Tryz.func268.trans (congrArg some (by kernel_rfl))
 f235 := Tryz.func269.trans (congrArg some (by kernel_rfl))
 f260 := Tryz.func285.trans (congrArg some (by kernel_rfl))
 f266 := Tryz.func293.trans (congrArg some (by kernel_rfl))
 t0 := Tryz.underlying0
 a0 := Tryz.isAgg0
 z0 := Tryz.sizeOf0
 v0 := Tryz.zeroValue0
 t3 := Tryz.underlying3
 a3 := Tryz.isAgg3
 z3 := Tryz.sizeOf3
 v3 := Tryz.zeroValue3
 t4 := Tryz.underlying4
 a4 := Tryz.isAgg4
 z4 := Tryz.sizeOf4
 v4 := Tryz.zeroValue4
 t5 := Tryz.underlying5
 a5 := Tryz.isAgg5
 z5 := Tryz.sizeOf5
 v5 := Tryz.zeroValue5
 t9 := Tryz.underlying9
 a9 := Tryz.isAgg9
 z9 := Tryz.sizeOf9
 v9 := Tryz.zeroValue9
 t21 := Tryz.underlying21
 a21 := Tryz.isAgg21
 z21 := Tryz.sizeOf21
 v21 := Tryz.zeroValue21
 t46 := Tryz.underlying121
 a46 := Tryz.isAgg121
 z46 := Tryz.sizeOf121
 v46 := Tryz.zeroValue121
 t105 := Tryz.underlying255
 a105 := Tryz.isAgg255
 z105 := Tryz.sizeOf255
 v105 := Tryz.zeroValue255
 t116 := Tryz.underlying240
 a116 := Tryz.isAgg240
 z116 := Tryz.sizeOf240
 t117 := Tryz.underlying241
 a117 := Tryz.isAgg241
 z117 := Tryz.sizeOf241
 v117 := Tryz.zeroValue241
 t119 := Tryz.underlying264
 a119 := Tryz.isAgg264
 z119 := Tryz.sizeOf264
 t124 := Tryz.underlying244
 a124 := Tryz.isAgg244
 z124 := Tryz.sizeOf244
 v124 := Tryz.zeroValue244
 t138 := Tryz.underlying266
 a138 := Tryz.isAgg266
 z138 := Tryz.sizeOf266
 v138 := Tryz.zeroValue266
 t139 := Tryz.underlying267
 a139 := Tryz.isAgg267
 z139 := Tryz.sizeOf267
 v139 := Tryz.zeroValue267
 g3 := by kernel_rfl
 g4 := by kernel_rfl }
open Go.RowKit in
theorem Tryz.strings_TrimLeft_one (s : ByteArray) (c : UInt8) (hc : c.toNat < 128) (w : World) :
  Calls Tryz.prog 252 #[.string s, .string ⟨#[c]⟩] w fun e w' => e = .returned (.string ⟨(Lib.trimLeftB s.data.toList c).toArray⟩) ∧ w' = w := Any.strings_TrimLeft_one Tryz.lays161 s c hc w
def Tryz.lays105_ren : Go.Shelf.Ren := ⟨fun | 105 => 69 | 212 => 98 | 99 => 99 | 165 => 100 | 166 => 101 | 170 => 102 | 169 => 103 | 263 => 153 | 264 => 154 | 206 => 155 | 240 => 156 | 241 => 157 | 276 => 192 | 277 => 193 | n => n, fun | 9 => 9 | 3 => 3 | 4 => 4 | 20 => 20 | 0 => 0 | 46 => 121 | 109 => 122 | 5 => 5 | 72 => 127 | 76 => 131 | 51 => 163 | 146 => 164 | 53 => 29 | 148 => 166 | 70 => 125 | 37 => 55 | 75 => 130 | 127 => 168 | 164 => 200 | 80 => 60 | n => n, fun | n => n⟩
theorem Tryz.lays105 : Go.Proofs.Lays.n105 Tryz.prog Tryz.lays105_ren := {
 mixed := by kernel_rfl
 f99 := Tryz.func99.trans (congrArg some (by kernel_rfl))
 f105 := Tryz.func69.trans (congrArg some (by kernel_rfl))
 f165 := Tryz.func100.trans (congrArg some (by kernel_rfl))
 f166 := Tryz.func101.trans (congrArg some (by kernel_rfl))
 f169 := Tryz.func103.trans (congrArg some (by kernel_rfl))
 f170 := Tryz.func102.trans (congrArg some (by kernel_rfl))
 f206 := Tryz.func155.trans (congrArg some (by kernel_rfl))
 f212 := Tryz.func98.trans (congrArg some (by kernel_rfl))
 f240 := Tryz.func156.trans (congrArg some (by kernel_rfl))
 f241 := Tryz.func157.trans (congrArg some (by kernel_rfl))
 f263 := Tryz.func153.trans (congrArg some (by kernel_rfl))
 f264 := Tryz.func154.trans (congrArg some (by kernel_rfl))
 f276 := Tryz.func192.trans (congrArg some (by kernel_rfl))
 f277 := Tryz.func193.trans (congrArg some (by kernel_rfl))
 t0 := Tryz.underlying0
 a0 := Tryz.isAgg0
 z0 := Tryz.sizeOf0
 v0 := Tryz.zeroValue0
 t3 := Tryz.underlying3
 a3 := Tryz.isAgg3
 z3 := Tryz.sizeOf3
 v3 := Tryz.zeroValue3
 t4 := Tryz.underlying4
 a4 := Tryz.isAgg4
 z4 := Tryz.sizeOf4
 v4 := Tryz.zeroValue4
 t5 := Tryz.underlying5
 a5 := Tryz.isAgg5
 z5 := Tryz.sizeOf5
 v5 := Tryz.zeroValue5
 t9 := Tryz.underlying9
 a9 := Tryz.isAgg9
 z9 := Tryz.sizeOf9
 v9 := Tryz.zeroValue9
 t20 := Tryz.underlying20
 a20 := Tryz.isAgg20
 z20 := Tryz.sizeOf20
 v20 := Tryz.zeroValue20
 t37 := Tryz.underlying55
 a37 := Tryz.isAgg55
 z37 := Tryz.sizeOf55
 v37 := Tryz.zeroValue55
 t46 := Tryz.underlying121
 a46 := Tryz.isAgg121
 z46 := Tryz.sizeOf121
 v46 := Tryz.zeroValue121
 t51 := Tryz.underlying163
 a51 := Tryz.isAgg163
 z51 := Tryz.sizeOf163
 v51 := Tryz.zeroValue163
 t53 := Tryz.underlying29
 a53 := Tryz.isAgg29
 z53 := Tryz.sizeOf29
 v53 := Tryz.zeroValue29
 t70 := Tryz.underlying125
 a70 := Tryz.isAgg125
 z70 := Tryz.sizeOf125
 v70 := Tryz.zeroValue125
 t72 := Tryz.underlying127
 a72 := Tryz.isAgg127
 z72 := Tryz.sizeOf127
 v72 := Tryz.zeroValue127
 t75 := Tryz.underlying130
 a75 := Tryz.isAgg130
 z75 := Tryz.sizeOf130
 v75 := Tryz.zeroValue130
 t76 := Tryz.underlying131
 a76 := Tryz.isAgg131
 z76 := Tryz.sizeOf131
 v76 := Tryz.zeroValue131
 t109 := Tryz.underlying122
 a109 := Tryz.isAgg122
 z109 := Tryz.sizeOf122
 v109 := Tryz.zeroValue122
 t127 := Tryz.underlying168
 a127 := Tryz.isAgg168
 z127 := Tryz.sizeOf168
 v127 := Tryz.zeroValue168
 t146 := Tryz.underlying164
 a146 := Tryz.isAgg164
 z146 := Tryz.sizeOf164
 v146 := Tryz.zeroValue164
 t148 := Tryz.underlying166
 a148 := Tryz.isAgg166
 z148 := Tryz.sizeOf166
 v148 := Tryz.zeroValue166
 t164 := Tryz.underlying200
 a164 := Tryz.isAgg200
 z164 := Tryz.sizeOf200
 v164 := Tryz.zeroValue200 }
theorem Tryz.Builder_Extra_105 : Builder.Extra Tryz.prog Tryz.lays105_ren := {
 sizeBuilder := by kernel_rfl
 liesBuilder := by kernel_rfl
 t5 := Tryz.underlying5
 a5 := Tryz.isAgg5
 z5 := Tryz.sizeOf5
 v5 := Tryz.zeroValue5
 infoByte := by kernel_rfl
 cellsByte := by kernel_rfl
 sizeByte := by kernel_rfl
 neB5 := by decide }
open Go.RowKit Go.Lib in
theorem Tryz.strings_Repeat (s : ByteArray) (c : Nat) (w : World) (hc : c ≤ 9223372036854775807) (hlen : s.size * c ≤ 140737488355328) :
  Calls Tryz.prog 69 #[.string s, .int .i64 c] w fun e w' => e = .returned (.string ⟨(Lib.repeatL s.data.toList c).toArray⟩) ∧ Below w.heap.size w w' := Any.strings_Repeat Tryz.lays105 Tryz.Builder_Extra_105 s c w hc hlen
end Go.Proofs
namespace Go.Proofs.YteceenlfegnigaaGreatDoor
set_option linter.all false
open Go.SL Go.RowKit Go.Shelf
variable {a : AcL} {cs : Array Value} {s : BS} {g : FuncId} {dp : Int} {L' R Rl : Jj} {xs : List (BS × BS)} {vs : List Value} {B b c d e i j m r rv : Nat} {f : Operand} {pb pi : Pl} {t x : Ty} {q : Ty × Nat × Nat} {α : Type} {row : Vg} {v y z : Vl} {w : World}
theorem Jdm (s : List UInt8) : Pure Tryz.prog 252 [.string (bs s), .string ⟨#[0]⟩].toArray (.string (bs (Lib.trimLeftB s 0))) := ⟨fun w => by
 have h := Tryz.strings_TrimLeft_one (bs s) 0 m7 w
 refine h.mono fun e w' ⟨h1, h2⟩ => ⟨?_, h2 ▸ Keep.refl _ _⟩
 rw [h1]; simp [bs]⟩
theorem qH {n : Nat} (hn : n ≤ 32) : Pure Tryz.prog 69 [.string ⟨#[0]⟩, .int .i64 (n : Int)].toArray (.string (bs (Lib.repeatL [0] n))) := ⟨fun w => by
 have hs : (ByteArray.mk #[0]).size = 1 := rfl
 have h := Tryz.strings_Repeat ⟨#[0]⟩ n w m0 (by rw [hs]; omega)
 refine h.mono fun e w' ⟨h1, h2⟩ => ⟨?_, Keep.of_below h2⟩
 rw [h1]; rfl⟩
def WD (l : List Nat) : List UInt8 := Lib.trimLeftB (ZO l 32) 0
theorem qc {l : List Nat} (hl : WOk l) : Pure Tryz.prog 201 [wV l].toArray (.string (bs (WD l))) := by
 refine J8 Tryz.func201 rfl rfl fun w => Dd fun r1 => ?_; refine ND ?_; refine LR rfl (Jm (xs := l.map uV) (n := 4) rfl (kn 0 rfl) rfl rfl ML) (J6 rfl rfl rfl Jii (YU hl) (J6 rfl rfl rfl (enters_of Tryz.func252 m5 rfl) (Jdm (ZO l 32)) ?_)); exact Nz
def Vn (v : Vl) (num bits items pick : Bool) : Bool := (num || decide (v.num = [0, 0, 0, 0])) && (bits || decide (v.bits.length = 0)) && (items || decide (v.items.length = 0)) && (pick || decide (v.pick = 0))
def zO (k n : Int) (m : Nat) (v : Vl) : Bool :=
 if k = 1 then Vn v true false false false && decide (((WD v.num).length : Int) ≤ n)
 else if k = 2 then Vn v true false false false && (decide (v.num = [0, 0, 0, 0]) || decide (v.num = [1, 0, 0, 0]))
 else if k = 3 then Vn v false false true false && decide ((v.items.length : Int) = n)
 else if k = 4 then Vn v false false true false
 else if k = 5 then Vn v false true false false && decide ((v.bits.length : Int) = n)
 else if k = 6 then Vn v false true false false
 else if k = 7 then Vn v false false true false && decide (v.items.length = m)
 else Vn v false false true true && decide (v.items.length = 1) && decide (0 ≤ v.pick) && decide (v.pick < m)
instance : Inhabited Ty := ⟨.mk 0 0 none []⟩
def VQ (k pick : Int) (i : Nat) : Nat := if k = 7 then i else if k = 8 then pick.toNat else 0
def J0 (k pick : Int) (ins : List Ty) (i : Nat) : Ty := ins.getD (VQ k pick i) default
mutual
def Kz : Vl → Ty → Int
 | .mk a b c d bits pb items pi pick, .mk k n p ins => if (k = 4 ∧ n < items.length) ∨ (k = 6 ∧ n < bits.length) then 5 else if zO k n ins.length (.mk a b c d bits pb items pi pick) = false then 2 else Qx items k pick ins 0
def Qx : List Vl → Int → Int → List Ty → Nat → Int
 | [], _, _, _, _ => 0
 | x :: xs, k, pick, ins, i => if Kz x (J0 k pick ins i) = 0 then Qx xs k pick ins (i + 1) else Kz x (J0 k pick ins i)
end
theorem qI {k n : Int} {p : Pl} {ins : List Ty} (hc : Va (.mk k n p ins) dp = 0) (ho : zO k n ins.length v = true) (hi : i < v.items.length) : VQ k v.pick i < ins.length := by
 obtain ⟨hk, hf, _, _⟩ := Qv hc
 unfold zO Vn at ho
 unfold JG at hf
 unfold VQ
 have h9 : k = 1 ∨ k = 2 ∨ k = 3 ∨ k = 4 ∨ k = 5 ∨ k = 6 ∨ k = 7 ∨ k = 8 := by omega
 have hl : ¬ v.items = [] := fun h => by rw [h] at hi; simp at hi
 rcases h9 with rfl | rfl | rfl | rfl | rfl | rfl | rfl | rfl
 all_goals simp [hl] at ho hf ⊢
 all_goals omega
theorem Kw {k pick : Int} {ins : List Ty} (h : VQ k pick i < ins.length) : ins[VQ k pick i]? = some (J0 k pick ins i) ∧ J0 k pick ins i ∈ ins := by
 unfold J0
 exact HM
theorem Qn (a b c d : Nat) (bits : List Bool) (pb : Pl) (items : List Vl) (pi : Pl) (pick : Int) (h1 h2 h3 h4 : Bool) : Vn (.mk a b c d bits pb items pi pick) h1 h2 h3 h4 = ((h1 || decide ([a, b, c, d] = [0, 0, 0, 0])) && (h2 || decide (bits.length = 0)) && (h3 || decide (items.length = 0)) && (h4 || decide (pick = 0))) := rfl
theorem Qw (k n : Int) (m a b c d : Nat) (bits : List Bool) (pb : Pl) (items : List Vl) (pi : Pl) (pick : Int) (v : Vl) (hv : v = .mk a b c d bits pb items pi pick) : zO k n m v =
 if k = 1 then Vn v true false false false && decide (((WD [a, b, c, d]).length : Int) ≤ n)
 else if k = 2 then Vn v true false false false && (decide ([a, b, c, d] = [0, 0, 0, 0]) || decide ([a, b, c, d] = [1, 0, 0, 0]))
 else if k = 3 then Vn v false false true false && decide ((items.length : Int) = n)
 else if k = 4 then Vn v false false true false
 else if k = 5 then Vn v false true false false && decide ((bits.length : Int) = n)
 else if k = 6 then Vn v false true false false
 else if k = 7 then Vn v false false true false && decide (items.length = m)
 else Vn v false false true true && decide (items.length = 1) && decide (0 ≤ pick) && decide (pick < m) := by subst hv; rfl
theorem yq {k n : Int} {p : Pl} {ins : List Ty} {y : Ty} (ht : Ty.In R (.mk k n p ins)) (hv : v.In R) (hi8 : k = 8 → 0 ≤ v.pick) (hy : ins[VQ k v.pick i]? = some y) : PureR Tryz.prog 122 [Ty.val (.mk k n p ins), v.val, .int .i64 (i : Int)].toArray y.val R := by
 cases ht with
 | mk hk hn hlt hst hit =>
 cases hv with
 | @mk a b c d bits pb items pi pick ha hb hc hd hlb hsb hl hs hp hi =>
 have hlt2 := (List.getElem?_eq_some_iff.1 hy).1
 change ins[if k = 7 then i else if k = 8 then pick.toNat else 0]? = some y at hy; change (if k = 7 then i else if k = 8 then pick.toNat else 0) < ins.length at hlt2; change k = 8 → 0 ≤ pick at hi8
 obtain ⟨yk, yn, yp, yi⟩ := y
 refine Ja Tryz.func122 rfl rfl fun w => Nd fun r1 r2 => ?_; refine LN rfl fun r3 => Goc 10 [2] rfl rfl (cD (fun g => ?_) fun g => ?_)
 refine GL ?_; rw [if_pos m9] at hy hlt2; refine QZ 4 [2] rfl rfl (LR rfl (Jg (j := i) rfl hst rfl rfl rfl rfl m0) ?_); exact Df
 ·refine Gcc 10 [2] rfl rfl (cD (fun g => ?_) fun g => ?_)
  refine GL ?_; rw [if_neg m9, if_pos m9] at hy hlt2
  have hi9 := hi8 m9
  refine QZ 5 [2, 1] rfl rfl (LR rfl (Jg (j := pick.toNat) rfl hst rfl rfl rfl m0 m0) ?_); exact Df
  ·refine Gw ?_; rw [if_neg m9, if_neg m9] at hy hlt2; refine QZ 3 [2] rfl rfl (LR rfl (Jg (j := 0) rfl hst rfl rfl rfl rfl m0) (LR rfl (Kj oR rfl hst hy rfl rfl) ?_))
   refine Nm ?_; refine HX ?_; exact gL
theorem Jvm {n : Int} (h : zO 8 n m v = true) : 0 ≤ v.pick := by
 unfold zO at h
 simp at h; omega
def V3 (t : Ty) (v : Vl) : Int := if Va t 0 = 0 then Kz v t else Va t 0
theorem Jte (x y : Bool) : Pure Tryz.prog 275 [.bool x, .bool y].toArray (.bool (x == y)) := by
 refine J8 Tryz.func275 rfl rfl fun w => JS (KK 14 rfl ?_); exact Nc
def fV (f : FuncId) : Value := .func (.func f) #[] #[]
theorem Jou {bits bits' : List Bool} {p p' : Pl} (hl : bits.length ≤ 9223372036854775807) (hl' : bits'.length ≤ 9223372036854775807) (hs : Seg R bits.length (KL bits) p) (hs' : Seg R bits'.length (KL bits') p') :
  PureR Tryz.prog 283 [Ky bits.length p, Ky bits'.length p', fV 275].toArray (.bool (decide (bits = bits'))) R := by
 refine Ja Tryz.func283 rfl rfl fun w => Hx ?_; refine cD (fun g => ?_) fun g => ?_
 ·refine g8 fun w1 hs1 => ?_
  (have hse : bits ≠ bits' := fun e => by subst e; omega
   simp [JC, hse]; done)
 ·refine gY ?_; refine H0 ?_
  have hlb2 : bits.length = bits'.length := by omega
  refine Jy (σ := Nat) (fun i => i ≤ bits.length ∧ ∀ j, j < i → bits[j]? = bits'[j]?) (fun i => [(1, Ky bits'.length p'), (2, fV 275), (15, Ky bits.length p), (16, .int .i64 (bits.length : Int)), (17, .int .i64 (i : Int))]) (fun _ => []) (fun _ _ _ => True) (fun i => bits.length - i) 0 ⟨by omega, fun j hj => absurd hj m0⟩ (lK rfl) (List.nil_sublist _) (fun _ _ h => h) ?_; rintro i ⟨hi1, hinv⟩; refine Nv ?_; refine cD (fun g => ?_) fun g => ?_
  ·refine kX ?_
   obtain ⟨x, hx, hmx⟩ := Q0 (show i < bits.length by omega)
   obtain ⟨y, hy, hmy⟩ := Q0 (show i < bits'.length by omega)
   refine Nw ?_; refine Hq ?_; refine LR rfl (Yu oR rfl hs hx rfl) (JK 8 rfl (LR rfl (Jg (j := i) rfl hs' rfl rfl rfl rfl m0) (LR rfl (Yu oR rfl hs' hy rfl) (JK 8 rfl (J6 rfl rfl rfl (enters_of Tryz.func275 m5 rfl) (Jte x y) (NR ?_)))))); refine cD (fun g => ?_) fun g => ?_
   ·refine kd fun w1 hs1 => ?_
    (have hse : bits ≠ bits' := Js6 hx hy mz
     simp [JC, hse]; done)
   refine G6 ?_
   exact Jr (i + 1) ⟨by omega, fun j hj => by
    rcases Nat.lt_succ_iff_lt_or_eq.1 hj with hj | rfl
    exact hinv j hj
    rw [hx, hy]; simp_all⟩ m0 (lK rfl) (List.nil_sublist _) (fun _ _ h => h)
  ·refine kd fun w1 hs1 => ?_
   (have hse : bits = bits' := Js7 hlb2 m0 hinv
    simp [JC, hse]; done)
theorem Jov {items items' : List Vl} {p p' : Pl} (eg : Enters Tryz.prog g) (hg : ∀ x ∈ items, ∀ y ∈ items', PureR Tryz.prog g [x.val, y.val].toArray (.bool (X9 x y)) R) (hl : items.length ≤ 9223372036854775807) (hl' : items'.length ≤ 9223372036854775807) (hs : Seg R items.length (KC items) p) (hs' : Seg R items'.length (KC items') p') :
  PureR Tryz.prog 284 [Ky items.length p, Ky items'.length p', fV g].toArray (.bool (Wi items items')) R := by
 refine Ja Tryz.func284 rfl rfl fun w => Hx ?_; refine cD (fun h4 => ?_) fun h4 => ?_
 ·refine g8 fun w1 hs1 => ?_
  (have hse : Wi items items' = false := Js9 m0
   simp [JC, hse]; done)
 ·refine gY ?_; refine H0 ?_
  have hl2 : items.length = items'.length := by omega
  refine Jy (σ := Nat) (fun i => i ≤ items.length ∧ ∀ q, q < i → ∀ x y, items[q]? = some x → items'[q]? = some y → X9 x y = true) (fun i => [(1, Ky items'.length p'), (2, fV g), (15, Ky items.length p), (16, .int .i64 (items.length : Int)), (17, .int .i64 (i : Int))]) (fun _ => []) (fun _ _ _ => True) (fun i => items.length - i) 0 ⟨by omega, fun j hj => absurd hj m0⟩ (lK rfl) (List.nil_sublist _) (fun _ _ h => h) ?_; rintro i ⟨hi1, hinv⟩; refine Nv ?_; refine cD (fun h10 => ?_) fun h10 => ?_
  ·refine kX ?_
   obtain ⟨x, hx, hmx⟩ := Q0 MJ
   obtain ⟨y, hy, hmy⟩ := Q0 (show i < items'.length by omega)
   refine Nw ?_; refine Hq ?_; refine LR rfl (Qe oR rfl hs hx rfl rfl) (LN rfl fun r1 => QK rfl (Ju (k := 0) (n := 7) (ys := x.cells) rfl rfl rfl rfl rfl x.len rfl x.one rfl (JK 6 rfl ?_))); refine LR rfl (Jg (j := i) rfl hs' rfl rfl rfl rfl m0) (LR rfl (Qe oR rfl hs' hy rfl rfl) (LN rfl fun r2 => Ju (k := 0) (n := 7) (ys := y.cells) rfl rfl rfl rfl rfl y.len rfl y.one rfl (ND ?_))); refine LR rfl (Jm (xs := x.cells) (n := 7) rfl (kn 1 rfl) rfl rfl x.len) (LR rfl (Jm (xs := y.cells) (n := 7) rfl (kn 0 rfl) rfl rfl y.len) (Jb rfl rfl rfl eg (hg x hmx y hmy) oR (NR ?_))); refine cD (fun h15 => ?_) fun h15 => ?_
   ·refine kd fun w1 hs1 => ?_
    (have hse : Wi items items' = false := Js8 hx hy m9
     simp [JC, hse]; done)
   refine G6 ?_
   exact Jr (i + 1) ⟨by omega, fun q hq u v hu hv => by
    rcases Nat.lt_succ_iff_lt_or_eq.1 hq with hq | rfl
    exact hinv q hq u v hu hv
    rw [hx] at hu; rw [hy] at hv; cases hu; cases hv; assumption⟩ m0 (lK rfl) (List.nil_sublist _) (fun _ _ h => h)
  ·refine kd fun w1 hs1 => ?_
   (have hse : Wi items items' = true := WB.2 ⟨hl2, fun q x y hx hy => hinv q (by have := (List.getElem?_eq_some_iff.1 hx).1; omega) x y hx hy⟩
    simp [JC, hse]; done)
theorem Jtf {v0 v1 v2 v : Value} (h : PureR Tryz.prog 283 [v0, v1, v2].toArray v R) : PureR Tryz.prog 276 [v0, v1, v2].toArray v R := by
 refine Ja Tryz.func276 rfl rfl fun w => JS (Jt 10 rfl (Jb rfl rfl rfl (enters_of Tryz.func283 m5 rfl) h oR ?_)); exact Nz
theorem Jtg {v0 v1 v2 v : Value} (h : PureR Tryz.prog 284 [v0, v1, v2].toArray v R) : PureR Tryz.prog 277 [v0, v1, v2].toArray v R := by
 refine Ja Tryz.func277 rfl rfl fun w => JS (Jt 10 rfl (Jb rfl rfl rfl (enters_of Tryz.func284 m5 rfl) h oR ?_)); exact Nz
theorem Jw2 {u : Vl} (hu : u.In R) : ∀ v : Vl, v.In R → PureR Tryz.prog 265 [u.val, v.val].toArray (.bool (X9 u v)) R := by
 induction hu with
 | @mk a b c d bits pb items pi pick ha hb hc hd hlb hsb hl hs hp hi ih =>
 intro v hv
 cases hv with
 | @mk a' b' c' d' bits' pb' items' pi' pick' ha' hb' hc' hd' hlb' hsb' hl' hs' hp' hi' =>
 rw [Zs]
 have h1 := Jtf (Jou hlb hlb' hsb hsb')
 have h2 := Jtg (Jov (enters_of Tryz.func265 m5 rfl) (fun x hx y hy => ih x hx y (hi' y hy)) hl hl' hs hs')
 refine Ja Tryz.func265 rfl rfl fun w => Nd fun r1 r2 => ?_; refine X6 14 [1, 0] rfl rfl (LR rfl (xH rfl rfl rfl rfl rfl m5 rfl rfl rfl rfl) ?_)
 first | (refine Jk (congrArg Value.bool (vM (a := [a, b, c, d]) (b := [a', b', c', d']) rfl)) ?_) | skip
 refine QK rfl ?_
 refine Jp 11 rfl (fun gb => ?_) (fun gb => ?_) <;> (try simp only [ZZ] at gb) <;> first | (refine LR rfl (J5 rfl rfl rfl) ?_) | (refine LK rfl ?_)
 all_goals refine GY ?_
 all_goals refine Ng ?_
 all_goals refine GZ ?_
 all_goals first | refine LK rfl ?_ | (refine Jp 18 rfl (fun gb => ?_) (fun gb => ?_) <;> (try simp only [ZZ] at gb) <;> first | (refine LR rfl (J5 rfl rfl rfl) ?_) | (refine LK rfl ?_))
 all_goals refine GY ?_
 all_goals refine Ng ?_
 all_goals refine LW 2 [0] rfl rfl ?_
 all_goals first | (refine Jb rfl rfl rfl (enters_of Tryz.func276 m5 rfl) h1 oR ?_) | refine LK rfl ?_
 all_goals refine Gv ?_
 all_goals first | refine LK rfl ?_ | (refine Jp 26 rfl (fun gb => ?_) (fun gb => ?_) <;> (try simp only [ZZ] at gb) <;> first | (refine LR rfl (J5 rfl rfl rfl) ?_) | (refine LK rfl ?_))
 all_goals refine kT ?_
 all_goals first | (refine Jb rfl rfl rfl (enters_of Tryz.func277 m5 rfl) h2 oR ?_) | refine LK rfl ?_
 all_goals (
  refine NE fun w1 hs1 => ?_
  simp_all [JC]
  skip)
def kfs : List (Nat × Nat × Nat × Bool) := [(196, 199, 202, false), (203, 205, 207, false), (208, 211, 213, false), (215, 216, 0, true),
 (217, 218, 220, false), (221, 222, 0, true), (223, 224, 225, false), (226, 227, 0, true)]
def kAt (k : Int) : Nat × Nat × Nat × Bool := kfs.getD (k - 1).toNat (0, 0, 0, false)
def isK (k : Int) : Bool := decide (1 ≤ k) && decide (k ≤ 8)
def Jow (k : Int) : FuncId := (kAt k).1
def ofF (k : Int) : FuncId := (kAt k).2.1
def Jox (k : Int) : FuncId := (kAt k).2.2.1
def Jgc (k : Int) : Bool := (kAt k).2.2.2
def fnV (b : Bool) (f : FuncId) : Value := if b then fV f else .nilFunc
def Zt (k : Int) : List Value := [fnV (isK k) (Jow k), fnV (isK k) (ofF k), fnV (isK k && !Jgc k) (Jox k), .bool (Jgc k)]
def Jav (j : Nat) : MapEntry := { key := .int .i64 ((j : Int) + 1), val := .agg (Zt ((j : Int) + 1)).toArray, born := j }
def kMap : Array MapEntry := #[Jav 0, Jav 1, Jav 2, Jav 3, Jav 4, Jav 5, Jav 6, Jav 7]
def Jkw : Obj := .map kMap 8
theorem Zu : ∀ e ∈ kMap.toList, isI e.key := by
 intro e he; simp only [kMap, List.mem_cons, List.not_mem_nil, or_false] at he
 rcases he with rfl | rfl | rfl | rfl | rfl | rfl | rfl | rfl <;> exact ⟨_, rfl⟩
theorem Jdn (k : Int) : QY Zd (.int .i64 k) (kMap.toList.map Yg) = if isK k then some (.agg (Zt k).toArray) else none := by
 by_cases h : 1 ≤ k ∧ k ≤ 8
 ·have : k = 1 ∨ k = 2 ∨ k = 3 ∨ k = 4 ∨ k = 5 ∨ k = 6 ∨ k = 7 ∨ k = 8 := by omega
  rcases this with rfl | rfl | rfl | rfl | rfl | rfl | rfl | rfl <;> rfl
 ·have e : isK k = false := by unfold isK; simp; omega
  rw [e]
  have h1 : k ≠ 1 := by omega
  have h2 : k ≠ 2 := by omega
  have h3 : k ≠ 3 := by omega
  have h4 : k ≠ 4 := by omega
  have h5 : k ≠ 5 := by omega
  have h6 : k ≠ 6 := by omega
  have h7 : k ≠ 7 := by omega
  have h8 : k ≠ 8 := by omega
  simp [kMap, Jav, Yg, QY, Jm0, h1, h2, h3, h4, h5, h6, h7, h8]
theorem Joy (k : Int) : (if true = true then Value.tuple #[((QY Zd (.int .i64 k) (kMap.toList.map Yg)).getD (.agg #[.nilFunc, .nilFunc, .nilFunc, .bool false])), .bool (QY Zd (.int .i64 k) (kMap.toList.map Yg)).isSome] else (QY Zd (.int .i64 k) (kMap.toList.map Yg)).getD (.agg #[.nilFunc, .nilFunc, .nilFunc, .bool false])) =
  .tuple #[.agg (Zt k).toArray, .bool (isK k)] := by
 rw [Jdn, if_pos rfl]
 cases h : isK k with
 | true => rfl
 | false =>
  have : Jgc k = false := by
   unfold isK at h
   simp at h
   unfold Jgc kAt
   by_cases h1 : 1 ≤ k
   ·have := h h1
    rw [List.getD_eq_getElem?_getD, List.getElem?_eq_none (by show 8 ≤ _; omega)]; rfl
   ·have : (k - 1).toNat = 0 := by omega
    rw [this]; rfl
  simp [Zt, fnV, h, this]
theorem ZW {k : Int} (h : isK k = true) : (if false = true then Value.tuple #[((QY Zd (.int .i64 k) (kMap.toList.map Yg)).getD (.agg #[.nilFunc, .nilFunc, .nilFunc, .bool false])), .bool (QY Zd (.int .i64 k) (kMap.toList.map Yg)).isSome] else (QY Zd (.int .i64 k) (kMap.toList.map Yg)).getD (.agg #[.nilFunc, .nilFunc, .nilFunc, .bool false])) =
  .agg (Zt k).toArray := by
 rw [Jdn, h]; rfl
theorem qd : PureE (α := Nat) Tryz.prog 161 [].toArray (fun r => .map (some r)) (fun r => [(r, Jkw)]) := by
 refine VB Tryz.func161 rfl rfl fun w => DI ?_; refine wC rfl rfl fun mr => NS ?_; refine Qf (q := 0) (key := .int .i64 1) (XQ (t := 3) m5) rfl rfl rfl rfl rfl rfl ⟨_, rfl⟩ (by intro e he; simp at he) rfl rfl ?_; refine NS ?_
 refine Qf (q := 0) (key := .int .i64 2) (XQ (t := 3) m5) rfl rfl rfl rfl rfl rfl ⟨_, rfl⟩ M7 rfl rfl (NS ?_)
 refine Qf (q := 0) (key := .int .i64 3) (XQ (t := 3) m5) rfl rfl rfl rfl rfl rfl ⟨_, rfl⟩ M1 rfl rfl (NS ?_)
 refine Qf (q := 0) (key := .int .i64 4) (XQ (t := 3) m5) rfl rfl rfl rfl rfl rfl ⟨_, rfl⟩ nS rfl rfl (NS ?_)
 refine Qf (q := 0) (key := .int .i64 5) (XQ (t := 3) m5) rfl rfl rfl rfl rfl rfl ⟨_, rfl⟩ nL rfl rfl (NS ?_)
 refine Qf (q := 0) (key := .int .i64 6) (XQ (t := 3) m5) rfl rfl rfl rfl rfl rfl ⟨_, rfl⟩ nE rfl rfl (NS ?_)
 refine Qf (q := 0) (key := .int .i64 7) (XQ (t := 3) m5) rfl rfl rfl rfl rfl rfl ⟨_, rfl⟩ nA rfl rfl (NS ?_)
 refine Qf (q := 0) (key := .int .i64 8) (XQ (t := 3) m5) rfl rfl rfl rfl rfl rfl ⟨_, rfl⟩ nr rfl rfl (Ga ?_); refine NP fun w1 hs1 => ?_; exact ⟨mr, rfl, hs1⟩
theorem Zv {k n : Int} {p : Pl} {ins : List Ty} (ht : Ty.In R (.mk k n p ins)) : PureR Tryz.prog 197 [Ty.val (.mk k n p ins)].toArray (.bool (decide (ins.length = 0))) R := by
 cases ht with
 | mk hk hn hl hs hi =>
 refine Ja Tryz.func197 rfl rfl fun w => MX fun r1 => ?_; refine X6 7 [0] rfl rfl (Ni ?_); refine Ga ?_; refine NP fun w1 hs1 => ?_; exact ⟨congrArg (fun b => Ending.returned (Value.bool b)) (by rw [Bool.eq_iff_iff]; simp only [beq_iff_eq, decide_eq_true_eq]; omega), hs1.keep⟩
theorem XZ {k n : Int} {p : Pl} {ins : List Ty} (ht : Ty.In R (.mk k n p ins)) : PureR Tryz.prog 204 [Ty.val (.mk k n p ins)].toArray (.bool (decide (n = 0))) R := by
 cases ht with
 | mk hk hn hl hs hi =>
 refine Ja Tryz.func204 rfl rfl fun w => MX fun r1 => ?_; refine Goq 12 [0] rfl rfl (MW fun w1 hs1 => ?_)
 simp_all [JC]
 first | done | rfl | omega | (rw [Bool.eq_iff_iff]; simp only [Bool.and_eq_true, Bool.or_eq_true, decide_eq_true_eq, beq_iff_eq]; omega) | (simp only [decide_eq_true_eq, decide_eq_false_iff_not]; omega)
theorem vk {k n : Int} {p : Pl} {ins : List Ty} (ht : Ty.In R (.mk k n p ins)) : PureR Tryz.prog 210 [Ty.val (.mk k n p ins)].toArray (.bool (decide (1 ≤ n) && decide (n ≤ 512))) R := by
 cases ht with
 | mk hk hn hl hs hi =>
 refine Ja Tryz.func210 rfl rfl fun w => MX fun r1 => ?_; refine X6 9 [0] rfl rfl ?_
 refine Jp 6 rfl (fun gb => ?_) (fun gb => ?_) <;> (try simp only [ZZ] at gb) <;> first | (refine LR rfl (J5 rfl rfl rfl) ?_) | (refine LK rfl ?_)
 all_goals (
  refine LW 4 [0] rfl rfl (Jz 1 rfl (Yh 2 rfl ?_)); refine MW fun w1 hs1 => ?_
  simp_all [JC]
  all_goals first | done | rfl | omega | (rw [Bool.eq_iff_iff]; simp only [Bool.and_eq_true, Bool.or_eq_true, decide_eq_true_eq, beq_iff_eq]; omega) | (simp only [decide_eq_true_eq, decide_eq_false_iff_not]; omega)
  skip)
theorem Zw {k n : Int} {p : Pl} {ins : List Ty} (ht : Ty.In R (.mk k n p ins)) (most : Int) : PureR Tryz.prog 209 [Ty.val (.mk k n p ins), .int .i64 most].toArray (.bool (decide (1 ≤ ins.length) && decide ((ins.length : Int) ≤ most))) R := by
 cases ht with
 | mk hk hn hl hs hi =>
 refine Ja Tryz.func209 rfl rfl fun w => MX fun r1 => ?_; refine X6 7 [0] rfl rfl (Ni ?_); refine NC ?_
 refine Jp 9 rfl (fun gb => ?_) (fun gb => ?_) <;> (try simp only [ZZ] at gb) <;> first | (refine LR rfl (J5 rfl rfl rfl) ?_) | (refine LK rfl ?_)
 all_goals refine N3 ?_
 all_goals (
  refine LW 4 [] rfl rfl (Jz 1 rfl (Yh 2 rfl ?_)); refine MW fun w1 hs1 => ?_
  simp_all [JC]
  first | done | rfl | omega | (rw [Bool.eq_iff_iff]; simp only [Bool.and_eq_true, Bool.or_eq_true, decide_eq_true_eq, beq_iff_eq]; omega) | (simp only [decide_eq_true_eq, decide_eq_false_iff_not]; omega)
  skip)
def Jaw : List Int → Int → Int → Int
 | [], _, _ => -1
 | y :: ys, x, j => if x = y then j else Jaw ys x (j + 1)
def Joz (l : List Int) : List Value := l.map (Value.int .i64)
theorem Jth {xs : List Int} {p : Pl} (x : Int) (hl : xs.length ≤ 9223372036854775807) (hs : Seg R xs.length (Joz xs) p) : PureR Tryz.prog 249 [Ky xs.length p, .int .i64 x].toArray (.int .i64 (Jaw xs x 0)) R := by
 refine Ja Tryz.func249 rfl rfl fun w => gc ?_; refine H0 ?_; refine Jy (σ := Nat) (fun i => i ≤ xs.length ∧ Jaw (xs.drop i) x (i : Int) = Jaw xs x 0) (fun i => [(0, Ky xs.length p), (1, .int .i64 x), (7, .int .i64 (xs.length : Int)), (8, .int .i64 (i : Int))]) (fun _ => []) (fun _ _ _ => True) (fun i => xs.length - i) 0 ⟨by omega, rfl⟩ (lK rfl) (List.nil_sublist _) (fun _ _ h => h) ?_; rintro i ⟨hi1, hinv⟩; refine Nv ?_; refine cD (fun g => ?_) fun g => ?_
 refine JE 11 rfl ?_
 obtain ⟨y, hy, hmy⟩ := Q0 ng
 rw [Yv hy, Jaw] at hinv; refine Gx ?_; refine Hq ?_; refine LR rfl (ZR (v := .int .i64 y) (j := i) oR rfl hs m0 rfl (by unfold Joz; rw [List.getElem?_map, hy]; rfl)) ?_; refine NR ?_; refine cD (fun g => ?_) fun g => ?_
 refine GR fun w1 hs1 => ?_; rw [← hinv, if_pos m9]; rfl
 refine G6 ?_; exact Jr (i + 1) ⟨by omega, by rw [if_neg m9] at hinv; exact hinv⟩ m0 (lK rfl) (List.nil_sublist _) (fun _ _ h => h)
 ·refine kd fun w1 hs1 => ?_; rw [← hinv, List.drop_of_length_le m0, Jaw]; rfl
theorem Jgd {xs : List Int} {p : Pl} (x : Int) (hl : xs.length ≤ 9223372036854775807) (hs : Seg R xs.length (Joz xs) p) : PureR Tryz.prog 198 [Ky xs.length p, .int .i64 x].toArray (.bool (decide (0 ≤ Jaw xs x 0))) R := by
 have h := Jth x hl hs
 refine Ja Tryz.func198 rfl rfl fun w => gc ?_; refine Jb rfl rfl rfl (enters_of Tryz.func249 m5 rfl) h oR (Ga ?_); exact Nc
theorem J0b (n : Int) : decide (0 ≤ Jaw [1, 2, 4, 8, 32] n 0) = (decide (n = 1) || decide (n = 2) || decide (n = 4) || decide (n = 8) || decide (n = 32)) := by
 simp only [Jaw]
 by_cases h1 : n = 1
 ·simp [h1]
 by_cases h2 : n = 2
 ·simp [h2]
 by_cases h4 : n = 4
 ·simp [h4]
 by_cases h8 : n = 8
 ·simp [h8]
 by_cases h32 : n = 32
 ·simp [h32]
 simp [h1, h2, h4, h8, h32]
theorem F_1 {n : Int} {p : Pl} {ins : List Ty} (ht : Ty.In R (.mk 1 n p ins)) : PureR Tryz.prog 196 [Ty.val (.mk 1 n p ins)].toArray (.bool (JG 1 n ins.length)) R := by
 have hno := Zv ht
 have hpl := XZ ht
 have hro := vk ht
 have hma := fun m => Zw ht m
 cases ht with
 | mk hk hn hl hs hi =>
 refine Ja Tryz.func196 rfl rfl fun w => Hc fun r1 => ?_
 refine Jp 5 rfl (fun gb => ?_) (fun gb => ?_) <;> (try simp only [ZZ] at gb) <;> first | (refine J7 (vs := [_, _, _, _, _]) (zs := [_, _, _, _, _]) (r := [_, _, _, _, _]) rfl rfl rfl rfl rfl rfl rfl rfl rfl mj rfl fun r2 => ?_) | (refine LK rfl ?_)
 all_goals refine Ng ?_
 all_goals refine GY ?_
 all_goals first | (refine Jb rfl rfl rfl (enters_of Tryz.func198 m5 rfl) (Jgd (R := [(r2, _)]) (xs := [1, 2, 4, 8, 32]) (p := some (⟨r2, 0, none⟩, 5)) n m7 ⟨by decide, fun _ => ⟨rfl, _, _, _, List.mem_cons_self, rfl⟩⟩) (fun q hq => .inl na) ?_; refine Jk (congrArg Value.bool (J0b n)) ?_) | refine LK rfl ?_
 all_goals (
  refine NE fun w1 hs1 => ?_
  unfold JG
  simp_all [JC]
  skip)
theorem F_2 {n : Int} {p : Pl} {ins : List Ty} (ht : Ty.In R (.mk 2 n p ins)) : PureR Tryz.prog 203 [Ty.val (.mk 2 n p ins)].toArray (.bool (JG 2 n ins.length)) R := by
 have hno := Zv ht
 have hpl := XZ ht
 have hro := vk ht
 have hma := fun m => Zw ht m
 cases ht with
 | mk hk hn hl hs hi =>
 refine Ja Tryz.func203 rfl rfl fun w => Hc fun r1 => ?_
 refine Jp 5 rfl (fun gb => ?_) (fun gb => ?_) <;> (try simp only [ZZ] at gb) <;> first | (refine LR rfl (Jo (vs := [_, _, _]) rfl (kn 0 rfl) rfl rfl rfl rfl) ?_) | (refine LK rfl ?_)
 all_goals refine Do ?_
 all_goals (
  refine NE fun w1 hs1 => ?_
  unfold JG
  simp_all [JC]
  skip)
theorem F_3 {n : Int} {p : Pl} {ins : List Ty} (ht : Ty.In R (.mk 3 n p ins)) : PureR Tryz.prog 208 [Ty.val (.mk 3 n p ins)].toArray (.bool (JG 3 n ins.length)) R := by
 have hno := Zv ht
 have hpl := XZ ht
 have hro := vk ht
 have hma := fun m => Zw ht m
 cases ht with
 | mk hk hn hl hs hi =>
 refine Ja Tryz.func208 rfl rfl fun w => kv fun r1 => ?_; refine Jb rfl rfl rfl Jim (hma 1) oR (QK rfl ?_)
 refine Jp 5 rfl (fun gb => ?_) (fun gb => ?_) <;> (try simp only [ZZ] at gb) <;> first | (refine LR rfl (Jo (vs := [_, _, _]) rfl (kn 0 rfl) rfl rfl rfl rfl) ?_) | (refine LK rfl ?_)
 all_goals refine GK ?_
 all_goals (
  refine NE fun w1 hs1 => ?_
  unfold JG
  simp_all [JC]
  first | done | rfl | omega | (rw [Bool.eq_iff_iff]; simp only [Bool.and_eq_true, Bool.or_eq_true, decide_eq_true_eq, beq_iff_eq]; omega) | (simp only [decide_eq_true_eq, decide_eq_false_iff_not]; omega)
  skip)
theorem F_4 {n : Int} {p : Pl} {ins : List Ty} (ht : Ty.In R (.mk 4 n p ins)) : PureR Tryz.prog 215 [Ty.val (.mk 4 n p ins)].toArray (.bool (JG 4 n ins.length)) R := by
 have hno := Zv ht
 have hpl := XZ ht
 have hro := vk ht
 have hma := fun m => Zw ht m
 cases ht with
 | mk hk hn hl hs hi =>
 refine Ja Tryz.func215 rfl rfl fun w => kv fun r1 => ?_; refine Jb rfl rfl rfl Jim (hma 1) oR (QK rfl ?_)
 refine Jp 5 rfl (fun gb => ?_) (fun gb => ?_) <;> (try simp only [ZZ] at gb) <;> first | (refine LR rfl (Jo (vs := [_, _, _]) rfl (kn 0 rfl) rfl rfl rfl rfl) ?_) | (refine LK rfl ?_)
 all_goals refine GK ?_
 all_goals (
  refine NE fun w1 hs1 => ?_
  unfold JG
  simp_all [JC]
  first | done | rfl | omega | (rw [Bool.eq_iff_iff]; simp only [Bool.and_eq_true, Bool.or_eq_true, decide_eq_true_eq, beq_iff_eq]; omega) | (simp only [decide_eq_true_eq, decide_eq_false_iff_not]; omega)
  skip)
theorem F_5 {n : Int} {p : Pl} {ins : List Ty} (ht : Ty.In R (.mk 5 n p ins)) : PureR Tryz.prog 217 [Ty.val (.mk 5 n p ins)].toArray (.bool (JG 5 n ins.length)) R := by
 have hno := Zv ht
 have hpl := XZ ht
 have hro := vk ht
 have hma := fun m => Zw ht m
 cases ht with
 | mk hk hn hl hs hi =>
 refine Ja Tryz.func217 rfl rfl fun w => Hc fun r1 => ?_
 refine Jp 5 rfl (fun gb => ?_) (fun gb => ?_) <;> (try simp only [ZZ] at gb) <;> first | (refine LR rfl (Jo (vs := [_, _, _]) rfl (kn 0 rfl) rfl rfl rfl rfl) ?_) | (refine LK rfl ?_)
 all_goals refine GK ?_
 all_goals (
  refine NE fun w1 hs1 => ?_
  unfold JG
  simp_all [JC]
  skip)
theorem F_6 {n : Int} {p : Pl} {ins : List Ty} (ht : Ty.In R (.mk 6 n p ins)) : PureR Tryz.prog 221 [Ty.val (.mk 6 n p ins)].toArray (.bool (JG 6 n ins.length)) R := by
 have hno := Zv ht
 have hpl := XZ ht
 have hro := vk ht
 have hma := fun m => Zw ht m
 cases ht with
 | mk hk hn hl hs hi =>
 refine Ja Tryz.func221 rfl rfl fun w => Hc fun r1 => ?_
 refine Jp 5 rfl (fun gb => ?_) (fun gb => ?_) <;> (try simp only [ZZ] at gb) <;> first | (refine LR rfl (Jo (vs := [_, _, _]) rfl (kn 0 rfl) rfl rfl rfl rfl) ?_) | (refine LK rfl ?_)
 all_goals refine GK ?_
 all_goals (
  refine NE fun w1 hs1 => ?_
  unfold JG
  simp_all [JC]
  skip)
theorem F_7 {n : Int} {p : Pl} {ins : List Ty} (ht : Ty.In R (.mk 7 n p ins)) : PureR Tryz.prog 223 [Ty.val (.mk 7 n p ins)].toArray (.bool (JG 7 n ins.length)) R := by
 have hno := Zv ht
 have hpl := XZ ht
 have hro := vk ht
 have hma := fun m => Zw ht m
 cases ht with
 | mk hk hn hl hs hi =>
 refine Ja Tryz.func223 rfl rfl fun w => kv fun r1 => ?_; refine Jb rfl rfl rfl Jim (hma 16) oR (QK rfl ?_)
 refine Jp 5 rfl (fun gb => ?_) (fun gb => ?_) <;> (try simp only [ZZ] at gb) <;> first | (refine LR rfl (Jo (vs := [_, _, _]) rfl (kn 0 rfl) rfl rfl rfl rfl) ?_) | (refine LK rfl ?_)
 all_goals refine Do ?_
 all_goals (
  refine NE fun w1 hs1 => ?_
  unfold JG
  simp_all [JC]
  first | done | rfl | omega | (rw [Bool.eq_iff_iff]; simp only [Bool.and_eq_true, Bool.or_eq_true, decide_eq_true_eq, beq_iff_eq]; omega) | (simp only [decide_eq_true_eq, decide_eq_false_iff_not]; omega)
  skip)
theorem F_8 {n : Int} {p : Pl} {ins : List Ty} (ht : Ty.In R (.mk 8 n p ins)) : PureR Tryz.prog 226 [Ty.val (.mk 8 n p ins)].toArray (.bool (JG 8 n ins.length)) R := by
 have hno := Zv ht
 have hpl := XZ ht
 have hro := vk ht
 have hma := fun m => Zw ht m
 cases ht with
 | mk hk hn hl hs hi =>
 refine Ja Tryz.func226 rfl rfl fun w => kv fun r1 => ?_; refine Jb rfl rfl rfl Jim (hma 8) oR (QK rfl ?_)
 refine Jp 5 rfl (fun gb => ?_) (fun gb => ?_) <;> (try simp only [ZZ] at gb) <;> first | (refine LR rfl (Jo (vs := [_, _, _]) rfl (kn 0 rfl) rfl rfl rfl rfl) ?_) | (refine LK rfl ?_)
 all_goals refine Do ?_
 all_goals (
  refine NE fun w1 hs1 => ?_
  unfold JG
  simp_all [JC]
  first | done | rfl | omega | (rw [Bool.eq_iff_iff]; simp only [Bool.and_eq_true, Bool.or_eq_true, decide_eq_true_eq, beq_iff_eq]; omega) | (simp only [decide_eq_true_eq, decide_eq_false_iff_not]; omega)
  skip)
theorem WK {k : Int} : isK k = true ↔ 1 ≤ k ∧ k ≤ 8 := by unfold isK; simp
theorem Jyt {k n : Int} {p : Pl} {ins : List Ty} (ht : Ty.In R (.mk k n p ins)) (h : isK k = true) : Enters Tryz.prog (Jow k) ∧ PureR Tryz.prog (Jow k) [Ty.val (.mk k n p ins)].toArray (.bool (JG k n ins.length)) R := by
 have := WK.1 h
 have : k = 1 ∨ k = 2 ∨ k = 3 ∨ k = 4 ∨ k = 5 ∨ k = 6 ∨ k = 7 ∨ k = 8 := by omega
 rcases this with rfl | rfl | rfl | rfl | rfl | rfl | rfl | rfl
 ·exact ⟨enters_of Tryz.func196 m5 rfl, F_1 ht⟩
 ·exact ⟨enters_of Tryz.func203 m5 rfl, F_2 ht⟩
 ·exact ⟨enters_of Tryz.func208 m5 rfl, F_3 ht⟩
 ·exact ⟨enters_of Tryz.func215 m5 rfl, F_4 ht⟩
 ·exact ⟨enters_of Tryz.func217 m5 rfl, F_5 ht⟩
 ·exact ⟨enters_of Tryz.func221 m5 rfl, F_6 ht⟩
 ·exact ⟨enters_of Tryz.func223 m5 rfl, F_7 ht⟩
 ·exact ⟨enters_of Tryz.func226 m5 rfl, F_8 ht⟩
theorem Jge (k : Int) : (Zt k).all QW = true := by
 unfold Zt fnV
 cases isK k <;> cases Jgc k <;> rfl
theorem ZX {k : Int} (h : isK k = false) : k < 1 ∨ 8 < k := by unfold isK at h; simp at h; omega
theorem Jir {b : Bool} {f : FuncId} (h : b = true) : fnV b f = .func (.func f) #[] #[] := by rw [h]; rfl
theorem Jis {k : Int} (h : isK k = true) : Jgc k = (decide (k = 4) || decide (k = 6) || decide (k = 8)) := by
 have := WK.1 h
 have : k = 1 ∨ k = 2 ∨ k = 3 ∨ k = 4 ∨ k = 5 ∨ k = 6 ∨ k = 7 ∨ k = 8 := by omega
 rcases this with rfl | rfl | rfl | rfl | rfl | rfl | rfl | rfl <;> rfl
theorem Jti (ht : t.In R) : ∀ d : Int, 0 ≤ d → d ≤ 1000 → PureR Tryz.prog 141 [t.val, .int .i64 d].toArray (.int .i64 (Va t d)) R := by
  induction ht with
  | @mk k n p ins hk hn hl hs hi ih =>
  intro d hd0 hd1
  have hF := fun h => Jyt (.mk hk hn hl hs hi : Ty.In R (.mk k n p ins)) h
  refine Ja Tryz.func141 rfl rfl fun w => MX fun r1 => ?_; refine kR ?_
  refine JJ [] [(0, .grow (Qh 0 (fun r : Nat => Value.map (some r)) (fun r => [(r, Jkw)]))), (1, .pure), (4, .pure), (5, .pure), (6, .pure), (7, .grow (V1 vv (.cells #[.nilFunc, .nilFunc, .nilFunc, .bool false] 171 (0, 0)))), (8, .turn), (9, .pure)] 10 [1, 2, 0, 3, 4, 5, 6, 7, 8, 9] m5 m5 m6 ?_
  refine He ?_; refine Yx (k := 0) rfl rfl rfl rfl rfl Jdg qd fun mr => KG (k := 3) rfl rfl rfl rfl rfl (Ys (XQ (t := 3) m5) rfl rfl (kn 0 rfl) rfl rfl ⟨_, rfl⟩ Zu (Joy k)) (Dr ?_); refine gm ?_; refine Wt (k := 7) (cs := #[_, _, _, _]) rfl rfl rfl rfl rfl rfl fun r2 => ?_
  refine Zn (k := 8) (q := 0) (n := 4) (ys := Zt k) rfl rfl rfl rfl rfl rfl rfl rfl rfl (Jge k) mh (by first | exact (fun _ h => nomatch h) | simp [SubS]) ?_; refine Ji (k := 9) rfl rfl rfl rfl rfl (fun _ hS => (JP rfl)) ?_; refine Kk ?_; refine JQ 11 rfl ?_; refine cD (fun g => ?_) fun g => ?_
  refine D9 fun w1 hs1 => ?_; rw [Va, if_pos (ZX m9)]; rfl
  · refine kK ?_; refine Jk (Jir m9) (Gp ?_); refine Jb rfl rfl rfl (hF m9).1 (hF m9).2 oR (kR ?_); refine cD (fun g => ?_) fun g => ?_
    refine D9 fun w1 hs1 => ?_
    first
      | (rw [Va, if_pos (ZX m9)]; rfl)
      | (have hkk := WK.1 m9
         rw [Va, if_neg m0]
         first
         | (rw [if_pos m9]; rfl)
         | (rw [if_neg mz, if_pos m0]; rfl)
         | (rw [if_neg mz, if_neg m0, ← hinv, if_neg m9]; rfl)
         | (rw [if_neg mz, if_neg m0, ← hinv, List.drop_of_length_le m0, Xc]; rfl))
    · refine JE 7 rfl (cD (fun g => ?_) fun g => ?_)
      refine D9 fun w1 hs1 => ?_
      first
        | (rw [Va, if_pos (ZX m9)]; rfl)
        | (have hkk := WK.1 m9
           rw [Va, if_neg m0]
           first
           | (rw [if_pos m9]; rfl)
           | (rw [if_neg mz, if_pos m0]; rfl)
           | (rw [if_neg mz, if_neg m0, ← hinv, if_neg m9]; rfl)
           | (rw [if_neg mz, if_neg m0, ← hinv, List.drop_of_length_le m0, Xc]; rfl))
      · refine QZ 8 [2] rfl rfl (H0 ?_); refine Jy (σ := Nat) (fun i => i ≤ ins.length ∧ Xc (ins.drop i) (d + 1) = Xc ins (d + 1)) (fun i => [(1, .int .i64 d), (30, Ky ins.length p), (31, .int .i64 (ins.length : Int)), (32, .int .i64 (i : Int))]) (fun _ => []) (fun _ _ _ => True) (fun i => ins.length - i) 0 ⟨by omega, rfl⟩ (lK rfl) (List.nil_sublist _) (fun _ _ h => h) ?_; rintro i ⟨hi1, hinv⟩; refine Nv ?_; refine cD (fun g => ?_) fun g => ?_
        refine kX ?_
        obtain ⟨y, hy, hmem⟩ := Q0 nI
        rw [Yv hy, Xc] at hinv; refine H4 ?_; refine NT ?_; refine LN rfl fun r3 => Gt ?_; refine NC ?_; refine Jh m0 m0 (Jb rfl rfl rfl (enters_of Tryz.func141 m5 rfl) (ih y hmem (d + 1) m0 m0) oR (HW ?_)); refine cD (fun g => ?_) fun g => ?_
        refine GR fun w1 hs1 => ?_
        first
          | (rw [Va, if_pos (ZX m9)]; rfl)
          | (have hkk := WK.1 m9
             rw [Va, if_neg m0]
             first
             | (rw [if_pos m9]; rfl)
             | (rw [if_neg mz, if_pos m0]; rfl)
             | (rw [if_neg mz, if_neg m0, ← hinv, if_neg m9]; rfl)
             | (rw [if_neg mz, if_neg m0, ← hinv, List.drop_of_length_le m0, Xc]; rfl))
        refine G6 ?_; exact Jr (i + 1) ⟨by omega, by rw [if_pos m9] at hinv; exact hinv⟩ m0 (lK rfl) (List.nil_sublist _) (fun _ _ h => h)
        · refine kd fun w1 hs1 => ?_
          (have hkk := WK.1 m9
           rw [Va, if_neg m0]
           first
           | (rw [if_pos m9]; rfl)
           | (rw [if_neg mz, if_pos m0]; rfl)
           | (rw [if_neg mz, if_neg m0, ← hinv, if_neg m9]; rfl)
           | (rw [if_neg mz, if_neg m0, ← hinv, List.drop_of_length_le m0, Xc]; rfl))
theorem Jax (ht : t.In R) : PureR Tryz.prog 93 [t.val].toArray (.int .i64 (Va t 0)) R := by
 have h1 := Jti ht 0 m0 m0
 obtain ⟨k, n, p, ins⟩ := t
 refine Ja Tryz.func93 rfl rfl fun w => kv fun r1 => ?_; refine Jb rfl rfl rfl (enters_of Tryz.func141 m5 rfl) h1 oR ?_; exact Nz
def Jdo {α : Type} (b : α → Bool) : List α → Int → Int
 | [], _ => -1
 | y :: ys, j => if b y = true then j else Jdo b ys (j + 1)
theorem Jdp {α : Type} {b : α → Bool} : ∀ {l : List α} {j : Int}, 0 ≤ j → decide (0 ≤ Jdo b l j) = l.any b
 | [], _, _ => rfl
 | y :: ys, j, h => by
  rw [Jdo, List.any_cons]
  split
  ·rename_i hb; rw [hb]; simp [h]
  ·rename_i hb; rw [Jdp m0]; simp [hb]
theorem Jay {ins : List Ty} {p : Pl} {b : Ty → Bool} (eg : Enters Tryz.prog g) (hg : ∀ x ∈ ins, PureR Tryz.prog g [x.val].toArray (.bool (b x)) R) (hl : ins.length ≤ 9223372036854775807) (hs : Seg R ins.length (zf ins) p) :
  PureR Tryz.prog 263 [Ky ins.length p, fV g].toArray (.int .i64 (Jdo b ins 0)) R := by
 refine Ja Tryz.func263 rfl rfl fun w => gc ?_; refine H0 ?_; refine Jy (σ := Nat) (fun i => i ≤ ins.length ∧ Jdo b (ins.drop i) (i : Int) = Jdo b ins 0) (fun i => [(0, Ky ins.length p), (1, fV g), (7, .int .i64 (ins.length : Int)), (8, .int .i64 (i : Int))]) (fun _ => []) (fun _ _ _ => True) (fun i => ins.length - i) 0 ⟨by omega, rfl⟩ (lK rfl) (List.nil_sublist _) (fun _ _ h => h) ?_; rintro i ⟨hi1, hinv⟩; refine Nv ?_; refine cD (fun h6 => ?_) fun h6 => ?_
 refine JE 11 rfl ?_
 obtain ⟨y, hy, hmem⟩ := Q0 nI
 rw [Yv hy, Jdo] at hinv; refine Gx ?_; refine NT ?_; refine Jb rfl rfl rfl eg (hg y hmem) oR (Gj ?_); refine cD (fun h10 => ?_) fun h10 => ?_
 refine GR fun w1 hs1 => ?_; rw [← hinv, if_pos m9]; rfl
 refine G6 ?_; exact Jr (i + 1) ⟨by omega, by rw [if_neg mz] at hinv; exact hinv⟩ m0 (lK rfl) (List.nil_sublist _) (fun _ _ h => h)
 ·refine kd fun w1 hs1 => ?_; rw [← hinv, List.drop_of_length_le m0, Jdo]; rfl
theorem vB {ins : List Ty} {p : Pl} {b : Ty → Bool} (eg : Enters Tryz.prog g) (hg : ∀ x ∈ ins, PureR Tryz.prog g [x.val].toArray (.bool (b x)) R) (hl : ins.length ≤ 9223372036854775807) (hs : Seg R ins.length (zf ins) p) :
  PureR Tryz.prog 244 [Ky ins.length p, fV g].toArray (.bool (ins.any b)) R := by
 have h := Jay (b := b) eg hg hl hs
 rw [← Jdp (b := b) (l := ins) (Int.le_refl 0)]; refine Ja Tryz.func244 rfl rfl fun w => gc ?_; refine Jb rfl rfl rfl (enters_of Tryz.func263 m5 rfl) h oR (Ga ?_); exact Nc
theorem Jit : ∀ ins : List Ty, (ins.any fun x => !VP x) = !Yw ins
 | [] => rfl
 | x :: xs => by rw [List.any_cons, Jit xs, Yw, Bool.not_and]
theorem Jtj (ht : t.In R) : ∀ d : Int, Va t d = 0 → PureR Tryz.prog 182 [t.val].toArray (.bool (VP t)) R := by
 induction ht with
 | @mk k n p ins hk hn hl hs hi ih =>
 intro d hc
 obtain ⟨hk8, ho, h6, hci⟩ := Qv hc
 have hkk := WK.2 hk8
 have hcl : ∀ x ∈ ins, PureR Tryz.prog 245 [x.val].toArray (.bool (!VP x)) R := fun x hx => by
  have h1 := ih x hx (d + 1) (hci x hx)
  obtain ⟨xk, xn, xp, xi⟩ := x
  refine Ja Tryz.func245 rfl rfl fun w => kv fun r1 => ?_; refine Jb rfl rfl rfl (enters_of Tryz.func182 m5 rfl) h1 oR (Ga ?_); exact Nc
 have hany := vB (b := fun x => !VP x) (enters_of Tryz.func245 m5 rfl) hcl hl hs
 rw [Jit] at hany
 have hvb := Jis hkk
 rw [VP]; refine Ja Tryz.func182 rfl rfl fun w => MX fun r1 => ?_; refine kR ?_
 refine JJ [] [(0, .grow (Qh 0 (fun r : Nat => Value.map (some r)) (fun r => [(r, Jkw)]))), (1, .pure), (4, .pure), (5, .pure), (6, .pure), (7, .pure), (10, .pure), (11, .pure), (12, .pure)] 13 [1, 2, 0, 3, 4, 5, 6, 7, 8, 9, 10, 11, 12] m5 m5 m6 ?_
 refine He ?_; refine Ns fun mr => ?_; refine Ji (k := 5) rfl rfl rfl rfl rfl (fun _ hS => (J1 rfl rfl rfl)) (GM ?_)
 refine Jsc 9 rfl (fun gb => ?_) (fun gb => ?_) <;> (try simp only [ZZ] at gb) <;> first | (refine Ji (k := 7) rfl rfl rfl rfl rfl (fun _ hS => (J5 rfl rfl rfl)) ?_) | (refine vR (k := 7) rfl rfl rfl rfl ?_)
 all_goals first | refine KG (k := 8) rfl rfl rfl rfl rfl (Je rfl (kn 1 rfl) rfl rfl) ?_ | refine vR (k := 8) rfl rfl rfl rfl ?_
 all_goals first | (refine KR (k := 9) rfl rfl rfl rfl rfl (enters_of Tryz.func244 m5 rfl) hany oR ?_) | refine vR (k := 9) rfl rfl rfl rfl ?_
 all_goals first | refine Ji (k := 10) rfl rfl rfl rfl rfl (fun _ hS => (J1 rfl rfl rfl)) ?_ | refine vR (k := 10) rfl rfl rfl rfl ?_
 all_goals first | refine Ji (k := 11) rfl rfl rfl rfl rfl (fun _ hS => (YC rfl rfl)) ?_ | refine Ji (k := 11) rfl rfl rfl rfl rfl (fun _ hS => (YD rfl rfl)) ?_
 all_goals (
  refine Ji (k := 12) rfl rfl rfl rfl rfl (fun _ hS => (JP rfl)) (Kk (Jz 1 rfl (Yh 2 rfl ?_))); refine MW fun w1 hs1 => ?_
  simp_all [JC]
  all_goals first | done | (intros; omega)
  skip)
theorem Jaz (ht : t.In R) : PureR Tryz.prog 142 [t.val].toArray (.bool (JA t)) R := by
 have h1 := Jax ht
 have h2 := Jtj ht 0
 obtain ⟨k, n, p, ins⟩ := t
 refine Ja Tryz.func142 rfl rfl fun w => kv fun r1 => ?_; refine Jb rfl rfl rfl Jw1 h1 oR (NC ?_)
 refine Jp 6 rfl (fun gb => ?_) (fun gb => ?_) <;> (try simp only [ZZ] at gb) <;> first | (refine LR rfl (Jo (vs := [_, _, _]) rfl (kn 0 rfl) rfl rfl rfl rfl) ?_) | (refine LK rfl ?_)
 all_goals first | (refine Jb rfl rfl rfl (enters_of Tryz.func182 m5 rfl) (h2 m9) oR ?_) | refine LK rfl ?_
 all_goals (
  refine NE fun w1 hs1 => ?_
  simp_all [JA, JC]
  skip)
theorem Jtk {k n : Int} {p : Pl} {ins : List Ty} (ht : Ty.In R (.mk k n p ins)) (hsub : ∀ x ∈ ins, PureR Tryz.prog 183 [x.val].toArray (.int .i64 (JO x)) R) (hpos : ∀ x ∈ ins, 1 ≤ JO x) (hb : V5 ins ≤ 2251799813685248) :
  PureR Tryz.prog 214 [Ty.val (.mk k n p ins)].toArray (.int .i64 (V5 ins)) R := by
 cases ht with
 | mk hk hn hl hs hi =>
 have hdp : ∀ i, 0 ≤ V5 (ins.drop i) := fun i => by
  have : ∀ l : List Ty, (∀ x ∈ l, 1 ≤ JO x) → 0 ≤ V5 l := by
   intro l
   induction l with
   | nil => intro _; rw [V5]; omega
   | cons x xs ih => intro h; rw [V5]; have h1 := h x mf; have h2 := ih fun y hy => h y (by simp [hy]); omega
  exact this _ fun x hx => hpos x (List.mem_of_mem_drop hx)
 refine Ja Tryz.func214 rfl rfl fun w => MX fun r1 => ?_; refine X6 13 [0] rfl rfl (H0 ?_); refine Jy (σ := Nat × Int) (fun s => s.1 ≤ ins.length ∧ 0 ≤ s.2 ∧ s.2 + V5 (ins.drop s.1) = V5 ins) (fun s => [(3, .int .i64 s.2), (7, Ky ins.length p), (8, .int .i64 (ins.length : Int)), (9, .int .i64 (s.1 : Int))]) (fun _ => []) (fun _ _ _ => True) (fun s => ins.length - s.1) (0, 0) ⟨by omega, by omega, by simp⟩ (lK rfl) (List.nil_sublist _) (fun _ _ h => h) ?_; rintro ⟨i, m⟩ ⟨hi1, hm, hinv⟩; simp only at hinv hi1 hm; refine Nv ?_; refine cD (fun g => ?_) fun g => ?_
 refine kX ?_
 obtain ⟨y, hy, hmem⟩ := Q0 nI
 have hdi := hdp (i + 1)
 have hyp := hpos y hmem
 rw [Yv hy, V5] at hinv; refine H4 ?_; refine NT ?_; refine LN rfl fun r2 => Gt ?_; refine Jb rfl rfl rfl (enters_of Tryz.func183 m5 rfl) (hsub y hmem) oR (V7 rfl (Jh m0 m0 (JK 6 rfl ?_))); refine N0 ?_; exact Jr (i + 1, m + JO y) ⟨by omega, by simp only; omega, by simp only; omega⟩ ml (lK rfl) (List.nil_sublist _) (fun _ _ h => h)
 ·refine GR fun w1 hs1 => ?_; rw [← hinv, List.drop_of_length_le m0, V5, Int.add_zero]; rfl
theorem Jo0 {k n : Int} {p : Pl} {ins : List Ty} {d : Int} (hd : 0 ≤ d) (hc : Va (.mk k n p ins) d = 0) (hf : VP (.mk k n p ins) = true) : (∀ x ∈ ins, 1 ≤ JO x) ∧ V5 ins ≤ 2251799813685248 ∧ (k = 3 → 0 ≤ n * V5 ins ∧ n * V5 ins ≤ 2251799813685248) := by
 have hsz := jp _ d hd hc hf
 have hb5 := xT (show (5 - d).toNat ≤ 5 by omega)
 obtain ⟨hk8, ho, h6, hci⟩ := Qv hc
 rw [VP, Bool.and_eq_true] at hf
 have hfi := Zm.1 hf.2
 have hsub : ∀ x ∈ ins, 1 ≤ JO x ∧ JO x ≤ bnd (5 - (d + 1)).toNat := fun x hx => jp x (d + 1) m0 (hci x hx) (hfi x hx)
 have hL := vQ hsub
 refine ⟨fun x hx => (hsub x hx).1, ?_, fun h3 => ?_⟩
 ·by_cases he : ins = []
  ·subst he; rw [V5]; omega
  ·have hd5 : d < 5 := by
    obtain ⟨x, hx⟩ := List.exists_mem_of_ne_nil _ he
    cases x with
    | mk a b c e => have := (Qv (hci _ hx)).2.2.1; omega
   have hlen : ins.length ≤ 16 := by
    have h9 : k = 1 ∨ k = 2 ∨ k = 3 ∨ k = 4 ∨ k = 5 ∨ k = 6 ∨ k = 7 ∨ k = 8 := by omega
    unfold JG at ho
    rcases h9 with rfl | rfl | rfl | rfl | rfl | rfl | rfl | rfl <;> simp [he] at ho <;> omega
   have e : (5 - d).toNat = (5 - (d + 1)).toNat + 1 := by omega
   rw [e, bnd] at hb5
   have hb2 := vP (5 - (d + 1)).toNat
   generalize bnd (5 - (d + 1)).toNat = B at *
   exact DM
 ·subst h3
  have : JO (.mk 3 n p ins) = n * V5 ins := by rw [JO, if_neg m7, if_neg m7, if_neg m7, if_pos rfl]
  rw [this] at hsz; omega
theorem Jyu {k n : Int} {p : Pl} {ins : List Ty} {d : Int} (ht : Ty.In R (.mk k n p ins)) (hd : 0 ≤ d) (hc : Va (.mk k n p ins) d = 0) (hf : VP (.mk k n p ins) = true)
  (hsub : ∀ x ∈ ins, PureR Tryz.prog 183 [x.val].toArray (.int .i64 (JO x)) R) : Enters Tryz.prog (Jox k) ∧ PureR Tryz.prog (Jox k) [Ty.val (.mk k n p ins)].toArray (.int .i64 (JO (.mk k n p ins))) R := by
 obtain ⟨hpos, hb, h3⟩ := Jo0 hd hc hf
 have hp := Jtk ht hsub hpos hb
 obtain ⟨hk8, ho, h6, hci⟩ := Qv hc
 rw [VP, Bool.and_eq_true] at hf
 have hne : (k ≠ 4 ∧ k ≠ 6) ∧ k ≠ 8 := by simpa using hf.1
 have h9 : k = 1 ∨ k = 2 ∨ k = 3 ∨ k = 5 ∨ k = 7 := by omega
 rcases h9 with rfl | rfl | rfl | rfl | rfl
 refine ⟨enters_of Tryz.func202 m5 rfl, ?_⟩
 show PureR Tryz.prog 202 _ _ R
 rw [JO, if_pos rfl]; refine Ja Tryz.func202 rfl rfl fun w => ?_; exact Hb
 refine ⟨enters_of Tryz.func207 m5 rfl, ?_⟩
 show PureR Tryz.prog 207 _ _ R
 rw [JO, if_neg m7, if_pos rfl]; refine Ja Tryz.func207 rfl rfl fun w => MX fun r1 => ?_; refine Jz 9 rfl ?_; exact Nc
 refine ⟨enters_of Tryz.func213 m5 rfl, ?_⟩
 show PureR Tryz.prog 213 _ _ R
 have h3' := h3 rfl
 rw [JO, if_neg m7, if_neg m7, if_neg m7, if_pos rfl]; refine Ja Tryz.func213 rfl rfl fun w => MX fun r1 => ?_; refine kR ?_; refine JX 6 m5 m5 ?_
 refine ke ?_; refine Jc rfl rfl rfl (Jo (vs := [_, _, _]) rfl (kn 0 rfl) rfl rfl rfl rfl) (WQ rfl rfl rfl (enters_of Tryz.func214 m5 rfl) hp oR (N1 ?_)); refine V9 m0 m0 (NW ?_); refine HX ?_; exact Nc
 refine ⟨enters_of Tryz.func220 m5 rfl, ?_⟩
 show PureR Tryz.prog 220 _ _ R
 have hbit : 1 ≤ n ∧ n ≤ 512 := by simp [JG] at ho; omega
 rw [JO, if_neg m7, if_neg m7, if_pos rfl]; refine Ja Tryz.func220 rfl rfl fun w => MX fun r1 => ?_; refine X6 8 [0] rfl rfl (Jh m0 m0 (V7 rfl (Jh m0 m0 ?_))); refine V7 rfl (Jfg m0 m0 m0 (Jz 4 rfl ?_)); refine NP fun w1 hs1 => ?_; exact ⟨congrArg (fun z => Ending.returned (Value.int .i64 z)) m0, hs1.keep⟩
 ·refine ⟨enters_of Tryz.func225 m5 rfl, ?_⟩
  show PureR Tryz.prog 225 _ _ R
  rw [JO, if_neg m7, if_neg m7, if_neg m7, if_neg m7]; refine Ja Tryz.func225 rfl rfl fun w => kv fun r1 => ?_; refine Jb rfl rfl rfl (enters_of Tryz.func214 m5 rfl) hp oR ?_; exact Nz
theorem Jw3 (ht : t.In R) : ∀ d : Int, 0 ≤ d → Va t d = 0 → VP t = true → PureR Tryz.prog 183 [t.val].toArray (.int .i64 (JO t)) R := by
 induction ht with
 | @mk k n p ins hk hn hl hs hi ih =>
 intro d hd hc hf
 obtain ⟨hk8, ho, h6, hci⟩ := Qv hc
 have hkk := WK.2 hk8
 have hf0 := hf
 rw [VP, Bool.and_eq_true] at hf0
 have hfi := Zm.1 hf0.2
 have hz := Jyu (.mk hk hn hl hs hi : Ty.In R (.mk k n p ins)) hd hc hf fun x hx => ih x hx (d + 1) m0 (hci x hx) (hfi x hx)
 have hvb : (isK k && !Jgc k) = true := by rw [hkk, Jis hkk]; exact hf0.1
 refine Ja Tryz.func183 rfl rfl fun w => MX fun r1 => ?_; refine kR ?_
 refine JJ [] [(0, .grow (Qh 0 (fun r : Nat => Value.map (some r)) (fun r => [(r, Jkw)]))), (1, .pure), (4, .pure), (7, .pure)] 8 [1, 2, 5, 0, 3, 4, 6, 7] m5 m5 m6 ?_
 refine He ?_; refine KG (k := 5) rfl rfl rfl rfl rfl (Jo (vs := [_, _, _]) rfl (kn 0 rfl) rfl rfl rfl rfl) (Ns fun mr => ?_); refine VL (Jir hvb) (KR (k := 6) rfl rfl rfl rfl rfl hz.1 hz.2 oR (Ji (k := 7) rfl rfl rfl rfl rfl (fun _ hS => (JP rfl)) (Kk (HX ?_)))); exact Nc
theorem Jgf (ht : t.In R) : PureR Tryz.prog 143 [t.val].toArray (.int .i64 (WR t)) R := by
 have h1 := Jaz ht
 have h2 := Jw3 ht 0 m0
 obtain ⟨k, n, p, ins⟩ := t
 refine Ja Tryz.func143 rfl rfl fun w => MX fun r1 => ?_; refine Gc ?_; refine N2 ?_; refine Jb rfl rfl rfl Joj h1 oR (NR ?_); refine cD (fun g => ?_) fun g => ?_
 refine g8 fun w1 hs1 => ?_
 simp_all [WR, JC]
 ·refine Gx ?_; refine N2 ?_; refine Jb rfl rfl rfl (enters_of Tryz.func183 m5 rfl) (h2 (Wm.1 m9).1 (Wm.1 m9).2) oR (DG fun w1 hs1 => ?_)
  simp_all [WR, JC]
def WE (r : Nat) (v : Vl) : Nat × Obj := (r, .cells v.cells.toArray 81 (0, 0))
def zVl : Vl := .mk 0 0 0 0 [] none [] none 0
def clV (f : FuncId) (r : Nat) : Value := .func (.func f) #[] #[.pointer (some ⟨r, 0, none⟩)]
def Jdq (f : FuncId) (v out : Vl) : Prop := ∀ r1 rr : Nat, r1 ≠ rr → PureMR Tryz.prog f [.pointer (some ⟨rr, 0, none⟩), .pointer (some ⟨r1, 0, none⟩)].toArray (.tuple #[]) rr (WE rr zVl).2 (WE rr out).2 [WE r1 v]
theorem Jo1 (a b c d : Nat) (bits : List Bool) (pb : Pl) (items : List Vl) (pi : Pl) (pick : Int) : Jdq 251 (.mk a b c d bits pb items pi pick) (.mk a b c d [] none [] none 0) := fun r1 rr hne => by
 refine Xl (fun p hp => by rw [List.mem_singleton.1 hp]; exact hne) Tryz.func251 rfl rfl fun w => JS (Jt 3 rfl (LR rfl (Jo (vs := [_, _, _, _]) rfl (JB (k := 0) rfl) rfl rfl rfl rfl) (LS 2 [] rfl rfl ?_)))
 refine LT 0 rfl rfl (Jz 1 rfl (QB rfl rfl .nil (fun w1 hs1 => ?_))); exact ⟨rfl, _, List.mem_cons_self, hs1⟩
theorem Jtl (a b c d : Nat) (bits : List Bool) (pb : Pl) (items : List Vl) (pi : Pl) (pick : Int) : Jdq 254 (.mk a b c d bits pb items pi pick) (.mk 0 0 0 0 [] none items pi 0) := fun r1 rr hne => by
 refine Xl (fun p hp => by rw [List.mem_singleton.1 hp]; exact hne) Tryz.func254 rfl rfl fun w => JS (Jt 3 rfl (LR rfl (Je rfl (JB (k := 0) rfl) rfl rfl) (LS 2 [] rfl rfl ?_)))
 refine LT 0 rfl rfl (Jz 1 rfl (QB rfl rfl .nil (fun w1 hs1 => ?_))); exact ⟨rfl, _, List.mem_cons_self, hs1⟩
theorem Jw4 (a b c d : Nat) (bits : List Bool) (pb : Pl) (items : List Vl) (pi : Pl) (pick : Int) : Jdq 255 (.mk a b c d bits pb items pi pick) (.mk 0 0 0 0 bits pb [] none 0) := fun r1 rr hne => by
 refine Xl (fun p hp => by rw [List.mem_singleton.1 hp]; exact hne) Tryz.func255 rfl rfl fun w => JS (Jt 3 rfl (LR rfl (Je rfl (JB (k := 0) rfl) rfl rfl) (LS 2 [] rfl rfl ?_)))
 refine LT 0 rfl rfl (Jz 1 rfl (QB rfl rfl .nil (fun w1 hs1 => ?_))); exact ⟨rfl, _, List.mem_cons_self, hs1⟩
theorem Jw5 (a b c d : Nat) (bits : List Bool) (pb : Pl) (items : List Vl) (pi : Pl) (pick : Int) : Jdq 256 (.mk a b c d bits pb items pi pick) (.mk 0 0 0 0 [] none items pi pick) := fun r1 rr hne => by
 refine Xl (fun p hp => by rw [List.mem_singleton.1 hp]; exact hne) Tryz.func256 rfl rfl fun w => JS ?_
 refine JJ [] [(0, .pure), (1, .pure), (2, .pure), (3, .pure), (4, .pure), (5, .pure), (6, .pure), (7, .pure), (8, .turn), (9, .pure), (10, .pure), (11, .turn)] 12 [0, 1, 2, 3, 4, 5, 6, 7, 8, 9, 10, 11] m5 m5 m6 (Ji (k := 0) rfl rfl rfl rfl rfl (fun _ hS => (Jf rfl)) (Ji (k := 1) rfl rfl rfl rfl rfl (fun _ hS => (Jf rfl)) ?_))
 refine Ji (k := 2) rfl rfl rfl rfl rfl (fun _ hS => (J5 rfl rfl rfl)) (Ji (k := 3) rfl rfl rfl rfl rfl (fun _ hS => (Je rfl (JB (k := 0) rfl) rfl rfl)) ?_)
 refine Ji (k := 4) rfl rfl rfl rfl rfl (fun _ hS => (J5 rfl rfl rfl)) (Ji (k := 5) rfl rfl rfl rfl rfl (fun _ hS => (Je rfl (JB (k := 0) rfl) rfl rfl)) (Ji (k := 6) rfl rfl rfl rfl rfl (fun _ hS => (J1 rfl rfl rfl)) ?_))
 refine Ji (k := 7) rfl rfl rfl rfl rfl (fun _ hS => (J5 rfl rfl rfl)) ?_
 refine WS (k := 8) (q := 0) rfl rfl rfl rfl rfl rfl rfl rfl rfl mi mh m6 (Ji (k := 9) rfl rfl rfl rfl rfl (fun _ hS => (J1 rfl rfl rfl)) ?_)
 refine Ji (k := 10) rfl rfl rfl rfl rfl (fun _ hS => (J5 rfl rfl rfl)) ?_
 refine WS (k := 11) (q := 0) rfl rfl rfl rfl rfl rfl rfl rfl rfl mi mh m6 (Kk (Jz 1 rfl (QB rfl rfl .nil (fun w1 hs1 => ?_)))); exact ⟨rfl, _, List.mem_cons_self, hs1⟩
theorem Ja0  {out : Vl} {f : FuncId} (ef : Enters Tryz.prog f) (hv : v.In R) (ho : out.In R) (hk : Jdq f v out) (hr : WE rv v ∈ R) : PureR Tryz.prog 250 [v.val, clV f rv].toArray (.bool (X9 v out)) R := by
 have hsm := Jw2 hv out ho
 obtain ⟨a, b, c, d, bits, pb, items, pi, pick⟩ := v
 obtain ⟨a', b', c', d', bits', pb', items', pi', pick'⟩ := out
 refine Ja Tryz.func250 rfl rfl fun w => MX fun r1 => ?_; refine ND ?_; refine LN rfl fun r2 => ND ?_; refine Jj2 (k := 0) rfl rfl rfl ef rfl (fun hne => hk rv r2 (hne _ List.mem_cons_self)) (fun q hq => by rw [List.mem_singleton.1 hq]; exact hr) rfl (X6 6 [1, 0] rfl rfl (Jb rfl rfl rfl (enters_of Tryz.func265 m5 rfl) hsm oR ?_)); exact Nz
theorem vW  {a : Nat} {bits : List Bool} {items : List Vl} {pick : Int} (h : Vl.In R (.mk a b c d bits pb items pi pick)) : Vl.In R (.mk a b c d [] none [] none 0) ∧ Vl.In R (.mk 0 0 0 0 [] none items pi 0) ∧ Vl.In R (.mk 0 0 0 0 bits pb [] none 0) ∧ Vl.In R (.mk 0 0 0 0 [] none items pi pick) := by
 cases h with
 | mk ha hb hc hd hlb hsb hl hs hp hi =>
 have z : YK 0 := by unfold YK; omega
 have i0 : Yo 0 := by unfold Yo; omega
 refine ⟨.mk ha hb hc hd mf rfl mf rfl i0 mf, .mk z z z z mf rfl hl hs i0 hi, .mk z z z z hlb hsb mf rfl i0 mf, .mk z z z z mf rfl hl hs hp hi⟩
theorem yr (l : List Vl) : Wi l l = true := WB.2 ⟨rfl, fun i x y hx hy => by rw [hx] at hy; cases hy; exact Jfn x⟩
theorem zP (l : List Vl) : Wi l [] = decide (l.length = 0) := by cases l <;> simp [Wi]
theorem Jdr {a : Nat} {bits : List Bool} {items : List Vl} {pick : Int} : X9 (.mk a b c d bits pb items pi pick) (.mk a b c d [] none [] none 0) = Vn (.mk a b c d bits pb items pi pick) true false false false := by
 rw [Zs, Qn, zP]
 by_cases h1 : bits = [] <;> by_cases h2 : items = [] <;> by_cases h3 : pick = 0 <;> simp [h1, h2, h3]
theorem Jgg {a : Nat} {bits : List Bool} {items : List Vl} {pick : Int} : X9 (.mk a b c d bits pb items pi pick) (.mk 0 0 0 0 [] none items pi 0) = Vn (.mk a b c d bits pb items pi pick) false false true false := by
 rw [Zs, Qn, yr]
 by_cases h1 : bits = [] <;> by_cases h3 : pick = 0 <;> simp [h1, h3]
theorem Jkx {a : Nat} {bits : List Bool} {items : List Vl} {pick : Int} : X9 (.mk a b c d bits pb items pi pick) (.mk 0 0 0 0 bits pb [] none 0) = Vn (.mk a b c d bits pb items pi pick) false true false false := by
 rw [Zs, Qn, zP]
 by_cases h2 : items = [] <;> by_cases h3 : pick = 0 <;> simp [h2, h3]
theorem Jky {a : Nat} {bits : List Bool} {items : List Vl} {pick : Int} : X9 (.mk a b c d bits pb items pi pick) (.mk 0 0 0 0 [] none items pi pick) = Vn (.mk a b c d bits pb items pi pick) false false true true := by
 rw [Zs, Qn, yr]
 by_cases h1 : bits = [] <;> simp [h1]
theorem WW (hv : v.In R) : PureR Tryz.prog 200 [v.val].toArray (.bool (Vn v true false false false)) R := by
 obtain ⟨a, b, c, d, bits, pb, items, pi, pick⟩ := v
 have hb4 := vW hv
 refine Ja Tryz.func200 rfl rfl fun w => JS ?_; rw [← Jdr (pb := pb) (pi := pi)]; refine D3 fun r1 => ?_
 refine Jb (Rl := WE r1 (.mk a b c d bits pb items pi pick) :: R) rfl rfl rfl Jio (Ja0 (enters_of Tryz.func251 m5 rfl) (hv.mono fun q hq => List.mem_cons_of_mem _ hq) (hb4.1.mono fun q hq => List.mem_cons_of_mem _ hq) (Jo1 a b c d bits pb items pi pick) List.mem_cons_self) (fun q hq => by rcases List.mem_cons.1 hq with rfl | hq; exact .inl List.mem_cons_self; exact .inr hq) ?_; exact Nz
theorem Ya (hv : v.In R) : PureR Tryz.prog 212 [v.val].toArray (.bool (Vn v false false true false)) R := by
 obtain ⟨a, b, c, d, bits, pb, items, pi, pick⟩ := v
 have hb4 := vW hv
 refine Ja Tryz.func212 rfl rfl fun w => JS ?_; rw [← Jgg (pb := pb) (pi := pi)]; refine D3 fun r1 => ?_
 refine Jb (Rl := WE r1 (.mk a b c d bits pb items pi pick) :: R) rfl rfl rfl Jio (Ja0 (enters_of Tryz.func254 m5 rfl) (hv.mono fun q hq => List.mem_cons_of_mem _ hq) (hb4.2.1.mono fun q hq => List.mem_cons_of_mem _ hq) (Jtl a b c d bits pb items pi pick) List.mem_cons_self) (fun q hq => by rcases List.mem_cons.1 hq with rfl | hq; exact .inl List.mem_cons_self; exact .inr hq) ?_; exact Nz
theorem Zx (hv : v.In R) : PureR Tryz.prog 219 [v.val].toArray (.bool (Vn v false true false false)) R := by
 obtain ⟨a, b, c, d, bits, pb, items, pi, pick⟩ := v
 have hb4 := vW hv
 refine Ja Tryz.func219 rfl rfl fun w => JS ?_; rw [← Jkx (pb := pb) (pi := pi)]; refine D3 fun r1 => ?_
 refine Jb (Rl := WE r1 (.mk a b c d bits pb items pi pick) :: R) rfl rfl rfl Jio (Ja0 (enters_of Tryz.func255 m5 rfl) (hv.mono fun q hq => List.mem_cons_of_mem _ hq) (hb4.2.2.1.mono fun q hq => List.mem_cons_of_mem _ hq) (Jw4 a b c d bits pb items pi pick) List.mem_cons_self) (fun q hq => by rcases List.mem_cons.1 hq with rfl | hq; exact .inl List.mem_cons_self; exact .inr hq) ?_; exact Nz
theorem Zy (hv : v.In R) : PureR Tryz.prog 228 [v.val].toArray (.bool (Vn v false false true true)) R := by
 obtain ⟨a, b, c, d, bits, pb, items, pi, pick⟩ := v
 have hb4 := vW hv
 refine Ja Tryz.func228 rfl rfl fun w => JS ?_; rw [← Jky (pb := pb) (pi := pi)]; refine D3 fun r1 => ?_
 refine Jb (Rl := WE r1 (.mk a b c d bits pb items pi pick) :: R) rfl rfl rfl Jio (Ja0 (enters_of Tryz.func256 m5 rfl) (hv.mono fun q hq => List.mem_cons_of_mem _ hq) (hb4.2.2.2.mono fun q hq => List.mem_cons_of_mem _ hq) (Jw5 a b c d bits pb items pi pick) List.mem_cons_self) (fun q hq => by rcases List.mem_cons.1 hq with rfl | hq; exact .inl List.mem_cons_self; exact .inr hq) ?_; exact Nz
theorem vl {l : List Nat} (hl : WOk l) : (!zu [1, 0, 0, 0] l) = (decide (l = [0, 0, 0, 0]) || decide (l = [1, 0, 0, 0])) := by
 have h0 : WOk [0, 0, 0, 0] := ⟨rfl, fun x hx => by simp at hx; omega⟩
 have h1 : WOk [1, 0, 0, 0] := ⟨rfl, fun x hx => by simp at hx; omega⟩
 rw [Jmx h1 hl, show wN [1, 0, 0, 0] = 1 from rfl]
 by_cases e0 : l = [0, 0, 0, 0]
 ·subst e0; rfl
 by_cases e1 : l = [1, 0, 0, 0]
 ·subst e1; rfl
 have n0 : wN l ≠ 0 := fun h => e0 (Jmu hl h0 h)
 have n1 : wN l ≠ 1 := fun h => e1 (Jmu hl h1 h)
 simp [e0, e1]
 omega
theorem O_1 {n : Int} {p : Pl} {ins : List Ty} (ht : Ty.In R (.mk 1 n p ins)) (hv : v.In R) : PureR Tryz.prog 199 [Ty.val (.mk 1 n p ins), v.val].toArray (.bool (zO 1 n ins.length v)) R := by
 have hnu := WW hv
 have hit := Ya hv
 have hbi := Zx hv
 have hpk := Zy hv
 cases ht with
 | mk hk hn hlt hst hit0 =>
 cases hv with
 | @mk a b c d bits pb items pi pick ha hb hc hd hlb hsb hl hs hp hi =>
 have hw : WOk [a, b, c, d] := ⟨rfl, fun x hx => by simp at hx; rcases hx with rfl | rfl | rfl | rfl <;> assumption⟩
 have hw1 : WOk [1, 0, 0, 0] := ⟨rfl, fun x hx => by simp at hx; omega⟩
 have hl1 := vl hw
 refine kA ?_; refine Ja Tryz.func199 rfl rfl fun w => Nd fun r1 r2 => ?_; refine kR ?_; refine JX 12 m5 m5 (GU ?_)
 refine jI 7 rfl (fun gb => ?_) (fun gb => ?_) <;> (try simp only [ZZ] at gb) <;> first | (refine Jc rfl rfl rfl (J5 rfl rfl rfl) ?_) | (refine JZ rfl rfl rfl ?_)
 all_goals refine Dp ?_
 all_goals first | (refine Qt rfl rfl rfl (enters_of Tryz.func201 m5 rfl) (qc hw) ?_) | refine JZ rfl rfl rfl ?_
 all_goals first | refine Jc rfl rfl rfl (JI rfl rfl) ?_ | refine JZ rfl rfl rfl ?_
 all_goals refine HE ?_
 all_goals first | refine Jc rfl rfl rfl (Je rfl (kn 1 rfl) rfl rfl) ?_ | refine JZ rfl rfl rfl ?_
 all_goals first | refine Jc rfl rfl rfl (J1 rfl rfl rfl) ?_ | refine JZ rfl rfl rfl ?_
 all_goals refine gC ?_
 all_goals (
  refine Jc rfl rfl rfl (JP rfl) (Kv (Jz 1 rfl (Yh 2 rfl ?_))); refine MW fun w1 hs1 => ?_
  simp_all [JC]
  skip)
theorem O_2 {n : Int} {p : Pl} {ins : List Ty} (ht : Ty.In R (.mk 2 n p ins)) (hv : v.In R) : PureR Tryz.prog 205 [Ty.val (.mk 2 n p ins), v.val].toArray (.bool (zO 2 n ins.length v)) R := by
 have hnu := WW hv
 have hit := Ya hv
 have hbi := Zx hv
 have hpk := Zy hv
 cases ht with
 | mk hk hn hlt hst hit0 =>
 cases hv with
 | @mk a b c d bits pb items pi pick ha hb hc hd hlb hsb hl hs hp hi =>
 have hw : WOk [a, b, c, d] := ⟨rfl, fun x hx => by simp at hx; rcases hx with rfl | rfl | rfl | rfl <;> assumption⟩
 have hw1 : WOk [1, 0, 0, 0] := ⟨rfl, fun x hx => by simp at hx; omega⟩
 have hl1 := vl hw
 refine kA ?_; refine Ja Tryz.func205 rfl rfl fun w => Nd fun r1 r2 => ?_; refine kR ?_; refine JX 10 m5 m5 (GU ?_)
 refine jI 7 rfl (fun gb => ?_) (fun gb => ?_) <;> (try simp only [ZZ] at gb) <;> first | (refine Qt rfl rfl rfl Joc (Y0 ..) ?_) | (refine JZ rfl rfl rfl ?_)
 all_goals refine HE ?_
 all_goals refine Dp ?_
 all_goals first | (refine Qt rfl rfl rfl (enters_of Tryz.func206 m5 rfl) (Jdl hw1 hw) ?_) | refine JZ rfl rfl rfl ?_
 all_goals first | refine Jc rfl rfl rfl (J1 rfl rfl rfl) ?_ | refine JZ rfl rfl rfl ?_
 all_goals refine gC ?_
 all_goals (
  refine Jc rfl rfl rfl (JP rfl) (Kv (Jz 1 rfl (Yh 2 rfl ?_))); refine MW fun w1 hs1 => ?_
  simp_all [JC]
  skip)
theorem O_3 {n : Int} {p : Pl} {ins : List Ty} (ht : Ty.In R (.mk 3 n p ins)) (hv : v.In R) : PureR Tryz.prog 211 [Ty.val (.mk 3 n p ins), v.val].toArray (.bool (zO 3 n ins.length v)) R := by
 have hnu := WW hv
 have hit := Ya hv
 have hbi := Zx hv
 have hpk := Zy hv
 cases ht with
 | mk hk hn hlt hst hit0 =>
 cases hv with
 | @mk a b c d bits pb items pi pick ha hb hc hd hlb hsb hl hs hp hi =>
 have hw : WOk [a, b, c, d] := ⟨rfl, fun x hx => by simp at hx; rcases hx with rfl | rfl | rfl | rfl <;> assumption⟩
 have hw1 : WOk [1, 0, 0, 0] := ⟨rfl, fun x hx => by simp at hx; omega⟩
 have hl1 := vl hw
 refine kA ?_; refine Ja Tryz.func211 rfl rfl fun w => Nd fun r1 r2 => ?_; refine Nh ?_; refine Jb rfl rfl rfl Joq hit oR (QK rfl ?_)
 refine Jp 7 rfl (fun gb => ?_) (fun gb => ?_) <;> (try simp only [ZZ] at gb) <;> first | (refine LR rfl (J5 rfl rfl rfl) ?_) | (refine LK rfl ?_)
 all_goals refine N3 ?_
 all_goals refine Ng ?_
 all_goals (
  refine LW 4 [1] rfl rfl (Jz 1 rfl (Yh 2 rfl ?_)); refine MW fun w1 hs1 => ?_
  simp_all [JC]
  all_goals first | done | rfl | omega | (rw [Bool.eq_iff_iff]; simp only [Bool.and_eq_true, Bool.or_eq_true, decide_eq_true_eq, beq_iff_eq]; omega) | (simp only [decide_eq_true_eq, decide_eq_false_iff_not]; omega)
  skip)
theorem O_4 {n : Int} {p : Pl} {ins : List Ty} (ht : Ty.In R (.mk 4 n p ins)) (hv : v.In R) : PureR Tryz.prog 216 [Ty.val (.mk 4 n p ins), v.val].toArray (.bool (zO 4 n ins.length v)) R := by
 have hnu := WW hv
 have hit := Ya hv
 have hbi := Zx hv
 have hpk := Zy hv
 cases ht with
 | mk hk hn hlt hst hit0 =>
 cases hv with
 | @mk a b c d bits pb items pi pick ha hb hc hd hlb hsb hl hs hp hi =>
 have hw : WOk [a, b, c, d] := ⟨rfl, fun x hx => by simp at hx; rcases hx with rfl | rfl | rfl | rfl <;> assumption⟩
 have hw1 : WOk [1, 0, 0, 0] := ⟨rfl, fun x hx => by simp at hx; omega⟩
 have hl1 := vl hw
 refine kA ?_; refine Ja Tryz.func216 rfl rfl fun w => Nd fun r1 r2 => ?_; refine Nh ?_; refine Jb rfl rfl rfl Joq hit oR (DG fun w1 hs1 => ?_)
 simp_all [JC]
theorem O_5 {n : Int} {p : Pl} {ins : List Ty} (ht : Ty.In R (.mk 5 n p ins)) (hv : v.In R) : PureR Tryz.prog 218 [Ty.val (.mk 5 n p ins), v.val].toArray (.bool (zO 5 n ins.length v)) R := by
 have hnu := WW hv
 have hit := Ya hv
 have hbi := Zx hv
 have hpk := Zy hv
 cases ht with
 | mk hk hn hlt hst hit0 =>
 cases hv with
 | @mk a b c d bits pb items pi pick ha hb hc hd hlb hsb hl hs hp hi =>
 have hw : WOk [a, b, c, d] := ⟨rfl, fun x hx => by simp at hx; rcases hx with rfl | rfl | rfl | rfl <;> assumption⟩
 have hw1 : WOk [1, 0, 0, 0] := ⟨rfl, fun x hx => by simp at hx; omega⟩
 have hl1 := vl hw
 refine kA ?_; refine Ja Tryz.func218 rfl rfl fun w => Nd fun r1 r2 => ?_; refine Nh ?_; refine Jb rfl rfl rfl (enters_of Tryz.func219 m5 rfl) hbi oR (QK rfl ?_)
 refine Jp 7 rfl (fun gb => ?_) (fun gb => ?_) <;> (try simp only [ZZ] at gb) <;> first | (refine LR rfl (J5 rfl rfl rfl) ?_) | (refine LK rfl ?_)
 all_goals refine DA ?_
 all_goals first | refine LR rfl (Jq rfl hsb rfl) ?_ | refine LK rfl ?_
 all_goals refine Ng ?_
 all_goals (
  refine LW 4 [1] rfl rfl (Jz 1 rfl (Yh 2 rfl ?_)); refine MW fun w1 hs1 => ?_
  simp_all [JC]
  all_goals first | done | rfl | omega | (rw [Bool.eq_iff_iff]; simp only [Bool.and_eq_true, Bool.or_eq_true, decide_eq_true_eq, beq_iff_eq]; omega) | (simp only [decide_eq_true_eq, decide_eq_false_iff_not]; omega)
  skip)
theorem O_6 {n : Int} {p : Pl} {ins : List Ty} (ht : Ty.In R (.mk 6 n p ins)) (hv : v.In R) : PureR Tryz.prog 222 [Ty.val (.mk 6 n p ins), v.val].toArray (.bool (zO 6 n ins.length v)) R := by
 have hnu := WW hv
 have hit := Ya hv
 have hbi := Zx hv
 have hpk := Zy hv
 cases ht with
 | mk hk hn hlt hst hit0 =>
 cases hv with
 | @mk a b c d bits pb items pi pick ha hb hc hd hlb hsb hl hs hp hi =>
 have hw : WOk [a, b, c, d] := ⟨rfl, fun x hx => by simp at hx; rcases hx with rfl | rfl | rfl | rfl <;> assumption⟩
 have hw1 : WOk [1, 0, 0, 0] := ⟨rfl, fun x hx => by simp at hx; omega⟩
 have hl1 := vl hw
 refine kA ?_; refine Ja Tryz.func222 rfl rfl fun w => Nd fun r1 r2 => ?_; refine Nh ?_; refine Jb rfl rfl rfl (enters_of Tryz.func219 m5 rfl) hbi oR (DG fun w1 hs1 => ?_)
 simp_all [JC]
theorem O_7 {n : Int} {p : Pl} {ins : List Ty} (ht : Ty.In R (.mk 7 n p ins)) (hv : v.In R) : PureR Tryz.prog 224 [Ty.val (.mk 7 n p ins), v.val].toArray (.bool (zO 7 n ins.length v)) R := by
 have hnu := WW hv
 have hit := Ya hv
 have hbi := Zx hv
 have hpk := Zy hv
 cases ht with
 | mk hk hn hlt hst hit0 =>
 cases hv with
 | @mk a b c d bits pb items pi pick ha hb hc hd hlb hsb hl hs hp hi =>
 have hw : WOk [a, b, c, d] := ⟨rfl, fun x hx => by simp at hx; rcases hx with rfl | rfl | rfl | rfl <;> assumption⟩
 have hw1 : WOk [1, 0, 0, 0] := ⟨rfl, fun x hx => by simp at hx; omega⟩
 have hl1 := vl hw
 refine kA ?_; refine Ja Tryz.func224 rfl rfl fun w => Nd fun r1 r2 => ?_; refine Nh ?_; refine Jb rfl rfl rfl Joq hit oR (QK rfl ?_)
 refine Jp 7 rfl (fun gb => ?_) (fun gb => ?_) <;> (try simp only [ZZ] at gb) <;> first | (refine LR rfl (J5 rfl rfl rfl) ?_) | (refine LK rfl ?_)
 all_goals refine N3 ?_
 all_goals refine Ng ?_
 all_goals refine GY ?_
 all_goals first | refine LR rfl (Jq rfl hst rfl) ?_ | refine LK rfl ?_
 all_goals (
  refine gG fun w1 hs1 => ?_
  simp_all [JC]
  all_goals first | done | rfl | omega | (rw [Bool.eq_iff_iff]; simp only [Bool.and_eq_true, Bool.or_eq_true, decide_eq_true_eq, beq_iff_eq]; omega) | (simp only [decide_eq_true_eq, decide_eq_false_iff_not]; omega)
  skip)
theorem O_8 {n : Int} {p : Pl} {ins : List Ty} (ht : Ty.In R (.mk 8 n p ins)) (hv : v.In R) : PureR Tryz.prog 227 [Ty.val (.mk 8 n p ins), v.val].toArray (.bool (zO 8 n ins.length v)) R := by
 have hnu := WW hv
 have hit := Ya hv
 have hbi := Zx hv
 have hpk := Zy hv
 cases ht with
 | mk hk hn hlt hst hit0 =>
 cases hv with
 | @mk a b c d bits pb items pi pick ha hb hc hd hlb hsb hl hs hp hi =>
 have hw : WOk [a, b, c, d] := ⟨rfl, fun x hx => by simp at hx; rcases hx with rfl | rfl | rfl | rfl <;> assumption⟩
 have hw1 : WOk [1, 0, 0, 0] := ⟨rfl, fun x hx => by simp at hx; omega⟩
 have hl1 := vl hw
 refine kA ?_; refine Ja Tryz.func227 rfl rfl fun w => Nd fun r1 r2 => ?_; refine Nh ?_; refine Jb rfl rfl rfl (enters_of Tryz.func228 m5 rfl) hpk oR (QK rfl ?_)
 refine Jp 7 rfl (fun gb => ?_) (fun gb => ?_) <;> (try simp only [ZZ] at gb) <;> first | (refine LR rfl (J5 rfl rfl rfl) ?_) | (refine LK rfl ?_)
 all_goals refine gD ?_
 all_goals first | refine LK rfl ?_ | (refine Jp 13 rfl (fun gb => ?_) (fun gb => ?_) <;> (try simp only [ZZ] at gb) <;> first | (refine LR rfl (J5 rfl rfl rfl) ?_) | (refine LK rfl ?_))
 all_goals refine GZ ?_
 all_goals first | refine LK rfl ?_ | (refine Jp 18 rfl (fun gb => ?_) (fun gb => ?_) <;> (try simp only [ZZ] at gb) <;> first | (refine LR rfl (J5 rfl rfl rfl) ?_) | (refine LK rfl ?_))
 all_goals refine DA ?_
 all_goals refine Ng ?_
 all_goals refine GY ?_
 all_goals first | refine LR rfl (Jq rfl hst rfl) ?_ | refine LK rfl ?_
 all_goals (
  refine gG fun w1 hs1 => ?_
  simp_all [JC]
  all_goals first | done | rfl | omega | (rw [Bool.eq_iff_iff]; simp only [Bool.and_eq_true, Bool.or_eq_true, decide_eq_true_eq, beq_iff_eq]; omega) | (simp only [decide_eq_true_eq, decide_eq_false_iff_not]; omega)
  skip)
theorem Jyv {k n : Int} {p : Pl} {ins : List Ty} (ht : Ty.In R (.mk k n p ins)) (hv : v.In R) (h : isK k = true) : Enters Tryz.prog (ofF k) ∧ PureR Tryz.prog (ofF k) [Ty.val (.mk k n p ins), v.val].toArray (.bool (zO k n ins.length v)) R := by
 have := WK.1 h
 have : k = 1 ∨ k = 2 ∨ k = 3 ∨ k = 4 ∨ k = 5 ∨ k = 6 ∨ k = 7 ∨ k = 8 := by omega
 rcases this with rfl | rfl | rfl | rfl | rfl | rfl | rfl | rfl
 ·exact ⟨enters_of Tryz.func199 m5 rfl, O_1 ht hv⟩
 ·exact ⟨enters_of Tryz.func205 m5 rfl, O_2 ht hv⟩
 ·exact ⟨enters_of Tryz.func211 m5 rfl, O_3 ht hv⟩
 ·exact ⟨enters_of Tryz.func216 m5 rfl, O_4 ht hv⟩
 ·exact ⟨enters_of Tryz.func218 m5 rfl, O_5 ht hv⟩
 ·exact ⟨enters_of Tryz.func222 m5 rfl, O_6 ht hv⟩
 ·exact ⟨enters_of Tryz.func224 m5 rfl, O_7 ht hv⟩
 ·exact ⟨enters_of Tryz.func227 m5 rfl, O_8 ht hv⟩
def Vs (r : Nat) (t : Ty) : Nat × Obj := (r, .cells t.cells.toArray 76 (0, 0))
instance : Inhabited Vl := ⟨zVl⟩
def Yb (l : List Vl) (i : Nat) : Vl := l.getD i default
theorem Yc {l : List Vl} (h : i < l.length) : l[i]? = some (Yb l i) ∧ Yb l i ∈ l := by
 unfold Yb
 exact HM
theorem Jds (t : Ty) (v : Vl) : PureE (α := Nat × Nat) Tryz.prog 162 [t.val, v.val].toArray (fun p => .func (.func 229) #[] #[.pointer (some ⟨p.2, 0, none⟩), .pointer (some ⟨p.1, 0, none⟩)])
  (fun p => [WE p.2 v, Vs p.1 t]) := by
 obtain ⟨k, n, p, ins⟩ := t
 obtain ⟨a, b, c, d, bits, pb, items, pi, pick⟩ := v
 refine VB Tryz.func162 rfl rfl fun w => Nd fun r1 r2 => ?_; refine ND ?_; exact kC
def zQ (k pick : Int) (ins : List Ty) (items : List Vl) (i : Nat) : List Value := [(J0 k pick ins i).val, (Yb items i).val]
theorem Jdt {k n : Int} {p : Pl} {ins : List Ty} {a : Nat} {bits : List Bool} {items : List Vl} {pick : Int} (hl : items.length ≤ 9223372036854775807) (hlt : ins.length ≤ 9223372036854775807) (hs : Seg R items.length (KC items) pi) (hst : Seg R ins.length (zf ins) p)
    (hx : ∀ i, i < items.length → VQ k pick i < ins.length) (hp8 : k = 8 → 0 ≤ pick) (rt rv : Nat) :
    xB Tryz.prog 229 [.pointer (some ⟨rv, 0, none⟩), .pointer (some ⟨rt, 0, none⟩)] (WE rv (.mk a b c d bits pb items pi pick) :: Vs rt (.mk k n p ins) :: R) 0 (nxN (zQ k pick ins items) items.length) (Jfi items.length) := by
  have hs := hs.mono (R' := WE rv (.mk a b c d bits pb items pi pick) :: Vs rt (.mk k n p ins) :: R) fun q hq => List.mem_cons_of_mem _ (List.mem_cons_of_mem _ hq)
  have hst := hst.mono (R' := WE rv (.mk a b c d bits pb items pi pick) :: Vs rt (.mk k n p ins) :: R) fun q hq => List.mem_cons_of_mem _ (List.mem_cons_of_mem _ hq)
  refine W9 Tryz.func229 rfl rfl fun q xids w2 XI XF hY => JS (GW ?_); refine G7 ?_; refine H0 ?_; refine Jy (σ := Nat) (fun i => i ≤ items.length) (fun i => [(0, .func (.yield q) #[] #[]), (1, .pointer (some ⟨rv, 0, none⟩)), (2, .pointer (some ⟨rt, 0, none⟩)), (8, Ky items.length pi), (9, .int .i64 (items.length : Int)), (10, .int .i64 (i : Int))]) (fun _ => []) (fun i => XI i) (fun i => items.length - i) 0 (Nat.zero_le _) (lK rfl) (List.nil_sublist _) (fun _ _ h => h) ?_; intro i hi; refine Nv ?_; refine cD (fun g => ?_) fun g => ?_
  · refine kX ?_
    have hil : i < items.length := by omega
    have hix := Yc hil
    have hty := Kw (hx i hil)
    refine Nw ?_; refine Hq ?_; refine LR rfl (Qe oR rfl hs hix.1 rfl rfl) (LN rfl fun r1 => QK rfl (Ju (k := 0) (n := 7) (ys := (Yb items i).cells) rfl rfl rfl rfl rfl (Yb items i).len rfl (Yb items i).one rfl (JK 11 rfl ?_))); refine G8 ?_; refine HW ?_; refine cD (fun g => ?_) fun g => ?_
    · refine JE 7 rfl (Nj ?_); refine Kv (WP (XT := XI (i + 1)) (XF := XF) rfl rfl rfl rfl (hY i (zQ k pick ins items i) (i + 1) ⟨hil, rfl, rfl⟩) ?_ ?_)
      all_goals (
       refine H2 ?_; refine JH rfl (fun g => ?_) (fun g => ?_)
       · try exact Bool.noConfusion g
         all_goals try simp only [ZZ] at g
         all_goals (
          exact N5
          skip)
       · try exact Bool.noConfusion g
         all_goals try simp only [ZZ] at g
         all_goals (
          refine G6 ?_; exact NJ
          skip)
       skip)
    · refine Nv ?_; refine cD (fun g => ?_) fun g => ?_
      · refine Nw ?_; refine G7 ?_; refine JQ 5 rfl (Nj ?_); refine Kv (WP (XT := XI (i + 1)) (XF := XF) rfl rfl rfl rfl (hY i (zQ k pick ins items i) (i + 1) ⟨hil, rfl, rfl⟩) ?_ ?_)
        all_goals (
         refine H2 ?_; refine JH rfl (fun g => ?_) (fun g => ?_)
         · try exact Bool.noConfusion g
           all_goals try simp only [ZZ] at g
           all_goals (
            exact N5
            skip)
         · try exact Bool.noConfusion g
           all_goals try simp only [ZZ] at g
           all_goals (
            refine G6 ?_; exact NJ
            skip)
         skip)
      · refine JE 4 rfl (Nj ?_); refine Kv (WP (XT := XI (i + 1)) (XF := XF) rfl rfl rfl rfl (hY i (zQ k pick ins items i) (i + 1) ⟨hil, rfl, rfl⟩) ?_ ?_)
        all_goals (
         refine H2 ?_; refine JH rfl (fun g => ?_) (fun g => ?_)
         · try exact Bool.noConfusion g
           all_goals try simp only [ZZ] at g
           all_goals (
            exact N5
            skip)
         · try exact Bool.noConfusion g
           all_goals try simp only [ZZ] at g
           all_goals (
            refine G6 ?_; exact NJ
            skip)
         skip)
  · refine gn fun w1 hs1 => ?_
    obtain ⟨xs1, hx1⟩ := hs1.now
    exact ⟨⟨_, rfl⟩, hs1.keep, .inl ⟨i, _, (by show i = items.length; omega), hx1⟩⟩
theorem WF {a : Nat} {bits : List Bool} {items : List Vl} {pick k n : Int} {p : Pl} {ins : List Ty} (h1 : ¬ ((k = 4 ∧ n < items.length) ∨ (k = 6 ∧ n < bits.length))) (h2 : zO k n ins.length (.mk a b c d bits pb items pi pick) = true) : Kz (.mk a b c d bits pb items pi pick) (.mk k n p ins) = Qx items k pick ins 0 := by
 rw [Kz, if_neg h1, if_neg (by rw [h2]; simp)]
theorem Jw6 (hv : v.In R) : ∀ (t : Ty) (dp : Int), t.In R → Va t dp = 0 → PureR Tryz.prog 113 [t.val, v.val].toArray (.int .i64 (Kz v t)) R := by
  have hv0 := hv
  induction hv with
  | @mk a b c d bits pb items pi pick ha hb hc hd hlb hsb hl hs hp hi ih =>
  intro t dp ht hck
  have ht0 := ht
  cases ht with
  | @mk k n p ins hk hn hlt hst hit =>
  obtain ⟨hk8, ho, h6, hci⟩ := Qv hck
  have hkk := WK.2 hk8
  have hO := Jyv ht0 hv0 hkk
  refine Ja Tryz.func113 rfl rfl fun w => Nd fun r1 r2 => ?_; refine LN rfl fun r3 => X6 11 [2] rfl rfl ?_
  refine Jp 12 rfl (fun gb => ?_) (fun gb => ?_) <;> (try simp only [ZZ] at gb) <;> first | (refine LR rfl (J5 rfl rfl rfl) ?_) | (refine LK rfl ?_)
  all_goals refine GY ?_
  all_goals first | refine LR rfl (Jq rfl hs rfl) ?_ | refine LK rfl ?_
  all_goals refine Ng ?_
  all_goals (
   refine LW 4 [2] rfl rfl (Jz 1 rfl (Zj 1 rfl ?_)); refine JH rfl (fun g => ?_) (fun g => ?_)
   · try exact Bool.noConfusion g
     all_goals try simp only [ZZ] at g
     all_goals (
      refine JE 2 rfl (cD (fun g => ?_) fun g => ?_)
      refine Nw ?_
      refine ki ?_
      first
        | (refine QQ (k := 0) rfl rfl ?_
           refine gy fun w1 hs1 => ?_
           first | exact ⟨by rw [hfo, ← he]; rfl, hs1.keep⟩ | exact ⟨by rw [hfo, hz]; rfl, hs1.keep⟩)
        | (refine Jd rfl rfl (.cons (KT rfl (kn 0 rfl) rfl rfl) .nil) (fun w1 hs1 => ?_)
           first | exact ⟨by rw [Kz, if_pos m0]; rfl, hs1.keep⟩ | exact ⟨by rw [Kz, if_neg m0, if_pos m9]; rfl, hs1.keep⟩)
        | (refine Jd rfl rfl (.cons (KT rfl (kn 1 rfl) rfl rfl) .nil) (fun w1 hs1 => ?_)
           first | exact ⟨by rw [Kz, if_pos m0]; rfl, hs1.keep⟩ | exact ⟨by rw [Kz, if_neg m0, if_pos m9]; rfl, hs1.keep⟩)
      refine GL ?_
      refine JJ [] [(0, .grow (Qh 0 (fun r : Nat => Value.map (some r)) (fun r => [(r, Jkw)]))), (1, .pure), (4, .pure), (8, .pure), (9, .pure)] 10 [1, 2, 5, 6, 0, 3, 4, 7, 8, 9] m5 m5 m6 ?_
      refine kH ?_; refine NH fun mr => ?_; refine Kk (Gj ?_); refine cD (fun g => ?_) fun g => ?_
      refine Nw ?_
      refine Db ?_; refine Ga ?_
      (refine Jd rfl rfl (.cons (KT rfl (kn 1 rfl) rfl rfl) .nil) (fun w1 hs1 => ?_)
       first | exact ⟨by rw [Kz, if_pos m0]; rfl, hs1.keep⟩ | exact ⟨by rw [Kz, if_neg m0, if_pos m9]; rfl, hs1.keep⟩)
      refine kX ?_
      have hfo := WF (a := a) (b := b) (c := c) (d := d) (pb := pb) (pi := pi) (p := p) nT m9
      have hxl : ∀ i, i < items.length → VQ k pick i < ins.length := fun i hi => qI (v := .mk a b c d bits pb items pi pick) hck m9 hi
      have hp8 : k = 8 → 0 ≤ pick := fun h => by subst h; exact Jvm (v := .mk a b c d bits pb items pi pick) m9
      refine D8 fun pp => ?_
      obtain ⟨rt, rv⟩ := pp
      refine Gz ?_
      refine Xq (τ := Int) (fun i (_ : Unit) => i ≤ items.length ∧ Qx (items.drop i) k pick ins i = Qx items k pick ins 0) (fun _ => [(r3, .cells #[.int .i64 (0)] 27 (0, 0))]) (fun j e => j = .ret ∧ e = Qx items k pick ins 0) (fun e => [(r3, .cells #[.int .i64 (e)] 27 (0, 0))]) [WE rv (.mk a b c d bits pb items pi pick), Vs rt (.mk k n p ins), _, _, _] () rfl rfl (enters_of Tryz.func229 m5 rfl) (Jdt (n := n) (a := a) (b := b) (c := c) (d := d) (bits := bits) (pb := pb) hl hlt hs hst hxl hp8 rt rv) mA rfl (fun q hq => by rcases List.mem_cons.1 hq with rfl | hq; exact .inl mf; rcases List.mem_cons.1 hq with rfl | hq; exact .inl mf; exact .inr hq) rfl ⟨Nat.zero_le _, rfl⟩ ?_ ?_ ?_
      rintro q Xr Xb w3 i _ _ ⟨⟩ ⟨hii, rfl, rfl⟩ ⟨hil, hinv⟩ Kr hKr; refine inR ?_
      have hix := Yc hii
      have hty := Kw (hxl i hii)
      rw [Yv hix.1, Qx] at hinv
      unfold zQ
      refine Nw ?_; refine LN rfl fun r4 => Hd ?_; refine LN rfl fun r5 => gE ?_; refine gF ?_; clear hKr; refine ko ?_; refine cD (fun g => ?_) fun g => ?_
      refine GW ?_
      refine LT 2 rfl rfl (gJ ?_); refine QG [2] (L' := [_]) m7 rfl (zq (Kz (Yb items i) (J0 k pick ins i)) ⟨rfl, by rw [if_neg m9] at hinv; exact hinv⟩ rfl)
      refine KK 2 rfl (QG [2] (L' := [_]) m7 rfl (QU () ⟨by omega, by rw [if_pos m9] at hinv; exact hinv⟩ rfl))
      rintro D i ⟨⟩ hfi ⟨hil, hinv⟩
      have hin : i = items.length := hfi
      have hz : Qx items k pick ins 0 = 0 := by rw [← hinv, hin, List.drop_length, Qx]
      refine gqo 4 rfl ?_
      refine Db ?_; refine HX ?_
      (refine QQ (k := 0) rfl rfl ?_
       refine gy fun w1 hs1 => ?_
       first | exact ⟨by rw [hfo, ← he]; rfl, hs1.keep⟩ | exact ⟨by rw [hfo, hz]; rfl, hs1.keep⟩)
      rintro D j e ⟨rfl, he⟩
      refine KK 3 rfl ?_
      first
        | (refine QQ (k := 0) rfl rfl ?_
           refine gy fun w1 hs1 => ?_
           first | exact ⟨by rw [hfo, ← he]; rfl, hs1.keep⟩ | exact ⟨by rw [hfo, hz]; rfl, hs1.keep⟩)
        | (refine Jd rfl rfl (.cons (KT rfl (kn 0 rfl) rfl rfl) .nil) (fun w1 hs1 => ?_)
           first | exact ⟨by rw [Kz, if_pos m0]; rfl, hs1.keep⟩ | exact ⟨by rw [Kz, if_neg m0, if_pos m9]; rfl, hs1.keep⟩)
        | (refine Jd rfl rfl (.cons (KT rfl (kn 1 rfl) rfl rfl) .nil) (fun w1 hs1 => ?_)
           first | exact ⟨by rw [Kz, if_pos m0]; rfl, hs1.keep⟩ | exact ⟨by rw [Kz, if_neg m0, if_pos m9]; rfl, hs1.keep⟩)
      skip)
   · try simp only [ZZ] at g
     refine QZ 5 [2] rfl rfl ?_
     refine Jp 23 rfl (fun gb => ?_) (fun gb => ?_) <;> (try simp only [ZZ] at gb) <;> first | (refine LR rfl (J5 rfl rfl rfl) ?_) | (refine LK rfl ?_)
     all_goals refine GY ?_
     all_goals first | refine LR rfl (Jq rfl hsb rfl) ?_ | refine LK rfl ?_
     all_goals refine Ng ?_
     all_goals (
      refine LW 4 [2] rfl rfl (Jz 1 rfl (Zj 1 rfl ?_)); refine JH rfl (fun g => ?_) (fun g => ?_)
      · try exact Bool.noConfusion g
        all_goals try simp only [ZZ] at g
        all_goals (
         refine Nw ?_
         refine ki ?_
         first
           | (refine QQ (k := 0) rfl rfl ?_
              refine gy fun w1 hs1 => ?_
              first | exact ⟨by rw [hfo, ← he]; rfl, hs1.keep⟩ | exact ⟨by rw [hfo, hz]; rfl, hs1.keep⟩)
           | (refine Jd rfl rfl (.cons (KT rfl (kn 0 rfl) rfl rfl) .nil) (fun w1 hs1 => ?_)
              first | exact ⟨by rw [Kz, if_pos m0]; rfl, hs1.keep⟩ | exact ⟨by rw [Kz, if_neg m0, if_pos m9]; rfl, hs1.keep⟩)
           | (refine Jd rfl rfl (.cons (KT rfl (kn 1 rfl) rfl rfl) .nil) (fun w1 hs1 => ?_)
              first | exact ⟨by rw [Kz, if_pos m0]; rfl, hs1.keep⟩ | exact ⟨by rw [Kz, if_neg m0, if_pos m9]; rfl, hs1.keep⟩)
         skip)
      try simp only [ZZ] at g
      refine GL ?_
      refine JJ [] [(0, .grow (Qh 0 (fun r : Nat => Value.map (some r)) (fun r => [(r, Jkw)]))), (1, .pure), (4, .pure), (8, .pure), (9, .pure)] 10 [1, 2, 5, 6, 0, 3, 4, 7, 8, 9] m5 m5 m6 ?_
      refine kH ?_; refine NH fun mr => ?_; refine Kk (Gj ?_); refine cD (fun g => ?_) fun g => ?_
      refine Nw ?_
      refine Db ?_; refine Ga ?_
      (refine Jd rfl rfl (.cons (KT rfl (kn 1 rfl) rfl rfl) .nil) (fun w1 hs1 => ?_)
       first | exact ⟨by rw [Kz, if_pos m0]; rfl, hs1.keep⟩ | exact ⟨by rw [Kz, if_neg m0, if_pos m9]; rfl, hs1.keep⟩)
      refine kX ?_
      have hfo := WF (a := a) (b := b) (c := c) (d := d) (pb := pb) (pi := pi) (p := p) nT m9
      have hxl : ∀ i, i < items.length → VQ k pick i < ins.length := fun i hi => qI (v := .mk a b c d bits pb items pi pick) hck m9 hi
      have hp8 : k = 8 → 0 ≤ pick := fun h => by subst h; exact Jvm (v := .mk a b c d bits pb items pi pick) m9
      refine D8 fun pp => ?_
      obtain ⟨rt, rv⟩ := pp
      refine Gz ?_
      refine Xq (τ := Int) (fun i (_ : Unit) => i ≤ items.length ∧ Qx (items.drop i) k pick ins i = Qx items k pick ins 0) (fun _ => [(r3, .cells #[.int .i64 (0)] 27 (0, 0))]) (fun j e => j = .ret ∧ e = Qx items k pick ins 0) (fun e => [(r3, .cells #[.int .i64 (e)] 27 (0, 0))]) [WE rv (.mk a b c d bits pb items pi pick), Vs rt (.mk k n p ins), _, _, _] () rfl rfl (enters_of Tryz.func229 m5 rfl) (Jdt (n := n) (a := a) (b := b) (c := c) (d := d) (bits := bits) (pb := pb) hl hlt hs hst hxl hp8 rt rv) mA rfl (fun q hq => by rcases List.mem_cons.1 hq with rfl | hq; exact .inl mf; rcases List.mem_cons.1 hq with rfl | hq; exact .inl mf; exact .inr hq) rfl ⟨Nat.zero_le _, rfl⟩ ?_ ?_ ?_
      rintro q Xr Xb w3 i _ _ ⟨⟩ ⟨hii, rfl, rfl⟩ ⟨hil, hinv⟩ Kr hKr; refine inR ?_
      have hix := Yc hii
      have hty := Kw (hxl i hii)
      rw [Yv hix.1, Qx] at hinv
      unfold zQ
      refine Nw ?_; refine LN rfl fun r6 => Hd ?_; refine LN rfl fun r7 => gE ?_; refine gF ?_; clear hKr; refine ko ?_; refine cD (fun g => ?_) fun g => ?_
      refine GW ?_
      refine LT 2 rfl rfl (gJ ?_); refine QG [2] (L' := [_]) m7 rfl (zq (Kz (Yb items i) (J0 k pick ins i)) ⟨rfl, by rw [if_neg m9] at hinv; exact hinv⟩ rfl)
      refine KK 2 rfl (QG [2] (L' := [_]) m7 rfl (QU () ⟨by omega, by rw [if_pos m9] at hinv; exact hinv⟩ rfl))
      rintro D i ⟨⟩ hfi ⟨hil, hinv⟩
      have hin : i = items.length := hfi
      have hz : Qx items k pick ins 0 = 0 := by rw [← hinv, hin, List.drop_length, Qx]
      refine gqo 4 rfl ?_
      refine Db ?_; refine HX ?_
      (refine QQ (k := 0) rfl rfl ?_
       refine gy fun w1 hs1 => ?_
       first | exact ⟨by rw [hfo, ← he]; rfl, hs1.keep⟩ | exact ⟨by rw [hfo, hz]; rfl, hs1.keep⟩)
      rintro D j e ⟨rfl, he⟩
      refine KK 3 rfl ?_
      first
        | (refine QQ (k := 0) rfl rfl ?_
           refine gy fun w1 hs1 => ?_
           first | exact ⟨by rw [hfo, ← he]; rfl, hs1.keep⟩ | exact ⟨by rw [hfo, hz]; rfl, hs1.keep⟩)
        | (refine Jd rfl rfl (.cons (KT rfl (kn 0 rfl) rfl rfl) .nil) (fun w1 hs1 => ?_)
           first | exact ⟨by rw [Kz, if_pos m0]; rfl, hs1.keep⟩ | exact ⟨by rw [Kz, if_neg m0, if_pos m9]; rfl, hs1.keep⟩)
        | (refine Jd rfl rfl (.cons (KT rfl (kn 1 rfl) rfl rfl) .nil) (fun w1 hs1 => ?_)
           first | exact ⟨by rw [Kz, if_pos m0]; rfl, hs1.keep⟩ | exact ⟨by rw [Kz, if_neg m0, if_pos m9]; rfl, hs1.keep⟩)
      skip)
   skip)
theorem Jo2 (ht : t.In R) (hv : v.In R) : PureR Tryz.prog 76 [t.val, v.val].toArray (.int .i64 (V3 t v)) R := by
 have h1 := Jax ht
 have h2 := Jw6 hv t 0 ht
 obtain ⟨k, n, p, ins⟩ := t
 obtain ⟨a, b, c, d, bits, pb, items, pi, pick⟩ := v
 refine Ja Tryz.func76 rfl rfl fun w => Nd fun r1 r2 => ?_; refine Gc ?_; refine Gn ?_; refine Jb rfl rfl rfl Jw1 h1 oR (HW ?_); refine cD (fun g => ?_) fun g => ?_
 refine D9 fun w1 hs1 => ?_; rw [V3, if_neg m9]; rfl
 ·refine QZ 6 [1, 0] rfl rfl (Jb rfl rfl rfl Jof (h2 m9) oR (DG fun w1 hs1 => ?_)); rw [V3, if_pos m9]; rfl
theorem yt {n : Nat} (h : n < 256) : UInt8.ofNat n = 0 ↔ n = 0 := by
 constructor
 ·intro e
  have := congrArg UInt8.toNat e
  rw [UInt8.toNat_ofNat', Nat.mod_eq_of_lt h] at this; exact this
 ·rintro rfl; rfl
theorem qe (l : List Nat) : ∀ n k, (Lib.trimLeftB (ZO l n) 0).length ≤ k ↔ ∀ t, k ≤ t → t < n → dg l t = 0
 | 0, k => by simp [ZO, Lib.trimLeftB]
 | n + 1, k => by
  have ih := qe l n k
  by_cases hz : dg l n = 0
  ·have e : Lib.trimLeftB (ZO l (n + 1)) 0 = Lib.trimLeftB (ZO l n) 0 := by simp [ZO, Lib.trimLeftB, hz]
   rw [e, ih]
   constructor
   ·intro h t h1 h2
    by_cases ht : t = n
    ·rw [ht]; exact hz
    ·exact h t h1 m0
   ·intro h t h1 h2; exact h t h1 m0
  ·have hne : ¬ UInt8.ofNat (dg l n) = 0 := fun e => hz ((yt (Jmo l n)).1 e)
   have e : Lib.trimLeftB (ZO l (n + 1)) 0 = ZO l (n + 1) := by simp [ZO, Lib.trimLeftB, hne]
   rw [e, We]
   constructor
   ·intro h t h1 h2; omega
   ·intro h
    rcases Nat.lt_or_ge n k with hk | hk
    ·omega
    ·exact absurd (h n hk m0) hz
theorem zR {l : List Nat} (hl : WOk l) : X7 l = decide ((WD l).length ≤ 8) := by
 unfold X7 WD
 rw [decide_eq_decide, qe]
 constructor
 ·intro h t h1 h2
  have hj : t / 8 = 1 ∨ t / 8 = 2 ∨ t / 8 = 3 := by omega
  rw [h]
  rcases hj with e | e | e <;> simp [dg, e]
 ·intro h
  have hz : ∀ j, 1 ≤ j → j < 4 → l.getD j 0 = 0 := fun j h1 h2 => by
   rw [← Jcg hl h2]
   have : ∀ m, m ≤ 8 → pw (dg l) j m = 0 := by
    intro m
    induction m with
    | zero => intro _; rfl
    | succ m ih => intro hm; simp only [pw]; rw [ih m0, h (8 * j + m) m0 m0]; simp
   exact this 8 m0
  obtain ⟨a, b, c, d, rfl, _⟩ := hl.four
  have e1 := hz 1 m7 m7
  have e2 := hz 2 m7 m7
  have e3 := hz 3 m7 m7
  simp only [List.getD_cons_zero, List.getD_cons_succ] at e1 e2 e3 ⊢; rw [e1, e2, e3]
theorem jx : ∀ n, Lib.repeatL [0] n = List.replicate n 0
 | 0 => rfl
 | n + 1 => by rw [Lib.repeatL, jx n]; rfl
theorem Jdu (t : List UInt8) : ∃ k, t = List.replicate k 0 ++ Lib.trimLeftB t 0 := by
 induction t with
 | nil => exact ⟨0, rfl⟩
 | cons x t ih =>
  by_cases hx : x = 0
  ·subst hx
   obtain ⟨k, hk⟩ := ih
   refine ⟨k + 1, ?_⟩; simp only [Lib.trimLeftB, if_true, List.replicate_succ, List.cons_append] at hk ⊢
   simpa using hk
  ·exact ⟨0, by simp [Lib.trimLeftB, hx]⟩
theorem Jgh (l : List Nat) : (WD l).length ≤ 32 := by
 obtain ⟨k, hk⟩ := Jdu (ZO l 32)
 have h := congrArg List.length hk
 rw [We, List.length_append, List.length_replicate] at h
 unfold WD; omega
theorem Jdv (n : Nat) : X7 [n, 0, 0, 0] = true := by simp [X7]
theorem Jo3 {l : List Nat} (h : X7 l = true) : [l.getD 0 0, 0, 0, 0] = l := by
 simp only [X7, decide_eq_true_eq] at h; exact h.symm
theorem Jw7 {n : Nat} (h : n < 18446744073709551616) : WOk [n, 0, 0, 0] := ⟨rfl, fun x hx => by simp at hx; rcases hx with rfl | rfl <;> simp_all⟩
def beN (n : Nat) : List UInt8 := WD [n, 0, 0, 0]
theorem Jo4 {n t : Nat} (h : t < 8) : dg [n, 0, 0, 0] t = n / 256 ^ t % 256 := by
 have e : t / 8 = 0 := by omega
 have e2 : t % 8 = t := by omega
 simp only [dg, e, e2, List.getD_cons_zero]; rw [show (256 : Nat) = 2 ^ 8 from rfl, ← Nat.pow_mul, Nat.mul_comm]
theorem Jw8 {n t : Nat} (h : 8 ≤ t) (h2 : t < 32) : dg [n, 0, 0, 0] t = 0 := by
 have hj : t / 8 = 1 ∨ t / 8 = 2 ∨ t / 8 = 3 := by omega
 rcases hj with e | e | e <;> simp [dg, e]
theorem Jiu {n k : Nat} (hn : n < 18446744073709551616) (hk : k ≤ 8) : (beN n).length ≤ k ↔ n < 256 ^ k := by
 unfold beN WD
 rw [qe]
 constructor
 ·intro h
  have h' : ∀ t, k ≤ t → t < 8 → n / 256 ^ t % 256 = 0 := fun t h1 h2 => by rw [← Jo4 h2]; exact h t h1 m0
  have key : ∀ j, k ≤ j → j ≤ 8 → n < 256 ^ j → n < 256 ^ k := by
   intro j
   induction j with
   | zero => intro h1 _ h3; rw [show k = 0 from by omega]; exact h3
   | succ j ih =>
    intro h1 h2 h3
    by_cases e : k = j + 1
    ·rw [e]; exact h3
    ·refine ih m0 m0 ?_
     have h4 := h' j m0 m0
     have h5 : n / 256 ^ j < 256 := by
      rw [Nat.div_lt_iff_lt_mul (Nat.pow_pos m7)]; rw [Nat.pow_succ, Nat.mul_comm] at h3; exact h3
     rw [Nat.mod_eq_of_lt h5] at h4
     rcases Nat.div_eq_zero_iff.1 h4 with h6 | h6
     ·have := Nat.pow_pos (n := j) (show 0 < 256 by decide); omega
     ·exact h6
  exact key 8 hk (Nat.le_refl _) hn
 ·intro h t h1 h2
  by_cases ht : t < 8
  ·rw [Jo4 ht, Nat.div_eq_of_lt (Nat.lt_of_lt_of_le h (Nat.pow_le_pow_right m7 h1))]
  ·exact Jw8 m0 h2
theorem Jo5 {n : Nat} (hn : n < 18446744073709551616) : Pure Tryz.prog 232 [uV n].toArray (.string (bs (beN n))) := by
 refine J8 Tryz.func232 rfl rfl fun w => GS ?_; refine J6 rfl rfl rfl Joc (Y0 n) (J6 rfl rfl rfl (enters_of Tryz.func201 m5 rfl) (qc (Jw7 hn)) ?_); exact Nz
def zS (n : Nat) (w : Int) : List UInt8 × Int := if w < 1 ∨ w > 8 ∨ ((beN n).length : Int) > w then ([], 1) else (jQ n w.toNat, 0)
def jy (p : List UInt8 × Int) : Value := .tuple #[.string (bs p.1), .int .i64 p.2]
theorem Jtm {n k : Nat} (h : i < k) : ((jQ n i ++ List.replicate (k - i) 0).map bV).set i (bV (UInt8.ofNat (n / 2 ^ (8 * i) % 256))) = (jQ n (i + 1) ++ List.replicate (k - (i + 1)) 0).map bV := by
 rw [← List.map_set, List.set_append_right _ _ (by rw [Wf]; exact Nat.le_refl _), Wf, Nat.sub_self, show k - i = (k - (i + 1)) + 1 from by omega, List.replicate_succ, List.set_cons_zero, Jci, List.append_assoc]; rw [show (256 : Nat) ^ i = 2 ^ (8 * i) from by rw [show (256 : Nat) = 2 ^ 8 from rfl, ← Nat.pow_mul]]
 rfl
theorem Jdw {n : Nat} (hn : n < 18446744073709551616) (k : Int) : Pure Tryz.prog 166 [uV n, .int .i64 k].toArray (jy (zS n k)) := by
  refine J8 Tryz.func166 rfl rfl fun w => JS (Jt 12 rfl ?_)
  refine Jp 10 rfl (fun gb => ?_) (fun gb => ?_) <;> (try simp only [ZZ] at gb) <;> first | (refine QK rfl ?_) | (refine LK rfl ?_)
  all_goals refine LW 3 [] rfl rfl ?_
  all_goals first | refine LK rfl ?_ | (refine Jp 14 rfl (fun gb => ?_) (fun gb => ?_) <;> (try simp only [ZZ] at gb) <;> first | (refine QK rfl ?_) | (refine LK rfl ?_))
  all_goals first | (refine J6 rfl rfl rfl (enters_of Tryz.func232 m5 rfl) (Jo5 hn) ?_) | refine LK rfl ?_
  all_goals refine NG ?_
  all_goals (
   refine LW 3 [] rfl rfl (Jz 1 rfl (Zj 1 rfl ?_)); refine JH rfl (fun g => ?_) (fun g => ?_)
   try simp only [ZZ] at g
   refine GD ?_; refine Nl fun w1 hs1 => ?_; rw [show zS n k = ([], 1) from by unfold zS; rw [if_pos m0]]; rfl
   · try exact Bool.noConfusion g
     all_goals try simp only [ZZ] at g
     all_goals (
      refine Gw ?_
      have hk1 : 1 ≤ k ∧ k ≤ 8 ∧ ((beN n).length : Int) ≤ k := by omega
      have hlr : zS n k = (jQ n k.toNat, 0) := by unfold zS; rw [if_neg m0]
      obtain ⟨k, rfl⟩ : ∃ j : Nat, k = j := ⟨k.toNat, by omega⟩
      rw [Int.toNat_natCast] at hlr; refine Nw ?_; refine WJ (n := k) (b := 1) rfl rfl rfl rfl rfl rfl rfl rfl rfl m0 m0 fun r2 => Gi ?_; refine kz ?_; refine kR ?_; refine Jy (σ := Nat) (fun i => i ≤ k) (fun i => [(0, uV n), (6, .slice (some ⟨r2, 0, none⟩) k k), (24, .int .i64 (k : Int)), (25, .int .i64 (i : Int))]) (fun i => [(r2, .cells ((jQ n i ++ List.replicate (k - i) 0).map bV).toArray 5 (0, 0))]) (fun _ _ _ => True) (fun i => k - i) 0 (Nat.zero_le _) (lK rfl) (by simp [jQ, bV]) (fun _ _ h => h) ?_; intro i hi; refine Nv ?_; refine cD (fun g => ?_) fun g => ?_
      refine Jt 16 rfl (Jk mZ (LR rfl (jL (n := 8 * i) rfl rfl m0 mT m0 (vL _ _)) (V7 rfl (Jk (show _ = bV (UInt8.ofNat (n / 2 ^ (8 * i) % 256)) from jO _) (LR rfl (Kc (j := i) (m := 1) (off' := i) rfl rfl rfl rfl m0 m0 m0) ?_))))); refine KS (k := 0) (off := i) (xs := (jQ n i ++ List.replicate (k - i) 0).map bV) (ys := (jQ n (i + 1) ++ List.replicate (k - (i + 1)) 0).map bV) rfl rfl rfl rfl rfl rfl (by simp [Wf]; omega) (Jtm m0) rfl ?_; exact H5
      refine Nv ?_
      have hik : k = i := by omega
      subst hik; refine Nw ?_; refine LR rfl (Qq (b := jQ n k) (row := some (r2, k, [])) (e := 5) (show _ = some (J3 (jQ n k).length (some (r2, k, []))) from by rw [Wf]; rfl) ⟨by simp [Wf], by simp [Wf]⟩ (fun p hp => .inl Mp) rfl rfl rfl) (Ga ?_); refine Nl fun w1 hs1 => ?_; rw [hlr]; rfl
      skip)
   skip)
def Ze (s : List UInt8) : Nat × Int := if s.length < 1 ∨ s.length > 8 then (0, 2) else (V4 s, 0)
def Jtn (p : Nat × Int) : Value := .tuple #[uV p.1, .int .i64 p.2]
theorem Jo6 {s : List UInt8} (h : i < s.length) : V4 (s.take (i + 1)) = V4 (s.take i) + (s.getD i 0).toNat * 2 ^ (8 * i) := by
 rw [List.take_succ, List.getElem?_eq_getElem h]; simp only [Option.toList_some]; rw [Jch, List.length_take, Nat.min_eq_left m0, show (256 : Nat) = 2 ^ 8 from rfl, ← Nat.pow_mul, List.getD_eq_getElem?_getD, List.getElem?_eq_getElem h]; rfl
theorem vm {s : List UInt8} (h : i ≤ s.length) : V4 (s.take i) < 2 ^ (8 * i) := by
 have := xR (s.take i)
 rw [List.length_take, Nat.min_eq_left h, show (256 : Nat) = 2 ^ 8 from rfl, ← Nat.pow_mul] at this; exact this
theorem Jyx (h : i ≤ 8) : 2 ^ (8 * i) ≤ 18446744073709551616 := Nat.pow_le_pow_right (n := 2) m7 (by omega : 8 * i ≤ 64)
theorem Jo7 {s : List UInt8} (h : i < s.length) : V4 (s.drop i) = (s.getD i 0).toNat + 256 * V4 (s.drop (i + 1)) := by
 rw [List.drop_eq_getElem_cons h, V4, List.getD_eq_getElem?_getD, List.getElem?_eq_getElem h]; rfl
theorem Jdx {s : List UInt8} (h : s.length ≤ i + 7) : V4 (s.drop i) < 72057594037927936 := by
 have h1 := xR (s.drop i)
 have h2 : 256 ^ (s.drop i).length ≤ 256 ^ 7 := Nat.pow_le_pow_right m7 nC
 have h3 : (256 : Nat) ^ 7 = 72057594037927936 := by decide
 omega
theorem Jgi (s : List UInt8) : Pure Tryz.prog 246 [.string (bs s)].toArray (Jtn (Ze s)) := by
  refine J8 Tryz.func246 rfl rfl fun w => JS (Jt 10 rfl (Dx ?_)); refine QK rfl ?_
  refine Jp 8 rfl (fun gb => ?_) (fun gb => ?_) <;> (try simp only [ZZ] at gb) <;> first | (refine QK rfl ?_) | (refine LK rfl ?_)
  all_goals refine NG ?_
  all_goals (
   refine NY ?_; refine JH rfl (fun g => ?_) (fun g => ?_)
   try simp only [ZZ] at g
   refine GD ?_; refine Nl fun w1 hs1 => ?_
   rw [show Ze s = (0, 2) from by unfold Ze; rw [if_pos (by first | omega | (left; rw [‹s = []›]; decide))]]; rfl
   · try exact Bool.noConfusion g
     all_goals try simp only [ZZ] at g
     all_goals (
      refine Gw ?_
      have hl : 1 ≤ s.length ∧ s.length ≤ 8 := by
        have : s ≠ [] := by assumption
        have := List.length_pos_iff.2 this
        omega
      have hur : Ze s = (V4 s, 0) := by unfold Ze; rw [if_neg m0]
      refine Jt 8 rfl (Nx ?_); refine kR ?_; refine Jy (σ := Nat) (fun i => i ≤ s.length) (fun i => [(0, .string (bs s)), (4, uV (V4 (s.take i))), (14, .int .i64 (s.length : Nat)), (15, .int .i64 (i : Int))]) (fun i => []) (fun _ _ _ => True) (fun i => s.length - i) 0 (Nat.zero_le _) (lK rfl) (List.nil_sublist _) (fun _ _ h => h) ?_; intro i hi; refine Nv ?_; refine cD (fun g => ?_) fun g => ?_
      refine Jt 14 rfl (LR rfl (KU (j := i) rfl rfl rfl rfl m0 rfl) (V7 rfl (Jk n6 (NC ?_)))); refine Jk mZ (LR rfl (ww (n := 8 * i) rfl rfl rfl mT (vK (vc (QC _) m0))) (LR rfl (VC (op := .or) (b := ((V4 (s.take (i + 1)) : Nat) : Int)) rfl rfl rfl (Nat.lt_of_lt_of_le (vm m0) (Jyx m0)) (vc (QC _) m0) (congrArg (fun z : Nat => (z : Int)) (by rw [Jo6 m0]; exact Jmq (vm m0)))) (Gc ?_))); refine N0 ?_; exact NJ
      refine Nv ?_
      have hik : s.length = i := by omega
      have htk : s.take i = s := by rw [← hik, List.take_length]
      refine KK 7 rfl (Nl fun w1 hs1 => ?_); rw [htk, hur]; rfl
      skip)
   skip)
theorem Jgj (s : List UInt8) : Pure Tryz.prog 264 [.string (bs s)].toArray (Jtn (Ze s)) := by
  refine J8 Tryz.func264 rfl rfl fun w => JS (Jt 10 rfl (De ?_))
  refine Jp 9 rfl (fun gb => ?_) (fun gb => ?_) <;> (try simp only [ZZ] at gb) <;> first | (refine QK rfl ?_) | (refine LK rfl ?_)
  all_goals refine NG ?_
  all_goals (
   refine NY ?_; refine JH rfl (fun g => ?_) (fun g => ?_)
   try simp only [ZZ] at g
   refine GD ?_; refine Nl fun w1 hs1 => ?_; rw [show Ze s = (0, 2) from by unfold Ze; rw [if_pos m0]]; rfl
   · try exact Bool.noConfusion g
     all_goals try simp only [ZZ] at g
     all_goals (
      refine JE 9 rfl ?_
      have hl : 1 ≤ s.length ∧ s.length ≤ 8 := by omega
      have hur : Ze s = (V4 s, 0) := by unfold Ze; rw [if_neg m0]
      refine Nw ?_; refine Nx ?_; refine V7 rfl (Jh m0 m0 (JQ 4 rfl ?_)); refine Jy (σ := Nat) (fun i => i ≤ s.length) (fun i => [(0, .string (bs s)), (4, uV (V4 (s.drop i))), (5, .int .i64 ((i : Int) - 1))]) (fun i => []) (fun _ _ _ => True) (fun i => i) s.length (Nat.le_refl _) (.cons rfl (.cons (by rw [List.drop_length]; rfl) (.cons rfl .nil))) (List.nil_sublist _) (fun _ _ h => h) ?_; intro i hi; refine JE 7 rfl (cD (fun g => ?_) fun g => ?_)
      refine gY ?_
      have hdl := Jdx (s := s) (i := i) m0; refine V7 rfl (Jk (show _ = uV (V4 (s.drop i) * 256) from congrArg (Value.int .u64) (by rw [wrap_u64 m0 m0]; omega)) ?_)
      refine NC ?_; refine Jk (show _ = Value.int .i64 ((i - 1 : Nat) : Int) from congrArg (Value.int .i64) m0) (LR rfl (KU (j := i - 1) rfl rfl rfl rfl m0 rfl) (V7 rfl (Jk (show _ = uV (s.getD (i - 1) 0).toNat from congrArg (Value.int .u64) (wrap_u64 m0 (by have := QC (s.getD (i - 1) 0); omega))) (V7 rfl (Jk (show _ = uV (V4 (s.drop (i - 1))) from congrArg (Value.int .u64) (by have h1 := QC (s.getD (i - 1) 0); have h2 := Jo7 (s := s) (i := i - 1) m0; rw [show i - 1 + 1 = i from by omega] at h2; rw [h2, wrap_u64 m0 m0]; omega)) ?_))))); refine Gi ?_; refine N0 ?_; exact Jr (i - 1) m0 m0 (.cons rfl (.cons rfl (.cons (congrArg (fun z => some (Value.int .i64 z)) m0) .nil))) (List.nil_sublist _) (fun _ _ h => h)
      refine Nv ?_
      have hi0 : i = 0 := by omega
      subst hi0; refine KK 7 rfl (Nl fun w1 hs1 => ?_); rw [hur]; rfl
      skip)
   skip)
mutual
def wV : Vl → Nat
 | .mk _ _ _ _ bits _ items _ _ => 1 + bits.length / 8 + wL items
def wL : List Vl → Nat
 | [] => 0
 | x :: xs => wV x + wL xs
end
def YV (head : Nat) : List (Ty × List UInt8) → List UInt8 → List UInt8 → List UInt8
 | [], f, th => f ++ th
 | (x, s) :: l, f, th => if JA x then YV head l (f ++ s) th else YV head l (f ++ (zS (head + th.length) 4).1) (th ++ s)
def Wx (x : Ty) : Int := if JA x then JO x else 4
def JV : List Ty → Int
 | [] => 0
 | x :: l => Wx x + JV l
mutual
def Vz : Vl → Ty → List UInt8
 | .mk a b c d bits _ items _ pick, t =>
  if t.k = 1 then leW [a, b, c, d] t.n.toNat else if t.k = 2 then leW [a, b, c, d] 1 else if t.k = 5 then VM bits else if t.k = 6 then VM (bits ++ [true])
  else if t.k = 8 then UInt8.ofNat pick.toNat :: ((Qj items t.k pick t.ins 0).headD (default, [])).2
  else YV (JV ((Qj items t.k pick t.ins 0).map Prod.fst)).toNat (Qj items t.k pick t.ins 0) [] []
def Qj : List Vl → Int → Int → List Ty → Nat → List (Ty × List UInt8)
 | [], _, _, _, _ => []
 | x :: xs, k, pick, ins, i => (J0 k pick ins i, Vz x (J0 k pick ins i)) :: Qj xs k pick ins (i + 1)
end
theorem Jdy (n : Nat) : (zS n 4).1.length ≤ 4 := by
 unfold zS
 split
 ·exact Nat.zero_le _
 ·rw [Wf]; decide
theorem yu (head : Nat) : ∀ (l : List (Ty × List UInt8)) (f th : List UInt8), (YV head l f th).length ≤ f.length + th.length + (l.map fun p => p.2.length + 4).sum
 | [], f, th => by rw [YV, List.length_append]; simp
 | (x, s) :: l, f, th => by
  rw [YV, List.map_cons, List.sum_cons]
  have h4 := Jdy (head + th.length)
  split
  ·have := yu head l (f ++ s) th
   rw [List.length_append] at this
   simp only
   omega
  ·have := yu head l (f ++ (zS (head + th.length) 4).1) (th ++ s)
   rw [List.length_append, List.length_append] at this
   simp only
   omega
theorem yv (v : Vl) : ∀ t : Ty, (Vz v t).length + 4 ≤ 40 * wV v := by
 induction v using Vl.ind with
 | h a b c d bits pb items pi pick ih =>
  intro t
  have key : ∀ (l : List Vl) (i : Nat), (∀ x ∈ l, x ∈ items) → ((Qj l t.k pick t.ins i).map fun p => p.2.length + 4).sum ≤ 40 * wL l := by
   intro l
   induction l with
   | nil => intro i _; rw [Qj, wL]; exact Nat.zero_le _
   | cons x xs ihl =>
    intro i hs; rw [Qj, wL, List.map_cons, List.sum_cons]
    have h1 := ih x (hs x List.mem_cons_self) (J0 t.k pick t.ins i)
    have h2 := ihl (i + 1) fun y hy => hs y (List.mem_cons_of_mem _ hy)
    simp only at h1 ⊢; omega
  have hk := key items 0 fun _ h => h
  have hle : ∀ n, (leW [a, b, c, d] n).length ≤ 32 := fun n => by unfold leW; rw [List.length_take, List.length_reverse, We]; omega
  rw [Vz, wV]
  split
  ·have := hle t.n.toNat; omega
  ·split
   ·have := hle 1; omega
   ·split
    ·rw [Xs]; omega
    ·split
     ·rw [Xs, List.length_append]; simp only [List.length_cons, List.length_nil]; omega
     ·split
      ·rw [List.length_cons]
       cases items with
       | nil => rw [Qj]; simp only [List.headD_nil, List.length_nil]; omega
       | cons x xs =>
        rw [Qj, List.headD_cons]
        have h1 := ih x List.mem_cons_self (J0 t.k pick t.ins 0)
        rw [wL]
        simp only
        omega
      ·have h1 := yu (JV ((Qj items t.k pick t.ins 0).map Prod.fst)).toNat (Qj items t.k pick t.ins 0) [] []
       simp only [List.length_nil] at h1; omega
def qf (t : Ty) (v : Vl) : List UInt8 × Int := if V3 t v ≠ 0 then ([], V3 t v) else if (Vz v t).length > 65536 then ([], 5) else (Vz v t, 0)
theorem Jvn {n k : Nat} (hn : n < 18446744073709551616) (hk : k < 9223372036854775808) : Pure Tryz.prog 274 [uV n, .int .i64 (k : Int)].toArray (uV (Jfs n k)) := by
 refine J8 Tryz.func274 rfl rfl fun w => JS ?_
 have hk6 : k % 64 < 64 := Nat.mod_lt _ m7
 refine Jt 9 rfl (Jk (show _ = uV k from congrArg (Value.int .u64) (wrap_u64 m0 m0)) (LR rfl (VC (op := .and) (b := ((k % 64 : Nat) : Int)) rfl rfl rfl m0 m7 (congrArg (fun z : Nat => (z : Int)) (Nat.and_two_pow_sub_one_eq_mod k 6))) (Gi ?_))); refine LR rfl (ww (n := k % 64) (b := ((n * 2 ^ (k % 64) % 18446744073709551616 : Nat) : Int)) rfl rfl rfl mT (Jym _)) (gw ?_); refine Jk (show _ = uV (64 - k % 64) from congrArg (Value.int .u64) (by rw [wrap_u64 m0 m0]; omega)) (LR rfl (jL (n := 64 - k % 64) rfl rfl rfl mT m0 (vL _ _)) (LR rfl (VC (op := .or) (b := ((Jfs n k : Nat) : Int)) rfl rfl rfl (Nat.mod_lt _ m7) (Nat.lt_of_le_of_lt (Nat.div_le_self _ _) hn) rfl) ?_)); exact Nz
theorem Ja1 : Pure Tryz.prog 273 [].toArray (.func (.func 282) #[] #[]) := by
 refine J8 Tryz.func273 rfl rfl fun w => JS (KK 11 rfl ?_); exact Nc
def Jo8 (i : Nat) : List Value := [.int .i64 (i : Int), .agg [.int .i64 ((i % 5 : Nat) : Int), .int .i64 ((i / 5 : Nat) : Int)].toArray]
theorem Ja2 : xB Tryz.prog 282 [] [] 0 (nxN Jo8 25) (Jfi 25) := by
  refine W9 Tryz.func282 rfl rfl fun q xids w2 XI XF hY => JS (Nv ?_); refine Jy (σ := Nat) (fun i => i ≤ 25) (fun i => [(0, .func (.yield q) #[] #[]), (3, .int .i64 (i : Int))]) (fun _ => []) (fun i => XI i) (fun i => 25 - i) 0 (Nat.zero_le _) (lK rfl) (List.nil_sublist _) (fun _ _ h => h) ?_; intro i hi; refine Nv ?_; refine cD (fun g => ?_) fun g => ?_
  · refine Jt 16 rfl (Jk (show _ = Value.int .i64 ((i % 5 : Nat) : Int) from congrArg (Value.int .i64) (V0 _ 5)) (NC ?_)); refine Jk (show _ = Value.int .i64 ((i / 5 : Nat) : Int) from congrArg (Value.int .i64) nX) (LR rfl (Js (r := [_, _]) rfl rfl) (WP (XT := XI (i + 1)) (XF := XF) rfl rfl rfl rfl (hY i (Jo8 i) (i + 1) ⟨by omega, rfl, rfl⟩) ?_ ?_))
    all_goals (
     refine H2 ?_; refine JH rfl (fun g => ?_) (fun g => ?_)
     · try exact Bool.noConfusion g
       all_goals try simp only [ZZ] at g
       all_goals (
        exact N5
        skip)
     · try exact Bool.noConfusion g
       all_goals try simp only [ZZ] at g
       all_goals (
        refine G6 ?_; exact NJ
        skip)
     skip)
  · refine gn fun w1 hs1 => ?_
    obtain ⟨xs1, hx1⟩ := hs1.now
    exact ⟨⟨_, rfl⟩, hs1.keep, .inl ⟨i, _, (by show i = 25; omega), hx1⟩⟩
end Go.Proofs.YteceenlfegnigaaGreatDoor
