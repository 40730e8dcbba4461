import Derived.Test.YtfaagelglpgpkaaGreatDoorZtLatera
import Derived.ProofKit
import Derived.OpenShut
import Derived.ShutString
import Derived.ChangeOld
import Derived.Below
import Derived.Laws.Small
import Derived.Laws.IdiomStrings
import Derived.Carry
import Derived.ChangeArms
import Derived.Lib.Overlaps
import Derived.Lib.AppendZerosOnto
import Derived.Laws.StructEq
set_option maxRecDepth 100000
namespace Go.SL
set_option linter.all false
open Go Go.RowKit Go.Shelf
inductive Fm where
  | sq (y : Code)
  | bl (id : Nat)
  | kk (K : Act → World → Prop)
def QF (c : Cx) : List Fm → (Exit → Act → World → Prop) → Exit → Act → World → Prop
 | [], Q => Q
 | .sq y :: fs, Q => Exit.then (y.wpIn (FW c.ro) 0 c.P (QF c fs Q)) (QF c fs Q)
 | .bl id :: fs, Q => Exit.inBlock id (QF c fs Q)
 | .kk K :: fs, Q => Exit.then K (QF c fs Q)
inductive Pt where
  | cd (x : Code)
  | ex (e : Exit)
  | op (ops : Array Oper) (rest : List Oper)
def PtH (c : Cx) (d : List Deferred) (l : Kv) (L : Jm) (X : XP) (fs : List Fm) (Q : Exit → Act → World → Prop) : Pt → Prop
 | .cd x => HC c d l L X x (QF c fs Q)
 | .ex e => HQ c d l L X (QF c fs Q e)
 | .op ops rest => HL c d l L X ops rest (QF c fs Q)
abbrev CtR := Option (Kv × List Fm × Pt × List (Nat × Nat))
def XH (P : Program) (L : Jm) (N : Nat) : Nat → List Nat → Kv → List Fm → Pt → CtR
 | 0, _, l, fs, p => some (l, fs, p, [])
 | n + 1, ks, l, fs, .cd x => match x with
  | .seq x y => XH P L N n ks l (.sq y :: fs) (.cd x)
  | .block id b => XH P L N n ks l (.bl id :: fs) (.cd b)
  | .region _ ops false => XH P L N n ks l fs (.op ops ops.toList)
  | .skip => XH P L N n ks l fs (.ex .normal)
  | .ret => XH P L N n ks l fs (.ex .ret)
  | .exit id => XH P L N n ks l fs (.ex (.exit id))
  | .cond x t e => match JZ l x with
   | some (.bool true) => XH P L N n ks l fs (.cd t)
   | some (.bool false) => XH P L N n ks l fs (.cd e)
   | _ => none
  | _ => none
 | n + 1, ks, l, .sq y :: fs, .ex e => match e with
  | .normal => XH P L N n ks l fs (.cd y)
  | .ret => XH P L N n ks l fs (.ex .ret)
  | .exit j => XH P L N n ks l fs (.ex (.exit j))
  | _ => none
 | n + 1, ks, l, .bl id :: fs, .ex e => match e with
  | .normal => XH P L N n ks l fs (.ex .normal)
  | .ret => XH P L N n ks l fs (.ex .ret)
  | .exit j => match Nat.beq j id with
   | true => XH P L N n ks l fs (.ex .normal)
   | false => XH P L N n ks l fs (.ex (.exit j))
  | _ => none
 | n + 1, ks, l, .kk K :: fs, .ex e => match e with
  | .ret => XH P L N n ks l fs (.ex .ret)
  | .exit j => XH P L N n ks l fs (.ex (.exit j))
  | _ => none
 | _ + 1, _, _, [], .ex _ => none
 | n + 1, ks, l, fs, .op ops [] => XH P L N n ks l fs (.ex .normal)
 | n + 1, ks, l, fs, .op ops (o :: rest) => match yY P L ops N ks l o with
  | some (i, v, ks', q) => match XH P L N n ks' ((i, v) :: l) fs (.op ops rest) with
   | some (l', fs', p', qs) => some (l', fs', p', q ++ qs)
   | none => none
  | none => none
section
variable {c : Cx} {L : Jm} {X : XP} {Q : Exit → Act → World → Prop} {d : List Deferred}
theorem Jth {l : Kv} {x y : Code} (h : HC c d l L X x (Exit.then (y.wpIn (FW c.ro) 0 c.P Q) Q)) : HC c d l L X (x.seq y) Q :=
 fun a w hf hs => wpIn_seq (h a w hf hs)
theorem VA : ∀ (n : Nat) {ks : List Nat} {l : Kv} {fs : List Fm} {p : Pt} {l' : Kv} {fs' : List Fm} {p' : Pt} {qs : List (Nat × Nat)},
  XH c.P L c.n n ks l fs p = some (l', fs', p', qs) → (∀ q ∈ qs, q.1 = q.2) → PtH c d l' L X fs' Q p' → PtH c d l L X fs Q p := by
 intro n
 induction n with
 | zero => intro ks l fs p l' fs' p' qs h _ hk; simp only [XH, Option.some.injEq, Prod.mk.injEq] at h; obtain ⟨rfl, rfl, rfl, _⟩ := h; exact hk
 | succ n ih =>
  intro ks l fs p l' fs' p' qs h hq hk
  cases p with
  | cd x =>
   simp only [XH] at h
   split at h
   exact Jth (ih h hq hk)
   exact Jbu (ih h hq hk)
   rename_i ops; obtain ⟨ops⟩ := ops; exact yS (ih h hq hk)
   exact Js5 (ih h hq hk)
   exact Jxr (ih h hq hk)
   exact Js4 (ih h hq hk)
   split at h
   rename_i e; exact Jmy e (ih h hq hk)
   rename_i e; exact Jmz e (ih h hq hk)
   cases h
   cases h
  | ex e =>
   match fs, h with
   | [], h => simp only [XH] at h; cases h
   | .sq y :: fs, h =>
    simp only [XH] at h
    split at h
    have hy := ih (p := .cd y) h hq hk; exact hy
    exact Jbv (ih h hq hk)
    exact Jbw (ih h hq hk)
    cases h
   | .bl id :: fs, h =>
    simp only [XH] at h
    split at h
    exact Jkj (ih h hq hk)
    exact Jkk (ih h hq hk)
    split at h
    rename_i e; have e := Nat.eq_of_beq_eq_true e; subst e; exact Jkl (ih h hq hk)
    rename_i e; exact Je9 e (ih h hq hk)
    cases h
   | .kk K :: fs, h =>
    simp only [XH] at h
    split at h
    exact Jbv (ih h hq hk)
    exact Jbw (ih h hq hk)
    cases h
  | op ops rest =>
   cases rest with
   | nil => simp only [XH] at h; exact Jmx (ih h hq hk)
   | cons o rest =>
    simp only [XH] at h
    split at h
    rename_i i v ks' q e
    split at h
    rename_i e2
    cases h
    exact jp e (fun p hp => hq p (List.mem_append_left _ hp)) (ih (p := .op ops rest) e2 (fun p hp => hq p (List.mem_append_right _ hp)) hk)
    cases h
    ·cases h
variable {l l' : Kv} {fs fs' : List Fm} {qs : List (Nat × Nat)} {x x' : Code} {e e' : Exit} {ops ops' : Array Oper} {rest rest' : List Oper} {K : Act → World → Prop}
theorem X6 (n : Nat) (ks : List Nat) (h : XH c.P L c.n n ks l fs (.cd x) = some (l', fs', .op ops' rest', qs)) (hq : qs.map Prod.fst = qs.map Prod.snd) (k : HL c d l' L X ops' rest' (QF c fs' Q)) : HC c d l L X x (QF c fs Q) := VA n h (YC hq) k
theorem Goc (n : Nat) (ks : List Nat) (h : XH c.P L c.n n ks l fs (.op ops rest) = some (l', fs', .cd x', qs)) (hq : qs.map Prod.fst = qs.map Prod.snd) (k : HC c d l' L X x' (QF c fs' Q)) : HL c d l L X ops rest (QF c fs Q) := VA (p := .op ops rest) n h (YC hq) k
theorem Xj (n : Nat) (ks : List Nat) (h : XH c.P L c.n n ks l fs (.op ops rest) = some (l', fs', .op ops' rest', qs)) (hq : qs.map Prod.fst = qs.map Prod.snd) (k : HL c d l' L X ops' rest' (QF c fs' Q)) : HL c d l L X ops rest (QF c fs Q) := VA (p := .op ops rest) n h (YC hq) k
theorem Goq (n : Nat) (ks : List Nat) (h : XH c.P L c.n n ks l fs (.op ops rest) = some (l', fs', .ex e', qs)) (hq : qs.map Prod.fst = qs.map Prod.snd) (k : HQ c d l' L X (QF c fs' Q e')) : HL c d l L X ops rest (QF c fs Q) := VA (p := .op ops rest) n h (YC hq) k
theorem Gqc (n : Nat) (ks : List Nat) (h : XH c.P L c.n n ks l fs (.ex e) = some (l', fs', .cd x', qs)) (hq : qs.map Prod.fst = qs.map Prod.snd) (k : HC c d l' L X x' (QF c fs' Q)) : HQ c d l L X (QF c fs Q e) := VA (p := .ex e) n h (YC hq) k
theorem Gqq (n : Nat) (ks : List Nat) (h : XH c.P L c.n n ks l fs (.ex e) = some (l', fs', .ex e', qs)) (hq : qs.map Prod.fst = qs.map Prod.snd) (k : HQ c d l' L X (QF c fs' Q e')) : HQ c d l L X (QF c fs Q e) := VA (p := .ex e) n h (YC hq) k
theorem cD {r s p : Prop} (a : r) (b : s) (k : r → s → p := by
 intro za zb
 refine Jw rfl (fun g => ?_) (fun g => ?_) <;> try simp only [ZZ] at g
 ·revert g; exact za
 ·revert g; exact zb) : p := k a b
theorem J8 (h : HC c d l L X x (QF c [] Q)) : HC c d l L X x Q := h
theorem yE (h : HC c d l L X x (QF c [.kk K] Q)) : HC c d l L X x (Exit.then K Q) := h
theorem inK (h : HC c d l L X x (QF c (.kk K :: fs) Q)) : HC c d l L X x (Exit.then K (QF c fs Q)) := h
theorem JP (n : Nat) (h : XH c.P L c.n n [] l fs (.cd x) = some (l', fs', .cd x', [])) (k : HC c d l' L X x' (QF c fs' Q)) : HC c d l L X x (QF c fs Q) := VA n h (fun _ h => nomatch h) k
theorem Jo (n : Nat) (h : XH c.P L c.n n [] l fs (.cd x) = some (l', fs', .op ops' rest', [])) (k : HL c d l' L X ops' rest' (QF c fs' Q)) : HC c d l L X x (QF c fs Q) := VA n h (fun _ h => nomatch h) k
theorem Kn (n : Nat) (h : XH c.P L c.n n [] l fs (.cd x) = some (l', fs', .ex e', [])) (k : HQ c d l' L X (QF c fs' Q e')) : HC c d l L X x (QF c fs Q) := VA n h (fun _ h => nomatch h) k
theorem JI (n : Nat) (h : XH c.P L c.n n [] l fs (.op ops rest) = some (l', fs', .cd x', [])) (k : HC c d l' L X x' (QF c fs' Q)) : HL c d l L X ops rest (QF c fs Q) := VA (p := .op ops rest) n h (fun _ h => nomatch h) k
theorem JC (n : Nat) (h : XH c.P L c.n n [] l fs (.op ops rest) = some (l', fs', .op ops' rest', [])) (k : HL c d l' L X ops' rest' (QF c fs' Q)) : HL c d l L X ops rest (QF c fs Q) := VA (p := .op ops rest) n h (fun _ h => nomatch h) k
theorem Jx (n : Nat) (h : XH c.P L c.n n [] l fs (.op ops rest) = some (l', fs', .ex e', [])) (k : HQ c d l' L X (QF c fs' Q e')) : HL c d l L X ops rest (QF c fs Q) := VA (p := .op ops rest) n h (fun _ h => nomatch h) k
theorem Y7 (n : Nat) (h : XH c.P L c.n n [] l fs (.ex e) = some (l', fs', .cd x', [])) (k : HC c d l' L X x' (QF c fs' Q)) : HQ c d l L X (QF c fs Q e) := VA (p := .ex e) n h (fun _ h => nomatch h) k
theorem gqo (n : Nat) (h : XH c.P L c.n n [] l fs (.ex e) = some (l', fs', .op ops' rest', [])) (k : HL c d l' L X ops' rest' (QF c fs' Q)) : HQ c d l L X (QF c fs Q e) := VA (p := .ex e) n h (fun _ h => nomatch h) k
theorem ZJ (n : Nat) (h : XH c.P L c.n n [] l fs (.ex e) = some (l', fs', .ex e', [])) (k : HQ c d l' L X (QF c fs' Q e')) : HQ c d l L X (QF c fs Q e) := VA (p := .ex e) n h (fun _ h => nomatch h) k
theorem J1 {σ : Type} {body : Code} (I : σ → Prop) (lI : σ → Kv) (LI : σ → Jm) (XI : σ → XP) (μ : σ → Nat) (s0 : σ) (h0 : I s0) (hl : LookAll l (lI s0)) (hL : (LI s0).Sublist L) (hX : ∀ xs w, X xs w → XI s0 xs w)
  (hr : ∀ s, I s → HC c d (lI s) (LI s) (XI s) body (QF c (.kk (Jm5 c d I lI LI XI μ s) :: fs) Q)) : HC c d l L X (.loop body) (QF c fs Q) := Js8 I lI LI XI μ s0 h0 hl hL hX hr
end
open Go.RowKit Go.Shelf
open Go.Proofs (Enters enters_of)
def uV (n : Nat) : Value := .int .u64 (n : Int)
def wV (l : List Nat) : Value := .agg (l.map uV).toArray
def WOk (l : List Nat) : Prop := l.length = 4 ∧ ∀ x ∈ l, x < 18446744073709551616
def dg (l : List Nat) (i : Nat) : Nat := l.getD (i / 8) 0 / 2 ^ (i % 8 * 8) % 256
theorem Jw2 (l : List Nat) (i : Nat) : dg l i < 256 := Nat.mod_lt _ (by decide)
theorem Qe {l : List Nat} {j : Nat} (h : j < l.length) : (l.map uV)[j]? = some (.int .u64 ((l.getD j 0 : Nat) : Int)) := by
 simp [h, uV, List.getD_eq_getElem?_getD]
theorem WOk.get {l : List Nat} (h : WOk l) (j : Nat) : l.getD j 0 < 18446744073709551616 := by
 by_cases hj : j < l.length
 ·have : l.getD j 0 ∈ l := by simp [List.getD_eq_getElem?_getD, hj]
  exact h.2 _ this
 ·simp [List.getD_eq_getElem?_getD, List.getElem?_eq_none (Nat.le_of_not_lt hj)]
def pw (f : Nat → Nat) (j : Nat) : Nat → Nat
 | 0 => 0
 | m + 1 => pw f j m + f (8 * j + m) * 2 ^ (m * 8)
theorem Jnn {f : Nat → Nat} (hf : ∀ i, f i < 256) (j : Nat) : ∀ m, pw f j m < 2 ^ (m * 8)
 | 0 => by simp [pw]
 | m + 1 => by
  have h1 := Jnn hf j m
  have h2 := hf (8 * j + m)
  have e : 2 ^ ((m + 1) * 8) = 256 * 2 ^ (m * 8) := by rw [Nat.add_mul, Nat.pow_add, Nat.mul_comm]
  rw [e]
  unfold pw
  have h3 : f (8 * j + m) * 2 ^ (m * 8) ≤ 255 * 2 ^ (m * 8) := Nat.mul_le_mul_right _ (by omega)
  omega
def vR (f : Nat → Nat) (i : Nat) : List Nat := [pw f 0 (min 8 i), pw f 1 (min 8 (i - 8)), pw f 2 (min 8 (i - 16)), pw f 3 (min 8 (i - 24))]
theorem Jhn (f : Nat → Nat) {i : Nat} (h : i < 32) : (vR f i).getD (i / 8) 0 = pw f (i / 8) (i % 8) := by
 have hq : i / 8 = 0 ∨ i / 8 = 1 ∨ i / 8 = 2 ∨ i / 8 = 3 := by omega
 rcases hq with e | e | e | e <;> rw [e] <;> simp only [vR, List.getD_cons_zero, List.getD_cons_succ] <;> congr 1 <;> omega
theorem Jno (f : Nat → Nat) {i : Nat} (h : i < 32) : (vR f i).set (i / 8) ((vR f i).getD (i / 8) 0 + f i * 2 ^ (i % 8 * 8)) = vR f (i + 1) := by
 rw [Jhn f h]
 have hq : i / 8 = 0 ∨ i / 8 = 1 ∨ i / 8 = 2 ∨ i / 8 = 3 := by omega
 have hst : pw f (i / 8) (i % 8) + f i * 2 ^ (i % 8 * 8) = pw f (i / 8) (i % 8 + 1) := by
  show _ = pw f (i / 8) (i % 8) + f (8 * (i / 8) + i % 8) * 2 ^ (i % 8 * 8)
  rw [Nat.div_add_mod]
 rw [hst]
 have keep : ∀ j a b, a = b → pw f j a = pw f j b := fun j a b e => by rw [e]
 rcases hq with e | e | e | e <;> rw [e] <;> simp only [vR, List.set_cons_zero, List.set_cons_succ, List.cons.injEq, and_true] <;>
  refine ⟨keep _ _ _ (by omega), keep _ _ _ (by omega), keep _ _ _ (by omega), keep _ _ _ (by omega)⟩
theorem Jho (f : Nat → Nat) (i : Nat) : (vR f i).length = 4 := rfl
theorem Jnp {f : Nat → Nat} (hf : ∀ i, f i < 256) (i : Nat) : WOk (vR f i) := by
 refine ⟨rfl, fun x hx => ?_⟩
 have hb : ∀ j m, m ≤ 8 → pw f j m < 18446744073709551616 := fun j m hm =>
  Nat.lt_of_lt_of_le (Jnn hf j m) (show 2 ^ (m * 8) ≤ 2 ^ 64 from Nat.pow_le_pow_right (by decide) (by omega))
 simp only [vR, List.mem_cons, List.not_mem_nil, or_false] at hx
 rcases hx with rfl | rfl | rfl | rfl <;> exact hb _ _ (Nat.min_le_left _ _)
theorem Jkx {f g : Nat → Nat} (h : ∀ i, i < 32 → f i = g i) : vR f 32 = vR g 32 := by
 have key : ∀ j, j < 4 → ∀ m, m ≤ 8 → pw f j m = pw g j m := by
  intro j hj m
  induction m with
  | zero => intro _; rfl
  | succ m ih =>
   intro hm
   simp only [pw]
   rw [ih (by omega), h (8 * j + m) (by omega)]
 simp only [vR]
 rw [key 0 (by decide) _ (Nat.min_le_left _ _), key 1 (by decide) _ (Nat.min_le_left _ _), key 2 (by decide) _ (Nat.min_le_left _ _), key 3 (by decide) _ (Nat.min_le_left _ _)]
def Zf (l : List Nat) : Nat → List UInt8
 | 0 => []
 | m + 1 => UInt8.ofNat (dg l m) :: Zf l m
theorem V8 (l : List Nat) : ∀ n, (Zf l n).length = n
 | 0 => rfl
 | n + 1 => by simp [Zf, V8 l n]
theorem Jhp (l : List Nat) : ∀ {n m : Nat}, m < n → (Zf l n)[m]? = some (UInt8.ofNat (dg l (n - 1 - m)))
 | 0, m, h => by omega
 | n + 1, 0, h => by simp [Zf]
 | n + 1, m + 1, h => by
  have := Jhp l (n := n) (m := m) (by omega)
  simp only [Zf, List.getElem?_cons_succ, this]
  congr 3; omega
theorem Jtj {α : Type} (z v : α) (t : List α) (m : Nat) : (List.replicate (m + 1) z ++ t).set m v = List.replicate m z ++ v :: t := by
 induction m with
 | zero => rfl
 | succ m ih => rw [List.replicate_succ, List.cons_append, List.set_cons_succ, ih]; rfl
theorem Jx0 {a b n : Nat} (h : a < 2 ^ n) : a ||| b * 2 ^ n = a + b * 2 ^ n := by
 rw [Nat.or_comm, ← Nat.shiftLeft_eq, ← Nat.shiftLeft_add_eq_or_of_lt h, Nat.add_comm]
theorem Jcg {a n : Nat} (h : a < 256) (hn : n ≤ 56) : a * 2 ^ n < 18446744073709551616 := by
 have h1 : 2 ^ n ≤ 2 ^ 56 := Nat.pow_le_pow_right (by decide) hn
 have h2 : a * 2 ^ n ≤ 255 * 2 ^ 56 := Nat.mul_le_mul (by omega) h1
 exact Nat.lt_of_le_of_lt h2 (by decide)
theorem Jhq {a n : Nat} (h : a * 2 ^ n < 18446744073709551616) : IntKind.u64.wrap ((a : Int) * ((2 ^ n : Nat) : Int)) = ((a * 2 ^ n : Nat) : Int) := by
 rw [← Int.natCast_mul]; exact wrap_u64 (by omega) (by omega)
theorem WO (a b : Nat) : Int.tmod (a : Int) (b : Int) = ((a % b : Nat) : Int) := rfl
theorem vk (a n : Nat) : (a : Int) / ((2 ^ n : Nat) : Int) = ((a / 2 ^ n : Nat) : Int) := rfl
def iV (n : Nat) : Value := .int .i64 (n : Int)
theorem Jnq {l : List Nat} {j : Nat} (h : j < l.length) : (l.map iV)[j]? = some (.int .i64 ((l.getD j 0 : Nat) : Int)) := by
 simp [h, iV, List.getD_eq_getElem?_getD]
theorem Ws {l m : List Nat} {j x : Nat} (h : l.set j x = m) : (l.map uV).set j (uV x) = m.map uV := by rw [← h, List.map_set]
theorem vT (q : Nat) : Value.int .u8 (IntKind.u8.wrap (q : Int)) = bV (UInt8.ofNat (q % 256)) := by
 rw [← Jhi (Nat.mod_lt _ (by decide))]
 congr 1
def Jky (s : List UInt8) : List Nat := vR (fun t => (s.getD (31 - t) 0).toNat) 32
theorem XS (b : UInt8) : b.toNat < 256 := b.toNat_lt
theorem Jtk (s : List UInt8) : WOk (Jky s) := Jnp (fun _ => XS _) 32
def zW : List Nat := [0, 0, 0, 0]
def vU (s : List UInt8) : List Nat × Int := if s.length = 32 then (Jky s, 0) else (zW, 2)
def Jx1 (p : List Nat × Int) : Value := .tuple #[wV p.1, .int .i64 p.2]
def yF (F G : Nat → Nat → Nat → Nat) (a b : List Nat) : Nat → List Nat × Nat
 | 0 => (zW, 0)
 | i + 1 => ((yF F G a b i).1.set i (F (a.getD i 0) (b.getD i 0) (yF F G a b i).2), G (a.getD i 0) (b.getD i 0) (yF F G a b i).2)
theorem Zg (F G : Nat → Nat → Nat → Nat) (a b : List Nat) : ∀ i, (yF F G a b i).1.length = 4
 | 0 => rfl
 | i + 1 => by simp [yF, Zg F G a b i]
def crR (F G : Nat → Nat → Nat → Nat) (a b : List Nat) : List Nat × Int := if (yF F G a b 4).2 = 0 then ((yF F G a b 4).1, 0) else (zW, 6)
structure Car (P : Program) (g : FuncId) (F G : Nat → Nat → Nat → Nat) : Prop where
  run : ∀ x y c w, c ≤ 1 → (callFunc g [uV x, uV y, uV c].toArray).run P w = .ok (.value (.tuple #[uV (F x y c), uV (G x y c)])) w
  lt : ∀ x y c, F x y c < 18446744073709551616
  le : ∀ x y c, x < 18446744073709551616 → y < 18446744073709551616 → c ≤ 1 → G x y c ≤ 1
theorem Jnr {P : Program} {g : FuncId} {F G : Nat → Nat → Nat → Nat} (C : Car P g F G) {a b : List Nat} (ha : WOk a) (hb : WOk b) : ∀ i, WOk (yF F G a b i).1 ∧ (yF F G a b i).2 ≤ 1
 | 0 => ⟨⟨rfl, by simp [yF, zW]⟩, by simp [yF]⟩
 | i + 1 => by
  obtain ⟨⟨h1, h2⟩, h3⟩ := Jnr C ha hb i
  refine ⟨⟨Zg F G a b _, fun x hx => ?_⟩, C.le _ _ _ (ha.get i) (hb.get i) h3⟩
  rcases List.mem_or_eq_of_mem_set hx with h | h
  ·exact h2 x h
  ·rw [h]; exact C.lt _ _ _
theorem yZ {P : Program} {e : TypeId} (h : P.underlying e = some (.int .u64)) (l : List Nat) : (l.map uV).all (Wq P e) = true := by
 simp [List.all_map, List.all_eq_true, uV, Wq, h]
theorem xD : ∀ {a b : List Nat}, a.length = b.length → Q0 (a.map uV) (b.map uV) = decide (a = b)
 | [], [], _ => by simp [Q0]
 | x :: a, y :: b, h => by
  have ih := xD (a := a) (b := b) (by simpa using h)
  simp only [List.map_cons, Q0, ih, uV, eqS]
  by_cases h1 : x = y <;> by_cases h2 : a = b <;> simp [h1, h2]
  all_goals omega
def wN (l : List Nat) : Nat := l.getD 0 0 + 18446744073709551616 * (l.getD 1 0 + 18446744073709551616 * (l.getD 2 0 + 18446744073709551616 * l.getD 3 0))
theorem WOk.four {l : List Nat} (h : WOk l) : ∃ a b c d, l = [a, b, c, d] ∧ a < 18446744073709551616 ∧ b < 18446744073709551616 ∧ c < 18446744073709551616 ∧ d < 18446744073709551616 := by
 obtain ⟨h1, h2⟩ := h
 match l, h1 with
 | [a, b, c, d], _ => exact ⟨a, b, c, d, rfl, h2 a (by simp), h2 b (by simp), h2 c (by simp), h2 d (by simp)⟩
theorem Jw3 {l : List Nat} (h : WOk l) : wN l < 115792089237316195423570985008687907853269984665640564039457584007913129639936 := by
 obtain ⟨a, b, c, d, rfl, h1, h2, h3, h4⟩ := h.four
 simp only [wN, List.getD_cons_zero, List.getD_cons_succ]
 omega
theorem Jns {l m : List Nat} (h : WOk l) (k : WOk m) (e : wN l = wN m) : l = m := by
 obtain ⟨a, b, c, d, rfl, h1, h2, h3, h4⟩ := h.four
 obtain ⟨a', b', c', d', rfl, k1, k2, k3, k4⟩ := k.four
 simp only [wN, List.getD_cons_zero, List.getD_cons_succ] at e
 have e1 : a = a' := by omega
 have e2 : b = b' := by omega
 have e3 : c = c' := by omega
 have e4 : d = d' := by omega
 rw [e1, e2, e3, e4]
theorem J2j {x : Nat} (h : x < 18446744073709551616) : x / 1 % 256 * 1 + x / 256 % 256 * 256 + x / 65536 % 256 * 65536 + x / 16777216 % 256 * 16777216 + x / 4294967296 % 256 * 4294967296 + x / 1099511627776 % 256 * 1099511627776 + x / 281474976710656 % 256 * 281474976710656 + x / 72057594037927936 % 256 * 72057594037927936 = x := by omega
theorem Jch {l : List Nat} (h : WOk l) {j : Nat} (hj : j < 4) : pw (dg l) j 8 = l.getD j 0 := by
 have hx := J2j (h.get j)
 simp only [pw, dg]
 have e : ∀ u, u < 8 → (8 * j + u) / 8 = j ∧ (8 * j + u) % 8 = u := fun u hu => ⟨by omega, by omega⟩
 rw [(e 0 (by decide)).1, (e 0 (by decide)).2, (e 1 (by decide)).1, (e 1 (by decide)).2, (e 2 (by decide)).1, (e 2 (by decide)).2, (e 3 (by decide)).1, (e 3 (by decide)).2, (e 4 (by decide)).1, (e 4 (by decide)).2, (e 5 (by decide)).1, (e 5 (by decide)).2, (e 6 (by decide)).1, (e 6 (by decide)).2, (e 7 (by decide)).1, (e 7 (by decide)).2]
 simp only [Nat.reduceMul, Nat.reducePow, Nat.zero_add]
 exact hx
theorem J0l {l : List Nat} (h : WOk l) : vR (dg l) 32 = l := by
 obtain ⟨a, b, c, d, rfl, h1, h2, h3, h4⟩ := h.four
 have e : vR (dg [a, b, c, d]) 32 = [pw (dg [a, b, c, d]) 0 8, pw (dg [a, b, c, d]) 1 8, pw (dg [a, b, c, d]) 2 8, pw (dg [a, b, c, d]) 3 8] := rfl
 rw [e, Jch h (by decide), Jch h (by decide), Jch h (by decide), Jch h (by decide)]
 rfl
def jq (x y c : Nat) : Nat := (x + 18446744073709551616 - y - c) % 18446744073709551616
def Zx (x y c : Nat) : Nat := if x < y + c then 1 else 0
def yG (a b : List Nat) : List Nat × Int := crR jq Zx a b
theorem xE {F G : Nat → Nat → Nat → Nat} {a b : List Nat} : (crR F G a b).1.length = 4 := by
 unfold crR; split
 ·exact Zg _ _ _ _ _
 ·rfl
theorem YD (l : List Nat) : (l.map uV).all Q6 = true := by simp [uV, Q6, List.all_map, List.all_eq_true]
theorem xF (x y c : Nat) : Zx x y c ≤ 1 := by unfold Zx; split <;> omega
theorem vm {x y c : Nat} (hx : x < 18446744073709551616) (hy : y < 18446744073709551616) (hc : c ≤ 1) : jq x y c + y + c = x + 18446744073709551616 * Zx x y c ∧ jq x y c < 18446744073709551616 := by
 unfold jq Zx
 split <;> omega
theorem Jnt {a b : List Nat} (ha : WOk a) (hb : WOk b) : wN (yF jq Zx a b 4).1 + wN b = wN a + (yF jq Zx a b 4).2 * 115792089237316195423570985008687907853269984665640564039457584007913129639936 := by
 obtain ⟨a0, a1, a2, a3, rfl, h1, h2, h3, h4⟩ := ha.four
 obtain ⟨b0, b1, b2, b3, rfl, k1, k2, k3, k4⟩ := hb.four
 simp only [yF, zW, List.set_cons_zero, List.set_cons_succ, wN, List.getD_cons_zero, List.getD_cons_succ]
 have e0 := vm h1 k1 (c := 0) (by omega)
 have c0 := xF a0 b0 0
 generalize jq a0 b0 0 = r0 at *
 generalize Zx a0 b0 0 = g0 at *
 have e1 := vm h2 k2 (c := g0) c0
 have c1 := xF a1 b1 g0
 generalize jq a1 b1 g0 = r1 at *
 generalize Zx a1 b1 g0 = g1 at *
 have e2 := vm h3 k3 (c := g1) c1
 have c2 := xF a2 b2 g1
 generalize jq a2 b2 g1 = r2 at *
 generalize Zx a2 b2 g1 = g2 at *
 have e3 := vm h4 k4 (c := g2) c2
 generalize jq a3 b3 g2 = r3 at *
 generalize Zx a3 b3 g2 = g3 at *
 omega
theorem Jhr {F G : Nat → Nat → Nat → Nat} (hF : ∀ x y c, F x y c < 18446744073709551616) (a b : List Nat) : ∀ i, WOk (yF F G a b i).1
 | 0 => ⟨rfl, by simp [yF, zW]⟩
 | i + 1 => ⟨Zg F G a b _, fun x hx => by
  rcases List.mem_or_eq_of_mem_set hx with h | h
  ·exact (Jhr hF a b i).2 x h
  ·rw [h]; exact hF _ _ _⟩
theorem J0m : WOk zW := ⟨rfl, by simp [zW]⟩
theorem Jkz {a b : List Nat} (ha : WOk a) (hb : WOk b) : if wN b ≤ wN a then (yG a b).2 = 0 ∧ wN (yG a b).1 + wN b = wN a else yG a b = (zW, 6) := by
 have h := Jnt ha hb
 have hlt := Jw3 (Jhr (G := Zx) (F := jq) (fun _ _ _ => Nat.mod_lt _ (by decide)) a b 4)
 have hb1 := Jw3 hb
 unfold yG crR
 split
 ·rename_i hs
  have hc : (yF jq Zx a b 4).2 = 0 := by omega
  rw [if_pos hc]
  rw [hc] at h
  exact ⟨rfl, by simpa using h⟩
 ·rename_i hs
  have hc : (yF jq Zx a b 4).2 ≠ 0 := fun hc => by rw [hc] at h; omega
  rw [if_neg hc]
def ze (a b : List Nat) : Bool := !decide (a = b) && ((yG a b).2 != 0)
theorem Jnu {a b : List Nat} (ha : WOk a) (hb : WOk b) : ze a b = decide (wN a < wN b) := by
 have h := Jkz ha hb
 unfold ze
 by_cases hab : a = b
 ·subst hab; simp
 ·split at h
  ·rename_i hle
   rw [h.1]
   have : ¬ wN a < wN b := by omega
   simp [this]
  ·rename_i hle
   rw [h]
   have : wN a < wN b := by omega
   simp [this, hab]
def xG (l : List Nat) : Bool := decide (l = [l.getD 0 0, 0, 0, 0])
open Go Go.ChangeShapes Go.WideShapes Go.RowKit
section
variable {H : Type} {enc : TypeId × Value → H} {P : Program} {w : World} {base : Nat} {sp : Nat → Bool} {held : Bool}
theorem Jci : ∀ (cs : List Value), (List.range cs.length).map (fun i => (cs.drop (i * 1)).take 1) = cs.map fun c => [c] := fun cs => by
 apply List.ext_getElem
 ·simp
 ·intro i h1 h2
  simp only [List.length_map, List.length_range] at h1
  simp only [List.getElem_map, List.getElem_range, Nat.mul_one]
  rw [List.drop_eq_getElem_cons h1]; rfl
theorem Yp {α β γ : Type} (f : α → β) (g : β → Option γ) : ∀ l : List α, (l.map f).mapM g = l.mapM fun a => g (f a)
 | [] => rfl
 | a :: l => by simp [List.mapM_cons, Yp f g l]
theorem Jnv {fuel t e n : Nat} {cs : List Value} {x : DataW H × List MemPlace} (ht : P.underlying t = some (.array n e)) (hc : P.cellsOf t = n) (he : P.cellsOf e = 1) :
  DataW.trod enc P w base sp held (fuel + 1) t cs = some x ↔ cs.length = n ∧ ∃ xs, (cs.map fun c => [c]).mapM (DataW.trod enc P w base sp held fuel e) = some xs ∧ x = (.agg (xs.map (·.1)), xs.flatMap (·.2)) := by
 simp only [DataW.trod, ht, hc, he]
 constructor
 ·intro h
  split at h
  ·rename_i hl
   refine ⟨hl, ?_⟩
   rw [← Yp (fun i => (cs.drop (i * 1)).take 1), ← hl, Jci, Option.map_eq_some_iff] at h
   obtain ⟨xs, h1, h2⟩ := h
   exact ⟨xs, h1, h2.symm⟩
  ·cases h
 ·rintro ⟨hl, xs, h1, rfl⟩
  rw [if_pos hl, ← Yp (fun i => (cs.drop (i * 1)).take 1), ← hl, Jci, h1]; rfl
theorem zf {α : Type} {V : α → Value} {D : α → DataW H} {ok : α → Prop} {g : List Value → Option (DataW H × List MemPlace)} (hg : ∀ c x, g [c] = some x → ∃ z, c = V z ∧ x = (D z, []) ∧ ok z) : ∀ (cs : List Value) (xs : List (DataW H × List MemPlace)), (cs.map fun c => [c]).mapM g = some xs →
  ∃ zs : List α, cs = zs.map V ∧ xs = zs.map (fun z => (D z, [])) ∧ ∀ z ∈ zs, ok z
 | [], xs, h => by simp at h; exact ⟨[], rfl, by simp [h], by simp⟩
 | c :: cs, xs, h => by
  simp only [List.map_cons, List.mapM_cons] at h
  cases h1 : g [c] with
  | none => simp [h1] at h
  | some x =>
   cases h2 : (cs.map fun c => [c]).mapM g with
   | none => simp [h1, h2] at h
   | some ys =>
    simp [h1, h2] at h
    subst h
    obtain ⟨z, e1, e2, e3⟩ := hg c x h1
    obtain ⟨zs, f1, f2, f3⟩ := zf hg cs ys h2
    exact ⟨z :: zs, by simp [e1, f1], by simp [e2, f2], by simpa using ⟨e3, f3⟩⟩
theorem Jx2 {z : Int} (h : (Lit.int .u64 z).wf = true) : 0 ≤ z ∧ z < 18446744073709551616 := by
 have h1 : (0 : Int) ≤ z ∧ z ≤ 18446744073709551615 := by simpa [Lit.wf, IntKind.min, IntKind.max, IntKind.signed, IntKind.bits] using h
 omega
theorem Jk0 {n : Nat} (h : n < 18446744073709551616) : (Lit.int .u64 (n : Int)).wf = true := by
 have : (0 : Int) ≤ n ∧ (n : Int) ≤ 18446744073709551615 := by omega
 simpa [Lit.wf, IntKind.min, IntKind.max, IntKind.signed, IntKind.bits] using this
theorem open_u64 {r : Reach} {b0 : Nat} {t : TypeId} {v : Value} {d : DataW H} {ps : List MemPlace} (ht : P.underlying t = some (.int .u64)) (hval : Value.okWide P w r b0 t v) (hd : DataW.Trod enc P w base sp held t v d ps) :
  ∃ n : Nat, v = uV n ∧ d = .lit (.int .u64 (n : Int)) ∧ ps = [] ∧ n < 18446744073709551616 := by
 obtain ⟨z, rfl, rfl, rfl, hw⟩ := Go.ChangeShapes.open_int ht hval hd
 have := Jx2 hw
 exact ⟨z.toNat, by unfold uV; congr 1; omega, by congr 2; omega, rfl, by omega⟩
theorem shut_u64 {t : TypeId} {n : Nat} (ht : P.underlying t = some (.int .u64)) (h : n < 18446744073709551616) : DataW.Trod enc P w base sp held t (uV n) (.lit (.int .u64 (n : Int))) [] :=
 Go.ChangeShapes.shut_int ht (Jk0 h)
end
open Go
theorem vb {a b : Bool} (h : a = b) : Value.bool a = Value.bool b := by rw [h]
theorem J0n {x y : Int} (h : x = y) : (x == y) = true := by simpa using h
def jr (n : Nat) : Nat → List UInt8
 | 0 => []
 | w + 1 => UInt8.ofNat (n % 256) :: jr (n / 256) w
def leV : List UInt8 → Nat
 | [] => 0
 | b :: s => b.toNat + 256 * leV s
theorem Vm : ∀ (w n : Nat), (jr n w).length = w
 | 0, _ => rfl
 | w + 1, n => by simp [jr, Vm w]
theorem Jcj : ∀ (w n : Nat), jr n (w + 1) = jr n w ++ [UInt8.ofNat (n / 256 ^ w % 256)]
 | 0, n => by simp [jr]
 | w + 1, n => by
  rw [jr, Jcj w (n / 256), jr, List.cons_append, Nat.pow_succ, Nat.mul_comm, Nat.div_div_eq_div_mul]
section
variable {c : Cx} {l : Kv} {L : Jm} {X : XP} {d : List Deferred}
variable {i : Nat} {v : Value} {t : TypeId} {ps : String} {af : Array Edge} {gd : Option (Nat × Bool)} {ty t2 : TypeId}
theorem Jnx {x y : Operand} {k k' : IntKind} {a b r : Int} {ats : Array TypeId} (hx : JZ l x = some (.int k a)) (hy : JZ l y = some (.int k' b)) (hr : (if b < a then b else a) = r) :
  J6 c d l L X ⟨some i, .call ⟨.builtin .min, #[x, y], ats⟩, ty, ps, af, gd⟩ (.int k r) := fun a' w hf _ => by
 subst hr
 simp only [execOp, Sem.run_bind, resolve]
 have h1 := hf.eval hx
 have h2 := hf.eval hy
 have h3 := run_min_int2 (P := c.P) (w := w) ats ty k k' a b
 simp [h1, h2, invoke, builtin, Result.andThen, h3]
theorem xH {op : BinOp} {x y : Operand} {m n : Nat} {f : Nat → Nat → Nat} {b : Int} (hf : xv op = some f) (hx : JZ l x = some (.int .u8 (m : Int))) (hy : JZ l y = some (.int .u8 (n : Int))) (hm : m < 256) (hn : n < 256) (hb : ((f m n : Nat) : Int) = b) :
  J6 c d l L X ⟨some i, .binOp op t x y t2, ty, ps, af, gd⟩ (.int .u8 b) := fun a' w hfr _ => by
 subst hb
 have e1 : (BitVec.ofInt 8 (m : Int)).toNat = m := by simp [BitVec.toNat_ofInt]; omega
 have e2 : (BitVec.ofInt 8 (n : Int)).toNat = n := by simp [BitVec.toNat_ofInt]; omega
 have hm' : m < 2 ^ 8 := hm
 have hn' : n < 2 ^ 8 := hn
 have wr : ∀ q : Nat, q < 2 ^ 8 → IntKind.u8.wrap (q : Int) = q := fun q hq => vh (by omega) (by omega)
 simp only [execOp]
 rw [hfr.eval hx, hfr.eval hy]
 cases op <;> simp only [xv, Option.some.injEq, reduceCtorEq] at hf
 all_goals subst hf
 ·have := wr (m &&& n) (Nat.lt_of_le_of_lt Nat.and_le_left hm')
  have e3 : (BitVec.ofInt 8 (m : Int) &&& BitVec.ofInt 8 (n : Int)).toNat = m &&& n := by rw [BitVec.toNat_and, e1, e2]
  show Sem.run c.P (pure (Next.value (Value.int .u8 (IntKind.u8.wrap (((BitVec.ofInt 8 (m : Int) &&& BitVec.ofInt 8 (n : Int)).toNat : Nat) : Int))))) w = _
  rw [e3, this]; rfl
 ·have := wr (m ||| n) (Nat.or_lt_two_pow hm' hn')
  have e3 : (BitVec.ofInt 8 (m : Int) ||| BitVec.ofInt 8 (n : Int)).toNat = m ||| n := by rw [BitVec.toNat_or, e1, e2]
  show Sem.run c.P (pure (Next.value (Value.int .u8 (IntKind.u8.wrap (((BitVec.ofInt 8 (m : Int) ||| BitVec.ofInt 8 (n : Int)).toNat : Nat) : Int))))) w = _
  rw [e3, this]; rfl
 ·have := wr (m ^^^ n) (Nat.xor_lt_two_pow hm' hn')
  have e3 : (BitVec.ofInt 8 (m : Int) ^^^ BitVec.ofInt 8 (n : Int)).toNat = m ^^^ n := by rw [BitVec.toNat_xor, e1, e2]
  show Sem.run c.P (pure (Next.value (Value.int .u8 (IntKind.u8.wrap (((BitVec.ofInt 8 (m : Int) ^^^ BitVec.ofInt 8 (n : Int)).toNat : Nat) : Int))))) w = _
  rw [e3, this]; rfl
end
theorem J0o (m : Nat) : IntKind.u64.wrap (m : Int) = ((m % 18446744073709551616 : Nat) : Int) := by
 have h : IntKind.u64.wrap (m : Int) = (m : Int) % 18446744073709551616 := by rw [IntKind.wrap_u64]
 rw [h]; rfl
structure PureM (P : Program) (f : FuncId) (args : Array Value) (v : Value) (r : Nat) (o o' : Obj) : Prop where
  run : ∀ w, w.heap[r]? = some o → Calls P f args w fun e w' => e = .returned v ∧ Keep [r] w w' ∧ w'.heap[r]? = some o'
def cxM (P : Program) (w : World) (r n : Nat) : Cx := ⟨P, none, w, [r], [], [], n⟩
theorem St.startM {P : Program} {w : World} {r n : Nat} {o : Obj} (h : w.heap[r]? = some o) : St (cxM P w r n) [(r, o)] (fun _ _ => True) w :=
 ⟨Keep.refl _ _, fun p hp => by rw [List.mem_singleton.1 hp]; exact ⟨.inl List.mem_cons_self, by simp [cxM], h⟩, List.pairwise_singleton _ _, by simp [cxM], by simp [cxM], ⟨[], by simp, fun _ _ => trivial⟩⟩
theorem q8 {P : Program} {f : FuncId} {fn : Func} {code : Code} {vs : List Value} {v : Value} {r : Nat} {o o' : Obj} (hf : P.funcs[f]? = some fn) (hb : fn.body = some code) (hlen : Nat.ble vs.length fn.ntmps = true)
  (h : ∀ w, HC (cxM P w r fn.ntmps) [] (V9 0 vs) [(r, o)] (fun _ _ => True) code (bodyPostM (FW none) 0 P fn (fun e w' => e = .returned v ∧ ∃ L, (r, o') ∈ L ∧ St (cxM P w r fn.ntmps) L (fun _ _ => True) w'))) : PureM P f vs.toArray v r o o' := ⟨fun w hr =>
 (Qy (cxM P w r fn.ntmps) hf hb rfl rfl rfl hlen (St.startM hr) (h w)).mono fun _ _ ⟨he, L, hm, hs⟩ => ⟨he, by have := hs.keep; simpa [cxM] using this, (hs.own _ hm).2.2⟩⟩
section
variable {c : Cx} {l : Kv} {L : Jm} {X : XP} {Q : Exit → Act → World → Prop} {d : List Deferred}
variable {ops : Array Oper} {rest : List Oper} {i : Nat} {v : Value} {t : TypeId} {ps : String} {af : Array Edge} {gd : Option (Nat × Bool)} {ty t2 : TypeId}
theorem Jck {k r : Nat} {o o' : Obj} {L' : Jm} {f : Operand} {args : Array Operand} {at_ : Array TypeId} {g : FuncId} {vs : List Value}
  (hg : Kg l ops ⟨some i, .call ⟨.value f, args, at_⟩, ty, ps, af, gd⟩ = some true) (hi : Nat.ble (i + 1) c.n = true) (hca : Km l f args = some (g, vs)) (eg : Enters c.P g) (hk : L[k]? = some (r, o))
  (hp : PureM c.P g vs.toArray v r o o') (hL : L.set k (r, o') = L') (h : HL c d ((i, v) :: l) L' X ops rest Q) : HL c d l L X ops (⟨some i, .call ⟨.value f, args, at_⟩, ty, ps, af, gd⟩ :: rest) Q :=
 Xe (α := Unit) (V := fun _ => v) (L' := fun _ => L') (X' := fun _ => X) hg hi hca eg (fun w hs => (hp.run w (hs.get hk)).mono fun _ _ ⟨he, hkp, ho⟩ => ⟨(), he, hL ▸ hs.set hk hkp ho⟩) (fun _ => h)
theorem Jtl {x : Operand} {m : Nat} (hx : JZ l x = some (.int .u64 (m : Int))) (hm : m < 18446744073709551616) :
  J6 c d l L X ⟨some i, .unOp .xor t x, ty, ps, af, gd⟩ (.int .u64 ((18446744073709551615 ^^^ m : Nat) : Int)) := fun a' w hfr _ => by
 have e1 : (BitVec.ofInt 64 (m : Int)).toNat = m := by simp [BitVec.toNat_ofInt]; omega
 have e2 : (BitVec.ofInt 64 (IntKind.u64.max)).toNat = 18446744073709551615 := by decide
 have hx' : 18446744073709551615 ^^^ m < 2 ^ 64 := Nat.xor_lt_two_pow (by decide) hm
 have e3 : (BitVec.ofInt 64 (IntKind.u64.max) ^^^ BitVec.ofInt 64 (m : Int)).toNat = 18446744073709551615 ^^^ m := by rw [BitVec.toNat_xor, e1, e2]
 have e4 : IntKind.u64.wrap ((18446744073709551615 ^^^ m : Nat) : Int) = ((18446744073709551615 ^^^ m : Nat) : Int) := wrap_u64 (by omega) (by omega)
 simp only [execOp]
 rw [hfr.eval hx]
 show Sem.run c.P (pure (Next.value (Value.int .u64 (IntKind.u64.wrap (((BitVec.ofInt 64 (IntKind.u64.max) ^^^ BitVec.ofInt 64 (m : Int)).toNat : Nat) : Int))))) w = _
 rw [e3, e4]; rfl
theorem Jcl (a : List UInt8) (cap : Nat) : bytesRow (bs a) cap = (a.map bV ++ List.replicate (cap - a.length) (Value.int .u8 0)).toArray := by
 simp only [bytesRow, Yn]
 apply Array.toList_inj.1
 simp [bs, bV]
theorem X7 {x : Operand} {a : List UInt8} {e src dst : TypeId} (hg : Kg l ops ⟨some i, .convert src dst x, ty, ps, af, gd⟩ = some true) (hi : Nat.ble (i + 1) c.n = true) (hx : JZ l x = some (.string (bs a)))
  (hs : vL c.P src = true) (hd : Kk c.P dst = some e) (he : c.P.underlying e = some (.int .u8))
  (h : ∀ r k, HL c d ((i, .slice (some ⟨r, 0, none⟩) a.length (a.length + k)) :: l) ((r, .cells (a.map bV ++ List.replicate k (Value.int .u8 0)).toArray e (a.length + k, a.length + k + 1)) :: L) X ops rest Q) : HL c d l L X ops (⟨some i, .convert src dst x, ty, ps, af, gd⟩ :: rest) Q :=
 V6 (α := Nat × Nat) (V := fun p => .slice (some ⟨p.1, 0, none⟩) a.length (a.length + p.2)) (L' := fun p => (p.1, .cells (a.map bV ++ List.replicate p.2 (Value.int .u8 0)).toArray e (a.length + p.2, a.length + p.2 + 1)) :: L) (X' := fun _ => X) hg rfl rfl hi (fun aa w hf hst => by
  have hr := Go.run_bytes_of_string (P := c.P) w src dst e (bs a) (QL hs) (JX hd) he
  have hge := grownCap_ge w (bs a).size 0 e
  rw [Jcl] at hr
  rw [Yn] at hr hge
  obtain ⟨k, hk⟩ : ∃ k, grownCap w a.length 0 e = a.length + k := ⟨grownCap w a.length 0 e - a.length, by omega⟩
  rw [hk, show a.length + k - a.length = k from by omega] at hr
  have hsz : (a.map bV ++ List.replicate k (Value.int .u8 0)).toArray.size = a.length + k := by simp
  rw [hsz] at hr
  refine ⟨(w.heap.size, k), _, ?_, hst.drew.alloc _⟩
  simp only [execOp]
  rw [hf.eval hx]
  simp [Sem.run_bind, hr, Result.andThen]) (fun p => h p.1 p.2)
def Jhs (l : Kv) : Option Operand → Option Nat → Prop
 | none, none => True
 | some x, some n => ∃ k, JZ l x = some (.int k (n : Int))
 | _, _ => False
theorem JO {x : Operand} {lo hi mx : Option Operand} {kl kh km : Option Nat} {r off n cap e sz m q z off' : Nat} (hx : JZ l x = some (.slice (some ⟨r, off, none⟩) n cap)) (ht : Kk c.P t = some e) (hsz : KN c.P e = some sz)
  (hl : Jhs l lo kl) (hh : Jhs l hi kh) (hm : Jhs l mx km) (e1 : kl.getD 0 = m) (e2 : kh.getD n = q) (e3 : km.getD cap = z) (h1 : m ≤ q) (h2 : q ≤ z) (h3 : z ≤ cap) (h4 : kh = none → km = none) (ho : (if z = m then off else off + m * sz) = off') :
  J6 c d l L X ⟨some i, .slice t x lo hi mx, ty, ps, af, gd⟩ (.slice (some ⟨r, off', none⟩) (q - m) (z - m)) := fun a' w hf _ => by
 have ex := hf.eval hx
 subst e1 e2 e3 ho
 have low : ∀ {o : Option Operand} {k : Option Nat}, Jhs l o k → (o.map a'.eval = none ∧ k = none) ∨ (∃ y n, o.map a'.eval = some (.int y ((n : Nat) : Int)) ∧ k = some n) := by
  intro o k h
  cases o with
  | none => cases k with
   | none => exact .inl ⟨rfl, rfl⟩
   | some k => exact h.elim
  | some o => cases k with
   | none => exact h.elim
   | some k => obtain ⟨y, hy⟩ := h; exact .inr ⟨y, k, by simp [hf.eval hy], rfl⟩
 simp only [execOp, ex]
 have hadd : ∀ k : Nat, Addr.add ⟨r, off, none⟩ k = ⟨r, off + k, none⟩ := fun k => Xf r off k
 rcases low hl with ⟨f1, rfl⟩ | ⟨y1, n1, f1, rfl⟩ <;> rcases low hh with ⟨f2, rfl⟩ | ⟨y2, n2, f2, rfl⟩ <;> rcases low hm with ⟨f3, rfl⟩ | ⟨y3, n3, f3, rfl⟩ <;> simp only [Option.getD_none, Option.getD_some] at h1 h2 h3 ⊢ <;>
  (try (have := h4 rfl; cases this)) <;> rw [f1, f2, f3] <;>
  simp [Instr.sliceAt, Instr.slice, Sem.run_bind, KD (JX ht), QS hsz, Result.andThen, Instr.sliceBounds, Instr.sliceBound, asIntOf, h1, h2, h3, hadd]
 all_goals split <;> simp_all
end
open Go Go.RowKit Go.Shelf Go.ChangeShapes Go.WideShapes
abbrev Pl : Type := Option (Addr × Nat)
def plA : Pl → Option Addr
 | none => none
 | some (a, _) => some a
def plC : Pl → Nat
 | none => 0
 | some (_, cap) => cap
def KP (n : Nat) (p : Pl) : Value := .slice (plA p) n (plC p)
def plB : Pl → Nat
 | none => 0
 | some (a, _) => a.block
def plO : Pl → Nat
 | none => 0
 | some (a, _) => a.off
def Seg (R : Jm) (n : Nat) (cs : List Value) : Pl → Prop
 | none => n = 0
 | some (a, cap) => n ≤ cap ∧ (0 < n → a.spot = none ∧ ∃ all e fr, (a.block, Obj.cells all e fr) ∈ R ∧ (all.toList.drop a.off).take cs.length = cs)
theorem Seg.nil {R : Jm} : Seg R 0 [] none := rfl
theorem Seg.mono {R R' : Jm} {n : Nat} {cs : List Value} {p : Pl} (h : Seg R n cs p) (hs : ∀ q ∈ R, q ∈ R') : Seg R' n cs p := by
 cases p with
 | none => exact h
 | some q => obtain ⟨a, cap⟩ := q; exact ⟨h.1, fun h0 => by obtain ⟨h1, all, e, fr, h2, h3⟩ := h.2 h0; exact ⟨h1, all, e, fr, hs _ h2, h3⟩⟩
theorem Jny {α : Type} {all cs : List α} {o j : Nat} {v : α} (h : (all.drop o).take cs.length = cs) (hv : cs[j]? = some v) : all[o + j]? = some v := by
 rw [← h, List.getElem?_take] at hv
 split at hv
 ·rwa [List.getElem?_drop] at hv
 ·cases hv
theorem Jcn {α : Type} {all cs vs : List α} {o j m : Nat} (h : (all.drop o).take cs.length = cs) (hv : (cs.drop j).take m = vs) (hm : vs.length = m) : (all.drop (o + j)).take m = vs := by
 have h1 : j + m ≤ cs.length ∨ m = 0 := by
  have := congrArg List.length hv
  rw [List.length_take, List.length_drop, hm] at this
  omega
 rcases h1 with h1 | h1
 ·rw [← hv, ← h, List.drop_take, List.drop_drop, List.take_take, Nat.min_eq_left (by omega)]
 ·subst h1; rw [List.take_zero] at hv ⊢; exact hv
theorem Wi {α : Type} {f : α → List Value} {m : Nat} (hf : ∀ x, (f x).length = m) : ∀ {l : List α} {j : Nat} {x : α}, l[j]? = some x → ((l.flatMap f).drop (j * m)).take m = f x
 | [], _, _, h => by simp at h
 | y :: l, 0, x, h => by
  obtain rfl : y = x := by simpa using h
  rw [Nat.zero_mul, List.drop_zero, List.flatMap_cons, List.take_left' (hf y)]
 | y :: l, j + 1, x, h => by
  have e : (j + 1) * m = (f y).length + j * m := by rw [hf, Nat.succ_mul, Nat.add_comm]
  rw [e, List.flatMap_cons, ← List.drop_drop, List.drop_left' rfl]
  exact Wi hf (by simpa using h)
theorem Ks {α : Type} {f : α → List Value} {m : Nat} (hf : ∀ x, (f x).length = m) : ∀ l : List α, (l.flatMap f).length = l.length * m
 | [] => by simp
 | y :: l => by rw [List.flatMap_cons, List.length_append, hf, Ks hf l, List.length_cons, Nat.succ_mul, Nat.add_comm]
section
variable {c : Cx} {l : Kv} {L : Jm} {X : XP} {Q : Exit → Act → World → Prop} {d : List Deferred}
variable {ops : Array Oper} {rest : List Oper} {i : Nat} {v : Value} {t : TypeId} {ps : String} {af : Array Edge} {gd : Option (Nat × Bool)} {ty : TypeId}
theorem J3 {x : Operand} {p : Pl} {n : Nat} {R : Jm} {cs : List Value} {e : TypeId} (hx : JZ l x = some (KP n p)) (hs : Seg R n cs p) (ht : Kk c.P t = some e) :
  J6 c d l L X ⟨some i, .call ⟨.builtin .len, #[x], #[t]⟩, ty, ps, af, gd⟩ (.int .i64 n) := by
 cases p with
 | none => have h : n = 0 := hs; subst h; exact JU hx ht
 | some q => obtain ⟨a, cap⟩ := q; exact JU hx ht
theorem Ju {x y : Operand} {p : Pl} {R : Jm} {cs : List Value} {n e m j : Nat} {k : IntKind} {z : Int} (hx : JZ l x = some (KP n p)) (hs : Seg R n cs p) (hy : JZ l y = some (.int k z)) (ha : Kk c.P t = some e) (hm : KN c.P e = some m) (hz : z = (j : Int)) (hj : j < n) :
  J6 c d l L X ⟨some i, .indexAddr t x y, ty, ps, af, gd⟩ (.pointer (some ⟨plB p, plO p + j * m, none⟩)) := by
 cases p with
 | none => have h : n = 0 := hs; omega
 | some q =>
  obtain ⟨⟨b, o, s⟩, cap⟩ := q
  have h1 : s = none := (hs.2 (by omega)).1
  subst h1
  exact JH hx hy ha hm hz hj rfl
theorem vV {x : Operand} {p : Pl} {R : Jm} {cs : List Value} {n j : Nat} (hR : ∀ q ∈ R, known c L q.1 q.2) (hx : JZ l x = some (.pointer (some ⟨plB p, plO p + j, none⟩))) (hs : Seg R n cs p) (hn : 0 < n) (ht : VI c.P t = some false) (hv : cs[j]? = some v) :
  J6 c d l L X ⟨some i, .load t x, ty, ps, af, gd⟩ v := by
 cases p with
 | none => have h : n = 0 := hs; omega
 | some q =>
  obtain ⟨⟨b, o, s⟩, cap⟩ := q
  obtain ⟨_, all, e, fr, h1, h2⟩ := hs.2 hn
  exact Jh hx (hR _ h1) ht (by rw [W6]; exact Jny h2 hv)
theorem qc {x : Operand} {p : Pl} {R : Jm} {cs vs : List Value} {n j m : Nat} (hR : ∀ q ∈ R, known c L q.1 q.2) (hx : JZ l x = some (.pointer (some ⟨plB p, plO p + j, none⟩))) (hs : Seg R n cs p) (hn : 0 < n) (ht : VI c.P t = some true) (hm : KN c.P t = some m) (hv : (cs.drop j).take m = vs) (hl : vs.length = m) :
  J6 c d l L X ⟨some i, .load t x, ty, ps, af, gd⟩ (.agg vs.toArray) := by
 cases p with
 | none => have h : n = 0 := hs; omega
 | some q =>
  obtain ⟨⟨b, o, s⟩, cap⟩ := q
  obtain ⟨_, all, e, fr, h1, h2⟩ := hs.2 hn
  exact Jp hx (hR _ h1) ht hm (Jcn h2 hv hl) hl
end
theorem Ky (z : Array Value) (n : Nat) : (madeCells z n).toList = (List.range n).map (fun i => z.toList.getD (i % z.size) default) := by
 unfold madeCells
 simp
 intro a _
 rw [getElem!_def]
 cases z[a % z.size]? <;> rfl
def q9 (z : Int) : Prop := -9223372036854775808 ≤ z ∧ z ≤ 9223372036854775807
inductive Ty : Type
  | mk (k n : Int) (p : Pl) (ins : List Ty)
def Ty.k : Ty → Int
 | .mk k _ _ _ => k
def Ty.n : Ty → Int
 | .mk _ n _ _ => n
def Ty.p : Ty → Pl
 | .mk _ _ p _ => p
def Ty.ins : Ty → List Ty
 | .mk _ _ _ ins => ins
def Ty.cells : Ty → List Value
 | .mk k n p ins => [.int .i64 k, .int .i64 n, KP ins.length p]
def Ty.val (t : Ty) : Value := .agg t.cells.toArray
def Jco (l : List Ty) : List Value := l.flatMap Ty.cells
theorem Ty.one (t : Ty) : t.cells.all Q6 = true := by cases t; rfl
theorem Ty.len (t : Ty) : t.cells.length = 3 := by cases t; rfl
inductive Ty.In (R : Jm) : Ty → Prop
  | mk {k n : Int} {p : Pl} {ins : List Ty} (hk : q9 k) (hn : q9 n) (hl : ins.length ≤ 9223372036854775807) (hs : Seg R ins.length (Jco ins) p) (hi : ∀ x ∈ ins, Ty.In R x) : Ty.In R (.mk k n p ins)
theorem Ty.In.mono {R R' : Jm} (hs : ∀ q ∈ R, q ∈ R') {t : Ty} (h : Ty.In R t) : Ty.In R' t := by
 induction h with
 | mk hk hn hl hg hi ih => exact .mk hk hn hl (hg.mono hs) ih
theorem Ty.In.sub {R : Jm} {k n : Int} {p : Pl} {ins : List Ty} (h : Ty.In R (.mk k n p ins)) : ∀ x ∈ ins, Ty.In R x := by
 cases h; assumption
inductive Vl : Type
  | mk (a b c d : Nat) (bits : List Bool) (pb : Pl) (items : List Vl) (pi : Pl) (pick : Int)
def Vl.num : Vl → List Nat
 | .mk a b c d _ _ _ _ _ => [a, b, c, d]
def Vl.bits : Vl → List Bool
 | .mk _ _ _ _ l _ _ _ _ => l
def Vl.items : Vl → List Vl
 | .mk _ _ _ _ _ _ l _ _ => l
def Vl.pick : Vl → Int
 | .mk _ _ _ _ _ _ _ _ k => k
def Vl.cells : Vl → List Value
 | .mk a b c d bits pb items pi pick => [uV a, uV b, uV c, uV d, KP bits.length pb, KP items.length pi, .int .i64 pick]
def Vl.val (t : Vl) : Value := .agg t.cells.toArray
def Q7 (l : List Vl) : List Value := l.flatMap Vl.cells
def jt (l : List Bool) : List Value := l.map .bool
theorem Vl.one (t : Vl) : t.cells.all Q6 = true := by cases t; rfl
theorem Vl.len (t : Vl) : t.cells.length = 7 := by cases t; rfl
def VK (n : Nat) : Prop := n < 18446744073709551616
inductive Vl.In (R : Jm) : Vl → Prop
  | mk {a b c d : Nat} {bits : List Bool} {pb : Pl} {items : List Vl} {pi : Pl} {pick : Int} (ha : VK a) (hb : VK b) (hc : VK c) (hd : VK d) (hlb : bits.length ≤ 9223372036854775807) (hsb : Seg R bits.length (jt bits) pb)
      (hl : items.length ≤ 9223372036854775807) (hs : Seg R items.length (Q7 items) pi) (hp : q9 pick) (hi : ∀ x ∈ items, Vl.In R x) : Vl.In R (.mk a b c d bits pb items pi pick)
theorem Vl.In.mono {R R' : Jm} (hs : ∀ q ∈ R, q ∈ R') {t : Vl} (h : Vl.In R t) : Vl.In R' t := by
 induction h with
 | mk ha hb hc hd hlb hsb hl hg hp hi ih => exact .mk ha hb hc hd hlb (hsb.mono hs) hl (hg.mono hs) hp ih
theorem Vl.In.sub {R : Jm} {a b c d : Nat} {bits : List Bool} {pb : Pl} {items : List Vl} {pi : Pl} {pick : Int} (h : Vl.In R (.mk a b c d bits pb items pi pick)) : ∀ x ∈ items, Vl.In R x := by
 cases h; assumption
section
variable {c : Cx} {l : Kv} {L : Jm} {X : XP} {d : List Deferred} {i : Nat} {t : TypeId} {ps : String} {af : Array Edge} {gd : Option (Nat × Bool)} {ty : TypeId}
theorem ju {α : Type} {l : List α} {j : Nat} {y : α} (h : l[j]? = some y) : 0 < l.length := by
 have := (List.getElem?_eq_some_iff.1 h).1; omega
theorem Qp {x : Operand} {p : Pl} {R : Jm} {ins : List Ty} {j : Nat} {y : Ty} (hR : ∀ q ∈ R, known c L q.1 q.2) (hx : JZ l x = some (.pointer (some ⟨plB p, plO p + j * 3, none⟩))) (hs : Seg R ins.length (Jco ins) p) (hy : ins[j]? = some y) (ht : VI c.P t = some true) (hm : KN c.P t = some 3) :
  J6 c d l L X ⟨some i, .load t x, ty, ps, af, gd⟩ y.val :=
 qc hR hx hs (ju hy) ht hm (Wi Ty.len hy) y.len
theorem Wt {x : Operand} {p : Pl} {R : Jm} {ins : List Vl} {j : Nat} {y : Vl} (hR : ∀ q ∈ R, known c L q.1 q.2) (hx : JZ l x = some (.pointer (some ⟨plB p, plO p + j * 7, none⟩))) (hs : Seg R ins.length (Q7 ins) p) (hy : ins[j]? = some y) (ht : VI c.P t = some true) (hm : KN c.P t = some 7) :
  J6 c d l L X ⟨some i, .load t x, ty, ps, af, gd⟩ y.val :=
 qc hR hx hs (ju hy) ht hm (Wi Vl.len hy) y.len
theorem VY {x : Operand} {p : Pl} {R : Jm} {cs : List Value} {n j : Nat} {v : Value} (hR : ∀ q ∈ R, known c L q.1 q.2) (hx : JZ l x = some (.pointer (some ⟨plB p, plO p + j * 1, none⟩))) (hs : Seg R n cs p) (hn : j < n) (ht : VI c.P t = some false) (hv : cs[j]? = some v) :
  J6 c d l L X ⟨some i, .load t x, ty, ps, af, gd⟩ v :=
 vV hR (by rw [Nat.mul_one] at hx; exact hx) hs (by omega) ht hv
theorem XU {x : Operand} {p : Pl} {R : Jm} {bits : List Bool} {j : Nat} {y : Bool} (hR : ∀ q ∈ R, known c L q.1 q.2) (hx : JZ l x = some (.pointer (some ⟨plB p, plO p + j * 1, none⟩))) (hs : Seg R bits.length (jt bits) p) (hy : bits[j]? = some y) (ht : VI c.P t = some false) :
  J6 c d l L X ⟨some i, .load t x, ty, ps, af, gd⟩ (.bool y) :=
 vV hR (by rw [Nat.mul_one] at hx; exact hx) hs (ju hy) ht (by unfold jt; rw [List.getElem?_map, hy]; rfl)
end
section
variable {c : Cx} {l : Kv} {L : Jm} {X : XP} {d : List Deferred} {i : Nat} {v : Value} {ps : String} {af : Array Edge} {gd : Option (Nat × Bool)} {ty : TypeId}
theorem QZ {ops : Array Oper} {rest : List Oper} {T : Act → Prop} {f : Operand} {args : Array Operand} {at_ : Array TypeId} {g : FuncId} {vs : List Value} {Rl : Jm}
  (hg : Kg l ops ⟨some i, .call ⟨.value f, args, at_⟩, ty, ps, af, gd⟩ = some true) (hi : Nat.ble (i + 1) c.n = true) (hca : Km l f args = some (g, vs)) (eg : Enters c.P g)
  (hp : PureR c.P g vs.toArray v Rl) (hk : ∀ p ∈ Rl, known c L p.1 p.2) (h : HD c d ((i, v) :: l) L X ops rest T) : HD c d l L X ops (⟨some i, .call ⟨.value f, args, at_⟩, ty, ps, af, gd⟩ :: rest) T := fun a hf => by
 refine ⟨fun _ _ _ _ => trivial, ?_⟩
 rw [if_pos (JF hf hg)]
 refine ⟨v, fun w hs => ?_, h _ (hf.put (Nat.le_of_ble_eq_true hi))⟩
 unfold Oper.quietAtIn
 rw [WK hf hca c.P w _ rfl eg]
 refine ⟨rfl, fun hdep => (by cases hdep), ?_⟩
 have hc := callsIn_wide (n := 0) |>.2 (hp.run w fun p hp => hs.known (hk p hp))
 refine CallsIn.mono (show CallsIn (FW c.ro) 0 c.P g vs.toArray w _ from hc) ?_
 rintro e w' ⟨rfl, hk⟩
 exact ⟨rfl, hs.more hk⟩
end
theorem QM {α : Type} {l : List α} {j : Nat} (h : j < l.length) : ∃ y, l[j]? = some y ∧ y ∈ l := ⟨l[j], List.getElem?_eq_getElem h, List.getElem_mem h⟩
theorem ZB {α : Type} {l : List α} {j : Nat} {y : α} (h : l[j]? = some y) : l.drop j = y :: l.drop (j + 1) := by
 obtain ⟨h1, rfl⟩ := List.getElem?_eq_some_iff.1 h
 exact List.drop_eq_getElem_cons h1
def Jfi (w : World) : Jm := w.heap.toList.zipIdx.map fun p => (p.2, p.1)
theorem has_allB (w : World) : Has (Jfi w) w := by
 intro p hp
 obtain ⟨q, hq, rfl⟩ := List.mem_map.1 hp
 have := List.mem_zipIdx_iff_getElem?.1 hq
 rw [Array.getElem?_toList] at this
 exact this
theorem Jnz {w : World} {r : Nat} {o : Obj} (h : w.heap[r]? = some o) : (r, o) ∈ Jfi w :=
 List.mem_map.2 ⟨(o, r), List.mem_zipIdx_iff_getElem?.2 (by rw [Array.getElem?_toList]; exact h), rfl⟩
def Qc (k n : Int) (m : Nat) : Bool :=
 if k = 1 then decide (m = 0) && (decide (n = 1) || decide (n = 2) || decide (n = 4) || decide (n = 8) || decide (n = 32))
 else if k = 2 then decide (m = 0) && decide (n = 0)
 else if k = 3 ∨ k = 4 then decide (m = 1) && decide (1 ≤ n) && decide (n ≤ 512)
 else if k = 5 ∨ k = 6 then decide (m = 0) && decide (1 ≤ n) && decide (n ≤ 512)
 else if k = 7 then decide (n = 0) && decide (1 ≤ m) && decide (m ≤ 16)
 else decide (n = 0) && decide (1 ≤ m) && decide (m ≤ 8)
mutual
def chk : Ty → Int → Int
 | .mk k n _ ins, d => if k < 1 ∨ 8 < k then 9 else if Qc k n ins.length = false then 2 else if 6 ≤ d then 7 else XJ ins (d + 1)
def XJ : List Ty → Int → Int
 | [], _ => 0
 | x :: xs, d => if chk x d = 0 then XJ xs d else chk x d
end
mutual
def Xk : Ty → Bool
 | .mk k _ _ ins => !(decide (k = 4) || decide (k = 6) || decide (k = 8)) && qd ins
def qd : List Ty → Bool
 | [] => true
 | x :: xs => Xk x && qd xs
end
mutual
def KV : Ty → Int
 | .mk k n _ ins => if k = 1 then n else if k = 2 then 1 else if k = 5 then (n + 7) / 8 else if k = 3 then n * VP ins else VP ins
def VP : List Ty → Int
 | [] => 0
 | x :: xs => KV x + VP xs
end
def V1 (t : Ty) : Bool := decide (chk t 0 = 0) && Xk t
def zg (t : Ty) : Int := if V1 t then KV t else 0
mutual
def Xl : Vl → Vl → Bool
 | .mk a b c d bits _ items _ pick, v => decide ([a, b, c, d] = v.num) && decide (pick = v.pick) && decide (bits = v.bits) && VD items v.items
def VD : List Vl → List Vl → Bool
 | [], [] => true
 | x :: xs, y :: ys => Xl x y && VD xs ys
 | _, _ => false
end
theorem Ty.ind {M : Ty → Prop} (h : ∀ k n p ins, (∀ x ∈ ins, M x) → M (.mk k n p ins)) : ∀ t, M t
 | .mk k n p ins => h k n p ins fun x hx => Ty.ind h x
theorem Vl.ind {M : Vl → Prop} (h : ∀ a b c d bits pb items pi pick, (∀ x ∈ items, M x) → M (.mk a b c d bits pb items pi pick)) : ∀ t, M t
 | .mk a b c d bits pb items pi pick => h a b c d bits pb items pi pick fun x hx => Vl.ind h x
theorem chkL_mem : ∀ {l : List Ty} {d : Int}, XJ l d = 0 → ∀ x ∈ l, chk x d = 0
 | [], _, _, x, hx => by simp at hx
 | y :: l, d, h, x, hx => by
  rw [XJ] at h
  split at h
  ·rename_i h0
   rcases List.mem_cons.1 hx with rfl | hx
   ·exact h0
   ·exact chkL_mem h x hx
  ·rename_i h0; exact absurd h h0
theorem jv : ∀ {l : List Ty}, qd l = true ↔ ∀ x ∈ l, Xk x = true
 | [] => by simp [qd]
 | y :: l => by rw [qd, Bool.and_eq_true, jv]; simp
theorem Va {k n : Int} {p : Pl} {ins : List Ty} {d : Int} (h : chk (.mk k n p ins) d = 0) : (1 ≤ k ∧ k ≤ 8) ∧ Qc k n ins.length = true ∧ d < 6 ∧ ∀ x ∈ ins, chk x (d + 1) = 0 := by
 rw [chk] at h
 split at h
 ·cases h
 ·split at h
  ·cases h
  ·split at h
   ·cases h
   ·rename_i h1 h2 h3
    exact ⟨by omega, by simpa using h2, by omega, chkL_mem h⟩
def bnd : Nat → Int
 | 0 => 64
 | m + 1 => 512 * bnd m
theorem vn : ∀ m, 64 ≤ bnd m
 | 0 => by decide
 | m + 1 => by have := vn m; rw [bnd]; omega
theorem Jn0 {m : Nat} (h : m ≤ 5) : bnd m ≤ 2251799813685248 := by
 have : ∀ m : Nat, m < 6 → bnd m ≤ 2251799813685248 := by decide
 exact this m (by omega)
theorem xI {B : Int} : ∀ {l : List Ty}, (∀ x ∈ l, 1 ≤ KV x ∧ KV x ≤ B) → (l.length : Int) ≤ VP l ∧ VP l ≤ l.length * B
 | [], _ => by simp [VP]
 | y :: l, h => by
  have h1 := h y (by simp)
  have h2 := xI (l := l) fun x hx => h x (by simp [hx])
  rw [VP, List.length_cons]
  have e : ((l.length + 1 : Nat) : Int) * B = l.length * B + B := by rw [Int.natCast_add, Int.add_mul]; simp
  omega
theorem Jfj (t : Ty) : ∀ d : Int, 0 ≤ d → chk t d = 0 → Xk t = true → 1 ≤ KV t ∧ KV t ≤ bnd (5 - d).toNat := by
 induction t using Ty.ind with
 | h k n p ins ih =>
  intro d hd hc hf
  obtain ⟨hk, ho, h6, hi⟩ := Va hc
  rw [Xk, Bool.and_eq_true] at hf
  have hb := vn (5 - d).toNat
  have hfix := jv.1 hf.2
  have hne : (k ≠ 4 ∧ k ≠ 6) ∧ k ≠ 8 := by simpa using hf.1
  unfold Qc at ho
  rw [KV]
  by_cases h1 : k = 1
  ·subst h1; simp at ho ⊢; omega
  by_cases h2 : k = 2
  ·subst h2; simp; omega
  by_cases h5 : k = 5
  ·subst h5; simp at ho ⊢; omega
  have hne0 : 1 ≤ ins.length ∧ ins.length ≤ 16 := by
   by_cases h3 : k = 3
   ·subst h3; simp at ho; omega
   ·have : k = 7 := by omega
    subst this; simp at ho; omega
  have hd5 : d < 5 := by
   obtain ⟨x, hx⟩ : ∃ x, x ∈ ins := ⟨ins[0], List.getElem_mem (by omega)⟩
   cases x with
   | mk a b c e => have := (Va (hi _ hx)).2.2.1; omega
  have hs := xI (B := bnd (5 - (d + 1)).toNat) fun x hx => ih x hx (d + 1) (by omega) (hi x hx) (hfix x hx)
  have e : (5 - d).toNat = (5 - (d + 1)).toNat + 1 := by omega
  rw [e, bnd]
  have hb2 := vn (5 - (d + 1)).toNat
  generalize bnd (5 - (d + 1)).toNat = B at *
  rw [if_neg h1, if_neg h2, if_neg h5]
  by_cases h3 : k = 3
  ·subst h3
   simp at ho
   have hl : (ins.length : Int) = 1 := by omega
   rw [hl] at hs
   rw [if_pos rfl]
   generalize VP ins = z at *
   constructor
   ·exact Int.le_trans (by omega) (Int.mul_le_mul ho.1.2 hs.1 (by omega) (by omega))
   ·exact Int.le_trans (Int.mul_le_mul ho.2 hs.2 (by omega) (by omega)) (by omega)
  ·rw [if_neg h3]
   generalize VP ins = z at *
   have : (ins.length : Int) * B ≤ 16 * B := Int.mul_le_mul_of_nonneg_right (by omega) (by omega)
   omega
theorem VZ : ∀ {xs ys : List Vl}, VD xs ys = true ↔ xs.length = ys.length ∧ ∀ (i : Nat) (x y : Vl), xs[i]? = some x → ys[i]? = some y → Xl x y = true
 | [], [] => by simp [VD]
 | [], y :: ys => by simp [VD]
 | x :: xs, [] => by simp [VD]
 | x :: xs, y :: ys => by
  rw [VD, Bool.and_eq_true, VZ]
  constructor
  ·rintro ⟨h1, h2, h3⟩
   refine ⟨by simp [h2], fun i a b ha hb => ?_⟩
   cases i with
   | zero => simp at ha hb; subst ha; subst hb; exact h1
   | succ i => exact h3 i a b (by simpa using ha) (by simpa using hb)
  ·rintro ⟨h1, h2⟩
   exact ⟨h2 0 x y rfl rfl, by simpa using h1, fun i a b ha hb => h2 (i + 1) a b (by simpa using ha) (by simpa using hb)⟩
theorem Jfk (v : Vl) : Xl v v = true := by
 induction v using Vl.ind with
 | h a b c d bits pb items pi pick ih =>
  rw [Xl]
  have : VD items items = true := VZ.2 ⟨rfl, fun i x y hx hy => by rw [hx] at hy; cases hy; exact ih x (List.mem_of_getElem? hx)⟩
  simp [Vl.num, Vl.pick, Vl.bits, Vl.items, this]
structure PureMR (P : Program) (f : FuncId) (args : Array Value) (v : Value) (r : Nat) (o o' : Obj) (Rl : Jm) : Prop where
  run : ∀ w, w.heap[r]? = some o → Has Rl w → Calls P f args w fun e w' => e = .returned v ∧ Keep [r] w w' ∧ w'.heap[r]? = some o'
def xJ (P : Program) (w : World) (r : Nat) (Rl : Jm) (n : Nat) : Cx := ⟨P, none, w, [r], [], Rl, n⟩
theorem St.startMR {P : Program} {w : World} {r n : Nat} {o : Obj} {Rl : Jm} (h : w.heap[r]? = some o) (hR : Has Rl w) (hne : ∀ p ∈ Rl, p.1 ≠ r) : St (xJ P w r Rl n) [(r, o)] (fun _ _ => True) w :=
 ⟨Keep.refl _ _, fun p hp => by rw [List.mem_singleton.1 hp]; exact ⟨.inl List.mem_cons_self, by simp [xJ], h⟩, List.pairwise_singleton _ _, fun p hp => ⟨by simp [xJ]; exact hne p hp, by simp [xJ], hR p hp⟩, by simp [xJ], ⟨[], by simp, fun _ _ => trivial⟩⟩
theorem WP {P : Program} {f : FuncId} {fn : Func} {code : Code} {vs : List Value} {v : Value} {r : Nat} {o o' : Obj} {Rl : Jm} (hne : ∀ p ∈ Rl, p.1 ≠ r) (hf : P.funcs[f]? = some fn) (hb : fn.body = some code) (hlen : Nat.ble vs.length fn.ntmps = true)
  (h : ∀ w, HC (xJ P w r Rl fn.ntmps) [] (V9 0 vs) [(r, o)] (fun _ _ => True) code (bodyPostM (FW none) 0 P fn (fun e w' => e = .returned v ∧ ∃ L, (r, o') ∈ L ∧ St (xJ P w r Rl fn.ntmps) L (fun _ _ => True) w'))) : PureMR P f vs.toArray v r o o' Rl := ⟨fun w hr hR =>
 (Qy (xJ P w r Rl fn.ntmps) hf hb rfl rfl rfl hlen (St.startMR hr hR hne) (h w)).mono fun _ _ ⟨he, L, hm, hs⟩ => ⟨he, by have := hs.keep; simpa [xJ] using this, (hs.own _ hm).2.2⟩⟩
section
variable {c : Cx} {l : Kv} {L : Jm} {X : XP} {Q : Exit → Act → World → Prop} {d : List Deferred}
variable {ops : Array Oper} {rest : List Oper} {i : Nat} {v : Value} {t : TypeId} {ps : String} {af : Array Edge} {gd : Option (Nat × Bool)} {ty t2 : TypeId}
theorem St.apart {w : World} (hs : St c L X w) {k r : Nat} {o : Obj} (hk : L[k]? = some (r, o)) : ∀ p ∈ c.R, p.1 ≠ r := by
 rintro p hp rfl
 have h1 := (hs.own _ (List.mem_of_getElem? hk)).1
 obtain ⟨h2, _, h3⟩ := hs.ext p hp
 rcases h1 with h1 | h1
 ·exact h2 h1
 ·have := J7 h3
  exact absurd this (Nat.not_lt.2 h1)
theorem Jk1 {k r : Nat} {o o' : Obj} {L' : Jm} {Rl : Jm} {f : Operand} {args : Array Operand} {at_ : Array TypeId} {g : FuncId} {vs : List Value}
  (hg : Kg l ops ⟨some i, .call ⟨.value f, args, at_⟩, ty, ps, af, gd⟩ = some true) (hi : Nat.ble (i + 1) c.n = true) (hca : Km l f args = some (g, vs)) (eg : Enters c.P g) (hk : L[k]? = some (r, o))
  (hp : (∀ p ∈ Rl, p.1 ≠ r) → PureMR c.P g vs.toArray v r o o' Rl) (hR : ∀ p ∈ Rl, p ∈ c.R) (hL : L.set k (r, o') = L') (h : HL c d ((i, v) :: l) L' X ops rest Q) : HL c d l L X ops (⟨some i, .call ⟨.value f, args, at_⟩, ty, ps, af, gd⟩ :: rest) Q :=
 Xe (α := Unit) (V := fun _ => v) (L' := fun _ => L') (X' := fun _ => X) hg hi hca eg (fun w hs => ((hp fun p hq => hs.apart hk p (hR p hq)).run w (hs.get hk) (fun p hq => hs.readR (hR p hq))).mono fun _ _ ⟨he, hkp, ho⟩ => ⟨(), he, hL ▸ hs.set hk hkp ho⟩) (fun _ => h)
theorem ZK (hg : Kg l ops ⟨some i, .makeMap t none, ty, ps, af, gd⟩ = some true) (hi : Nat.ble (i + 1) c.n = true)
  (h : ∀ r, HL c d ((i, .map (some r)) :: l) ((r, .map #[] 0) :: L) X ops rest Q) : HL c d l L X ops (⟨some i, .makeMap t none, ty, ps, af, gd⟩ :: rest) Q :=
 V6 (α := Nat) (V := fun r => .map (some r)) (L' := fun r => (r, .map #[] 0) :: L) (X' := fun _ => X) hg rfl rfl hi (fun a w _ hs => ⟨w.heap.size, w.alloc (.map #[] 0), by simp only [execOp, Sem.run_bind, Option.map]; rfl, hs.alloc _⟩) h
theorem KF {m x y : Operand} {kt et r clock q : Nat} {es : Array MapEntry} {key val : Value} {dom : Value → Prop} {eq : Value → Value → Bool} {L' : Jm} (K : KeyL c.P kt dom eq) (hg : Kg l ops ⟨none, .insert t m x y, ty, ps, af, gd⟩ = some true)
  (hm : JZ l m = some (.map (some r))) (hx : JZ l x = some key) (hy : JZ l y = some val) (hq : L[q]? = some (r, .map es clock)) (ht : qz c.P t = some (kt, et)) (hk : dom key) (he : ∀ e ∈ es.toList, dom e.key) (hn : Kw eq key (es.toList.map QU) = none)
  (hL : L.set q (r, .map (es.push { key := key, val := val, born := clock }) (clock + 1)) = L') (h : HL c d l L' X ops rest Q) : HL c d l L X ops (⟨none, .insert t m x y, ty, ps, af, gd⟩ :: rest) Q :=
 xl hg rfl rfl (fun a w hf hs => ⟨_, by
  simp only [execOp, Sem.run_bind]
  rw [hf.eval hm, hf.eval hx, hf.eval hy, vJ K ht (hs.get hq) hk he hn]; rfl, hL ▸ hs.set hq (Keep.putObj r _) (World.putObj_heap_same (J7 (hs.get hq)))⟩) h
end
def isI (v : Value) : Prop := ∃ n, v = .int .i64 n
def XV (x y : Value) : Bool := eqS x y
theorem vW {P : Program} {t : TypeId} (ht : P.underlying t = some (.int .i64)) (b : Bool) (n : Nat) (x : Int) (w : World) : (Instr.checkKey b (n + 1) t (.int .i64 x)).run P w = .ok () w := by
 simp [Instr.checkKey, Sem.run_bind, KD ht, Result.andThen]
theorem Wa {P : Program} {t : TypeId} (ht : P.underlying t = some (.int .i64)) : KeyL P t isI XV where
 now := ⟨_, ht, fun a b ⟨a1, ha⟩ ⟨b1, hb⟩ => by subst ha hb; exact .inr (by simp [Instr.sameNow, XV, eqS])⟩
 equal := by
  rintro _ _ w ⟨a, rfl⟩ ⟨b, rfl⟩
  exact xx (by simp [Wq, ht]) (by simp [Wq, ht]) 9999 w
 check := by
  rintro _ b w ⟨x, rfl⟩
  exact vW ht b 9999 x w
theorem Jn1 (a b : Int) : XV (.int .i64 a) (.int .i64 b) = (a == b) := rfl
structure GE where
  α : Type
  V : α → Value
  LL : α → Jm
  x0 : α
inductive Kb
  | quiet
  | pure
  | grow (e : GE)
  | turn
  | dep (ts : List Nat) (e : List Value → GE)
abbrev ZT := Nat → Kb
def Kb.isGrow : Kb → Bool
 | .grow _ => true
 | .dep _ _ => true
 | _ => false
def Xm (a : Act) (ts : List Nat) : List Value := ts.map fun t => a.eval (.tmp t)
def Kb.ge : Kb → Act → Option GE
 | .grow e, _ => some e
 | .dep ts e, a => some (e (Xm a ts))
 | _, _ => none
def Jk2 (ops : Array Oper) (tb : ZT) (m : Nat) : Prop :=
 ∀ j, j < m → ∀ o, ops[j]? = some o → ∀ ts e, tb j = .dep ts e → ∀ t ∈ ts, t ∈ o.looksAt ops
theorem Jk3 {ops : Array Oper} {o : Oper} {a : Act} {dst : Option Tmp} {v : Value} {ts : List Nat} (h : ∀ d, dst = some d → d ∉ o.looksAt ops) (ht : ∀ t ∈ ts, t ∈ o.looksAt ops) : Xm (a.put dst v) ts = Xm a ts :=
 List.map_congr_left fun t hm => Act.eval_put fun d hd e => by cases e; exact h t hd (ht t hm)
theorem vX {ops : Array Oper} {tb : ZT} {m j : Nat} {o : Oper} {a : Act} {dst : Option Tmp} {v : Value} (hd : Jk2 ops tb m) (hj : j < m) (ho : ops[j]? = some o) (h : ∀ d, dst = some d → d ∉ o.looksAt ops) : (tb j).ge (a.put dst v) = (tb j).ge a := by
 cases ht : tb j with
 | dep ts e => show some (e (Xm (a.put dst v) ts)) = some (e (Xm a ts)); rw [Jk3 h (hd j hj o ho ts e ht)]
 | _ => rfl
theorem zh {k : Kb} (a : Act) (h : k.isGrow = true) : ∃ e, k.ge a = some e := by
 cases k with
 | grow e => exact ⟨e, rfl⟩
 | dep ts e => exact ⟨_, rfl⟩
 | _ => cases h
def Kb.isTurn : Kb → Bool
 | .turn => true
 | _ => false
def Kb.isQuiet : Kb → Bool
 | .quiet => true
 | _ => false
section
variable {c : Cx} {X : XP} {S : Jm} {ops : Array Oper} {md : Region.Mode}
def Jn2 (LL : Jm) (w w' : World) : Prop := Keep [] w w' ∧ (∀ p ∈ LL, w.heap.size ≤ p.1 ∧ w'.heap[p.1]? = some p.2) ∧ LL.Pairwise fun p q => p.1 ≠ q.1
def YG (c : Cx) (X : XP) (S : Jm) (ops : Array Oper) (o : Oper) (e : GE) (a : Act) : Prop :=
 Region.wanted o (yielded ops a.tmps) = true ∧ ∀ E, SubS S E → ∀ w, St c E X w → actAt c o a w fun u w' => ∃ x, u = e.V x ∧ Jn2 (e.LL x) w w'
theorem YG.same {o : Oper} {e : GE} {a a' : Act} (hy : YG c X S ops o e a) (he : execOp a'.eval o = execOp a.eval o) (hw : Region.wanted o (yielded ops a'.tmps) = Region.wanted o (yielded ops a.tmps)) : YG c X S ops o e a' :=
 ⟨hw.trans hy.1, fun E hE w hs => (hy.2 E hE w hs).same he⟩
def YT (c : Cx) (E : Jm) (X : XP) (ops : Array Oper) (o : Oper) {α : Type} (V : α → Value) (G : α → Jm) (a : Act) : Prop :=
 Region.wanted o (yielded ops a.tmps) = true ∧ ∀ w, St c E X w → actAt c o a w fun u w' => ∃ x, u = V x ∧ St c (G x) X w'
def stB (c : Cx) (X : XP) (S : Jm) (ops : Array Oper) (tb : ZT) (i : Nat) (K : Jm → Act → Prop) (E : Jm) (a : Act) : Prop :=
 ∃ o, ops[i]? = some o ∧ match tb i with
  | .quiet => ∃ v, YQ c E X ops o v a ∧ K E (a.put o.dst v)
  | .pure => ∃ v, YP c X S ops o v a ∧ K E (a.put o.dst v)
  | .grow e => (YG c X S ops o e a ∧ ∀ x, K (e.LL x ++ E) (a.put o.dst (e.V x))) ∨ (Region.wanted o (yielded ops a.tmps) = false ∧ K E (a.put o.dst undef))
  | .turn => (∃ (α : Type) (V : α → Value) (G : α → Jm), YT c E X ops o V G a ∧ ∀ x, SubS S (G x) ∧ K (G x) (a.put o.dst (V x))) ∨ (Region.wanted o (yielded ops a.tmps) = false ∧ K E (a.put o.dst undef))
  | .dep ts e => (YG c X S ops o (e (Xm a ts)) a ∧ ∀ x, K ((e (Xm a ts)).LL x ++ E) (a.put o.dst ((e (Xm a ts)).V x))) ∨ (Region.wanted o (yielded ops a.tmps) = false ∧ K E (a.put o.dst undef))
theorem qe {tb : ZT} {i : Nat} {K : Jm → Act → Prop} {E : Jm} {a : Act} {e : GE} (h : (tb i).ge a = some e) :
  stB c X S ops tb i K E a ↔ ∃ o, ops[i]? = some o ∧ ((YG c X S ops o e a ∧ ∀ x, K (e.LL x ++ E) (a.put o.dst (e.V x))) ∨ (Region.wanted o (yielded ops a.tmps) = false ∧ K E (a.put o.dst undef))) := by
 unfold stB
 cases ht : tb i with
 | grow e' => rw [ht] at h; cases h; exact Iff.rfl
 | dep ts e' => rw [ht] at h; cases h; exact Iff.rfl
 | _ => rw [ht] at h; cases h
def XK (c : Cx) (X : XP) (S : Jm) (ops : Array Oper) (md : Region.Mode) (tb : ZT) (m : Nat) (T : Jm → Array Bool → Act → Prop) : Nat → Array Bool → Jm → Act → Prop
 | 0, listed, E, a => T E listed a
 | f + 1, listed, E, a => Region.ready md ops listed ≠ [] ∧ ∀ i ∈ Region.ready md ops listed, i < m ∧ stB c X S ops tb i (fun E' a' => XK c X S ops md tb m T f (listed.setIfInBounds i true) E' a') E a
theorem SubS.grow {E LL : Jm} (h : SubS S E) : SubS S (LL ++ E) := fun p hp => List.mem_append_right _ (h p hp)
theorem YQ.perm {E E' : Jm} {o : Oper} {v : Value} {a : Act} (hy : YQ c E X ops o v a) (hp : E.Perm E') : YQ c E' X ops o v a := by
 rcases hy with ⟨h1, h2⟩ | h
 ·exact .inl ⟨h1, fun w hs => h2 w (hs.perm hp.symm)⟩
 ·exact .inr h
theorem VE {tb : ZT} {m : Nat} {T : Jm → Array Bool → Act → Prop} (hTp : ∀ E E' listed a, E.Perm E' → T E listed a → T E' listed a) :
  ∀ (f : Nat) (listed : Array Bool) (E E' : Jm) (a : Act), E.Perm E' → XK c X S ops md tb m T f listed E a → XK c X S ops md tb m T f listed E' a
 | 0, listed, E, E', a, hp, h => hTp _ _ _ _ hp h
 | f + 1, listed, E, E', a, hp, h => by
  refine ⟨h.1, fun i hi => ⟨(h.2 i hi).1, ?_⟩⟩
  obtain ⟨o, ho, hm⟩ := (h.2 i hi).2
  refine ⟨o, ho, ?_⟩
  cases ha : tb i with
  | quiet => rw [ha] at hm; obtain ⟨v, h1, h2⟩ := hm; exact ⟨v, h1.perm hp, VE hTp f _ _ _ _ hp h2⟩
  | pure => rw [ha] at hm; obtain ⟨v, h1, h2⟩ := hm; exact ⟨v, h1, VE hTp f _ _ _ _ hp h2⟩
  | grow e =>
   rw [ha] at hm
   rcases hm with ⟨h1, h2⟩ | ⟨h1, h2⟩
   ·exact .inl ⟨h1, fun x => VE hTp f _ _ _ _ (hp.append_left _) (h2 x)⟩
   ·exact .inr ⟨h1, VE hTp f _ _ _ _ hp h2⟩
  | turn =>
   rw [ha] at hm
   rcases hm with ⟨α, V, G, ⟨h1, h2⟩, h3⟩ | ⟨h1, h2⟩
   ·exact .inl ⟨α, V, G, ⟨h1, fun w hs => h2 w (hs.perm hp.symm)⟩, h3⟩
   ·exact .inr ⟨h1, VE hTp f _ _ _ _ hp h2⟩
  | dep ts e =>
   rw [ha] at hm
   rcases hm with ⟨h1, h2⟩ | ⟨h1, h2⟩
   ·exact .inl ⟨h1, fun x => VE hTp f _ _ _ _ (hp.append_left _) (h2 x)⟩
   ·exact .inr ⟨h1, VE hTp f _ _ _ _ hp h2⟩
theorem Jx3 {tb : ZT} {i : Nat} {K : Jm → Act → Prop} {K' : Act → World → Prop} {Q' : Exit → Act → World → Prop} {E : Jm} {a : Act} {w : World} (hnd : ∀ (j : Nat) (o : Oper), ops[j]? = some o → Ku o.op = true)
  (hs : St c E X w) (hE : SubS S E) (h : ∀ E a w', SubS S E → St c E X w' → K E a → K' a w') (hh : stB c X S ops tb i K E a) : wpOpIn (FW c.ro) 0 c.P ops Q' i K' a w := by
 obtain ⟨o, ho, hm⟩ := hh
 have no : Region.wanted o (yielded ops a.tmps) = false → K E (a.put o.dst undef) → wpOpIn (FW c.ro) 0 c.P ops Q' i K' a w := fun hw hk => by
  unfold wpOpIn
  simp only [ho]
  rw [if_neg (by rw [hw]; simp)]
  exact ⟨Qr, h E _ w hE hs hk⟩
 have yes : ∀ v, YQ c E X ops o v a → K E (a.put o.dst v) → wpOpIn (FW c.ro) 0 c.P ops Q' i K' a w := fun v hy hk => by
  rcases hy with ⟨hw, hq⟩ | ⟨hw, rfl⟩
  ·exact qa ho (hnd i o ho) hw (hq w hs) fun u w' ⟨e, hk'⟩ => h E _ w' hE (hs.more hk') (e ▸ hk)
  ·exact no hw hk
 cases ha : tb i with
 | quiet => rw [ha] at hm; obtain ⟨v, h1, h2⟩ := hm; exact yes v h1 h2
 | pure => rw [ha] at hm; obtain ⟨v, h1, h2⟩ := hm; exact yes v (h1.quiet hE) h2
 | grow e =>
  rw [ha] at hm
  rcases hm with ⟨⟨hw, hr⟩, h2⟩ | ⟨hw, h2⟩
  ·exact qa ho (hnd i o ho) hw (hr E hE w hs) fun u w' ⟨x, e', hk, hf, hd⟩ => h _ _ w' hE.grow (hs.freshs hk hf hd) (e' ▸ (h2 x))
  ·exact no hw h2
 | turn =>
  rw [ha] at hm
  rcases hm with ⟨α, V, G, ⟨hw, hr⟩, h2⟩ | ⟨hw, h2⟩
  ·exact qa ho (hnd i o ho) hw (hr w hs) fun u w' ⟨x, e', hs'⟩ => h _ _ w' (h2 x).1 hs' (e' ▸ (h2 x).2)
  ·exact no hw h2
 | dep ts e =>
  rw [ha] at hm
  rcases hm with ⟨⟨hw, hr⟩, h2⟩ | ⟨hw, h2⟩
  ·exact qa ho (hnd i o ho) hw (hr E hE w hs) fun u w' ⟨x, e', hk, hf, hd⟩ => h _ _ w' hE.grow (hs.freshs hk hf hd) (e' ▸ (h2 x))
  ·exact no hw h2
theorem Jht {tb : ZT} {m g : Nat} {T : Jm → Array Bool → Act → Prop} {Q' : Exit → Act → World → Prop} (hnd : ∀ (j : Nat) (o : Oper), ops[j]? = some o → Ku o.op = true)
  (hT : ∀ E listed a w, SubS S E → St c E X w → T E listed a → wpAnyIn (FW c.ro) 0 c.P md ops Q' g listed a w) :
  ∀ (f : Nat) (listed : Array Bool) (E : Jm) (a : Act) (w : World), SubS S E → St c E X w → XK c X S ops md tb m T f listed E a → wpAnyIn (FW c.ro) 0 c.P md ops Q' (f + g) listed a w
 | 0, listed, E, a, w, hE, hw, h => by rw [Nat.zero_add]; exact hT _ _ _ _ hE hw h
 | f + 1, listed, E, a, w, hE, hw, h => by
  rw [show f + 1 + g = (f + g) + 1 from by omega]
  exact ⟨fun h0 => absurd h0 h.1, fun i hi => Jx3 hnd hw hE (fun E' a' w' hE' hw' h' => Jht hnd hT f _ E' a' w' hE' hw' h') (h.2 i hi).2⟩
def Jfl (md : Region.Mode) (ops : Array Oper) (tb : ZT) (m i : Nat) : Prop :=
 tb i = .quiet → ∀ j, j < m → tb j = .turn → ∀ listed, i ∈ Region.ready md ops listed → j ∈ Region.ready md ops listed → False
def okG (md : Region.Mode) (ops : Array Oper) (tb : ZT) (i : Nat) : Nat → Array Bool → Bool
 | 0, listed => (Region.ready md ops listed).all fun j => j == i
 | f + 1, listed => (Region.ready md ops listed).all fun j => j == i || ((tb j).isGrow && okG md ops tb i f (listed.setIfInBounds j true))
theorem Jfm {tb : ZT} {m i : Nat} {oi : Oper} {v : Value} {T : Jm → Array Bool → Act → Prop} (hi : ops[i]? = some oi) (hai : tb i = .quiet ∨ tb i = .pure) (hsel : ∀ (j : Nat) (o : Oper) cs b, ops[j]? = some o → o.op ≠ .select cs b)
  (hbd : Jfl md ops tb m i) (hdep : Jk2 ops tb m)
  (hlt : ∀ listed, HeadInv md ops m listed → listed.getD i true = false → ∀ j ∈ Region.ready md ops listed, j < m)
  (hT : ∀ E listed a, T E listed a → ∀ j ∈ Region.ready md ops listed, m ≤ j) :
  ∀ (f : Nat) (listed : Array Bool) (E : Jm) (a : Act), HeadInv md ops m listed →
   (∀ j oj, ops[j]? = some oj → j ≠ i → listed.getD j true = false → (∀ e ∈ oj.after, Region.binds md e = true → e.on ≠ i) → oi.apart ops oj = true) →
   SubS S E → i ∈ Region.ready md ops listed → (YQ c E X ops oi v a ∧ (tb i = .pure → YP c X S ops oi v a)) →
   XK c X S ops md tb m T f (listed.setIfInBounds i true) E (a.put oi.dst v) → XK c X S ops md tb m T (f + 1) listed E a := by
 have self : ∀ {K : Jm → Act → Prop} {E : Jm} {a : Act}, (YQ c E X ops oi v a ∧ (tb i = .pure → YP c X S ops oi v a)) → K E (a.put oi.dst v) → stB c X S ops tb i K E a := by
  intro K E a hy H
  refine ⟨oi, hi, ?_⟩
  rcases hai with h | h <;> rw [h]
  ·exact ⟨v, hy.1, H⟩
  ·exact ⟨v, hy.2 h, H⟩
 intro f
 induction f with
 | zero =>
  intro listed E a inv _ hSE hr hy H
  refine ⟨fun h => (by rw [h] at hr; cases hr), fun j hj => ⟨hlt _ inv (mem_ready.1 hr).1 j hj, ?_⟩⟩
  by_cases hji : j = i
  ·subst hji; exact self hy H
  ·have h1 := hT _ _ _ H j (ready_mono hj hji)
   have h2 := hlt _ inv (mem_ready.1 hr).1 j hj
   omega
 | succ f ih =>
  intro listed E a inv hfree hSE hr hy H
  refine ⟨fun h => (by rw [h] at hr; cases hr), fun j hj => ?_⟩
  have hjm := hlt _ inv (mem_ready.1 hr).1 j hj
  refine ⟨hjm, ?_⟩
  by_cases hji : j = i
  ·subst hji; exact self hy H
  ·obtain ⟨oj, hoj, hm⟩ := (H.2 j (ready_mono hj hji)).2
   obtain ⟨hjun, oj', hoj', hall⟩ := mem_ready.1 hj
   rw [hoj] at hoj'
   cases hoj'
   have hnot : ∀ e ∈ oj.after, Region.binds md e = true → e.on ≠ i := fun e he hb heq => by
    have h2 := hall e he hb
    rw [heq, getD_both (mem_ready.1 hr).1] at h2
    cases h2
   obtain ⟨h1, h2, h3⟩ := Oper.apart_spec (hfree j oj hoj hji hjun hnot)
   have hfree' : ∀ k ok, ops[k]? = some ok → k ≠ i → (listed.setIfInBounds j true).getD k true = false →
     (∀ e ∈ ok.after, Region.binds md e = true → e.on ≠ i) → oi.apart ops ok = true := fun k ok hk hki hun hno => by
    refine hfree k ok hk hki ?_ hno
    by_cases hjk : j = k
    ·subst hjk; exact hjun
    ·rw [getD_set_ne true hjk] at hun; exact hun
   have back1 := fun u => (execOp_put oj (fun cs b => hsel j oj cs b hoj) a oi.dst u h1)
   have back2 := fun u => (wanted_put oj a oi.dst u h1)
   have forth1 := fun u => (execOp_put oi (fun cs b => hsel i oi cs b hi) a oj.dst u h3)
   have forth2 := fun u => (wanted_put oi a oj.dst u h3)
   have go : ∀ E' u, SubS S E' → (E.Sublist E' ∨ tb i = .pure) → XK c X S ops md tb m T f ((listed.setIfInBounds i true).setIfInBounds j true) E' ((a.put oi.dst v).put oj.dst u) →
     XK c X S ops md tb m T (f + 1) (listed.setIfInBounds j true) E' (a.put oj.dst u) := fun E' u hSE' hsub hK => by
    refine ih (listed.setIfInBounds j true) E' (a.put oj.dst u) (inv.set hj hjm) hfree' hSE' (ready_mono hr (Ne.symm hji)) ⟨?_, fun hp => (hy.2 hp).same (forth1 u) (forth2 u)⟩ ?_
    ·rcases hsub with hsub | hp
     ·exact (hy.1.weak hsub).same (forth1 u) (forth2 u)
     ·exact ((hy.2 hp).same (forth1 u) (forth2 u)).quiet hSE'
    ·rw [Array.setIfInBounds_comm _ _ hji, ← Act.put_comm a v u h2]
     exact hK
   refine ⟨oj, hoj, ?_⟩
   cases ha : tb j with
   | quiet => rw [ha] at hm; obtain ⟨u, g1, g2⟩ := hm; exact ⟨u, g1.same (back1 v).symm (back2 v).symm, go E u hSE (.inl (List.Sublist.refl _)) g2⟩
   | pure => rw [ha] at hm; obtain ⟨u, g1, g2⟩ := hm; exact ⟨u, g1.same (back1 v).symm (back2 v).symm, go E u hSE (.inl (List.Sublist.refl _)) g2⟩
   | grow e =>
    rw [ha] at hm
    rcases hm with ⟨g1, g2⟩ | ⟨g1, g2⟩
    ·exact .inl ⟨g1.same (back1 v).symm (back2 v).symm, fun x => go _ _ hSE.grow (.inl (List.sublist_append_right _ _)) (g2 x)⟩
    ·exact .inr ⟨(back2 v).symm.trans g1, go E undef hSE (.inl (List.Sublist.refl _)) g2⟩
   | turn =>
    rw [ha] at hm
    rcases hm with ⟨α, V, G, ⟨g0, g1⟩, g2⟩ | ⟨g1, g2⟩
    ·refine .inl ⟨α, V, G, ⟨(back2 v).symm.trans g0, fun w hs => (g1 w hs).same (back1 v).symm⟩, fun x => ⟨(g2 x).1, go _ _ (g2 x).1 ?_ (g2 x).2⟩⟩
     rcases hai with hq | hp
     ·exact (hbd hq j hjm ha listed hr hj).elim
     ·exact .inr hp
    ·exact .inr ⟨(back2 v).symm.trans g1, go E undef hSE (.inl (List.Sublist.refl _)) g2⟩
   | dep ts e =>
    obtain ⟨o', ho', hm'⟩ := (qe (e := e (Xm a ts)) ((vX hdep hjm hoj h1).trans (by rw [ha]; rfl))).1 (H.2 j (ready_mono hj hji)).2
    rw [hoj] at ho'
    cases ho'
    rcases hm' with ⟨g1, g2⟩ | ⟨g1, g2⟩
    ·exact .inl ⟨g1.same (back1 v).symm (back2 v).symm, fun x => go _ _ hSE.grow (.inl (List.sublist_append_right _ _)) (g2 x)⟩
    ·exact .inr ⟨(back2 v).symm.trans g1, go E undef hSE (.inl (List.Sublist.refl _)) g2⟩
theorem Jcp {tb : ZT} {m i : Nat} {oi : Oper} {T : Jm → Array Bool → Act → Prop} (hi : ops[i]? = some oi) (hai : (tb i).isGrow = true) (hdep : Jk2 ops tb m) (hsel : ∀ (j : Nat) (o : Oper) cs b, ops[j]? = some o → o.op ≠ .select cs b)
  (hlt : ∀ listed, HeadInv md ops m listed → listed.getD i true = false → ∀ j ∈ Region.ready md ops listed, j < m)
  (hT : ∀ E listed a, T E listed a → ∀ j ∈ Region.ready md ops listed, m ≤ j) :
  ∀ (f : Nat) (listed : Array Bool) (E : Jm) (a : Act), HeadInv md ops m listed →
   (∀ j oj, ops[j]? = some oj → j ≠ i → listed.getD j true = false → (∀ e ∈ oj.after, Region.binds md e = true → e.on ≠ i) → oi.apart ops oj = true) →
   SubS S E → i ∈ Region.ready md ops listed → Region.wanted oi (yielded ops a.tmps) = false →
   XK c X S ops md tb m T f (listed.setIfInBounds i true) E (a.put oi.dst undef) → XK c X S ops md tb m T (f + 1) listed E a := by
 have self : ∀ {K : Jm → Act → Prop} {E : Jm} {a : Act}, Region.wanted oi (yielded ops a.tmps) = false → K E (a.put oi.dst undef) → stB c X S ops tb i K E a := by
  intro K E a hy H
  obtain ⟨e, he⟩ := zh a hai
  exact (qe he).2 ⟨oi, hi, .inr ⟨hy, H⟩⟩
 intro f
 induction f with
 | zero =>
  intro listed E a inv _ hSE hr hy H
  refine ⟨fun h => (by rw [h] at hr; cases hr), fun j hj => ⟨hlt _ inv (mem_ready.1 hr).1 j hj, ?_⟩⟩
  by_cases hji : j = i
  ·subst hji; exact self hy H
  ·have h1 := hT _ _ _ H j (ready_mono hj hji)
   have h2 := hlt _ inv (mem_ready.1 hr).1 j hj
   omega
 | succ f ih =>
  intro listed E a inv hfree hSE hr hy H
  refine ⟨fun h => (by rw [h] at hr; cases hr), fun j hj => ?_⟩
  have hjm := hlt _ inv (mem_ready.1 hr).1 j hj
  refine ⟨hjm, ?_⟩
  by_cases hji : j = i
  ·subst hji; exact self hy H
  ·obtain ⟨oj, hoj, hm⟩ := (H.2 j (ready_mono hj hji)).2
   obtain ⟨hjun, oj', hoj', hall⟩ := mem_ready.1 hj
   rw [hoj] at hoj'
   cases hoj'
   have hnot : ∀ e ∈ oj.after, Region.binds md e = true → e.on ≠ i := fun e he hb heq => by
    have h2 := hall e he hb
    rw [heq, getD_both (mem_ready.1 hr).1] at h2
    cases h2
   obtain ⟨h1, h2, h3⟩ := Oper.apart_spec (hfree j oj hoj hji hjun hnot)
   have hfree' : ∀ k ok, ops[k]? = some ok → k ≠ i → (listed.setIfInBounds j true).getD k true = false →
     (∀ e ∈ ok.after, Region.binds md e = true → e.on ≠ i) → oi.apart ops ok = true := fun k ok hk hki hun hno => by
    refine hfree k ok hk hki ?_ hno
    by_cases hjk : j = k
    ·subst hjk; exact hjun
    ·rw [getD_set_ne true hjk] at hun; exact hun
   have back1 := fun u => (execOp_put oj (fun cs b => hsel j oj cs b hoj) a oi.dst u h1)
   have back2 := fun u => (wanted_put oj a oi.dst u h1)
   have forth1 := fun u => (execOp_put oi (fun cs b => hsel i oi cs b hi) a oj.dst u h3)
   have forth2 := fun u => (wanted_put oi a oj.dst u h3)
   have go : ∀ E' u, SubS S E' → XK c X S ops md tb m T f ((listed.setIfInBounds i true).setIfInBounds j true) E' ((a.put oi.dst undef).put oj.dst u) →
     XK c X S ops md tb m T (f + 1) (listed.setIfInBounds j true) E' (a.put oj.dst u) := fun E' u hSE' hK => by
    refine ih (listed.setIfInBounds j true) E' (a.put oj.dst u) (inv.set hj hjm) hfree' hSE' (ready_mono hr (Ne.symm hji)) ((forth2 u).trans hy) ?_
    rw [Array.setIfInBounds_comm _ _ hji, ← Act.put_comm a undef u h2]
    exact hK
   refine ⟨oj, hoj, ?_⟩
   cases ha : tb j with
   | quiet => rw [ha] at hm; obtain ⟨u, g1, g2⟩ := hm; exact ⟨u, g1.same (back1 undef).symm (back2 undef).symm, go E u hSE g2⟩
   | pure => rw [ha] at hm; obtain ⟨u, g1, g2⟩ := hm; exact ⟨u, g1.same (back1 undef).symm (back2 undef).symm, go E u hSE g2⟩
   | grow e =>
    rw [ha] at hm
    rcases hm with ⟨g1, g2⟩ | ⟨g1, g2⟩
    ·exact .inl ⟨g1.same (back1 undef).symm (back2 undef).symm, fun x => go _ _ hSE.grow (g2 x)⟩
    ·exact .inr ⟨(back2 undef).symm.trans g1, go E undef hSE g2⟩
   | turn =>
    rw [ha] at hm
    rcases hm with ⟨α, V, G, ⟨g0, g1⟩, g2⟩ | ⟨g1, g2⟩
    ·exact .inl ⟨α, V, G, ⟨(back2 undef).symm.trans g0, fun w hs => (g1 w hs).same (back1 undef).symm⟩, fun x => ⟨(g2 x).1, go _ _ (g2 x).1 (g2 x).2⟩⟩
    ·exact .inr ⟨(back2 undef).symm.trans g1, go E undef hSE g2⟩
   | dep ts e =>
    obtain ⟨o', ho', hm'⟩ := (qe (e := e (Xm a ts)) ((vX hdep hjm hoj h1).trans (by rw [ha]; rfl))).1 (H.2 j (ready_mono hj hji)).2
    rw [hoj] at ho'
    cases ho'
    rcases hm' with ⟨g1, g2⟩ | ⟨g1, g2⟩
    ·exact .inl ⟨g1.same (back1 undef).symm (back2 undef).symm, fun x => go _ _ hSE.grow (g2 x)⟩
    ·exact .inr ⟨(back2 undef).symm.trans g1, go E undef hSE g2⟩
theorem zi {tb : ZT} {m i : Nat} {oi : Oper} {ei : GE} {T : Jm → Array Bool → Act → Prop} (hi : ops[i]? = some oi) (him : i < m) (hdep : Jk2 ops tb m) (hsel : ∀ (j : Nat) (o : Oper) cs b, ops[j]? = some o → o.op ≠ .select cs b)
  (hTp : ∀ E E' listed a, E.Perm E' → T E listed a → T E' listed a)
  (hlt : ∀ listed, HeadInv md ops m listed → listed.getD i true = false → ∀ j ∈ Region.ready md ops listed, j < m)
  (hT : ∀ E listed a, T E listed a → ∀ j ∈ Region.ready md ops listed, m ≤ j) :
  ∀ (f : Nat) (listed : Array Bool) (E : Jm) (a : Act), HeadInv md ops m listed →
   (∀ j oj, ops[j]? = some oj → j ≠ i → listed.getD j true = false → (∀ e ∈ oj.after, Region.binds md e = true → e.on ≠ i) → oi.apart ops oj = true) →
   SubS S E → (tb i).ge a = some ei → i ∈ Region.ready md ops listed → okG md ops tb i f listed = true → YG c X S ops oi ei a →
   (∀ x, XK c X S ops md tb m T f (listed.setIfInBounds i true) (ei.LL x ++ E) (a.put oi.dst (ei.V x))) → XK c X S ops md tb m T (f + 1) listed E a := by
 have self : ∀ {K : Jm → Act → Prop} {E : Jm} {a : Act}, (tb i).ge a = some ei → YG c X S ops oi ei a → (∀ x, K (ei.LL x ++ E) (a.put oi.dst (ei.V x))) → stB c X S ops tb i K E a := by
  intro K E a hai hy H
  exact (qe hai).2 ⟨oi, hi, .inl ⟨hy, H⟩⟩
 intro f
 induction f with
 | zero =>
  intro listed E a inv _ hSE hai hr hok hy H
  refine ⟨fun h => (by rw [h] at hr; cases hr), fun j hj => ⟨hlt _ inv (mem_ready.1 hr).1 j hj, ?_⟩⟩
  by_cases hji : j = i
  ·subst hji; exact self hai hy H
  ·have h1 := hT _ _ _ (H ei.x0) j (ready_mono hj hji)
   have h2 := hlt _ inv (mem_ready.1 hr).1 j hj
   omega
 | succ f ih =>
  intro listed E a inv hfree hSE hai hr hok hy H
  refine ⟨fun h => (by rw [h] at hr; cases hr), fun j hj => ?_⟩
  have hjm := hlt _ inv (mem_ready.1 hr).1 j hj
  refine ⟨hjm, ?_⟩
  by_cases hji : j = i
  ·subst hji; exact self hai hy H
  ·unfold okG at hok
   have hokj := List.all_eq_true.1 hok j hj
   simp only [Bool.or_eq_true, beq_iff_eq, hji, false_or, Bool.and_eq_true] at hokj
   obtain ⟨hgj, hok'⟩ := hokj
   obtain ⟨ej, ha⟩ := zh a hgj
   obtain ⟨hjun, oj, hoj, hall⟩ := mem_ready.1 hj
   have hnot : ∀ e ∈ oj.after, Region.binds md e = true → e.on ≠ i := fun e he hb heq => by
    have h2 := hall e he hb
    rw [heq, getD_both (mem_ready.1 hr).1] at h2
    cases h2
   obtain ⟨h1, h2, h3⟩ := Oper.apart_spec (hfree j oj hoj hji hjun hnot)
   have hfree' : ∀ k ok, ops[k]? = some ok → k ≠ i → (listed.setIfInBounds j true).getD k true = false →
     (∀ e ∈ ok.after, Region.binds md e = true → e.on ≠ i) → oi.apart ops ok = true := fun k ok hk hki hun hno => by
    refine hfree k ok hk hki ?_ hno
    by_cases hjk : j = k
    ·subst hjk; exact hjun
    ·rw [getD_set_ne true hjk] at hun; exact hun
   have back1 := fun u => (execOp_put oj (fun cs b => hsel j oj cs b hoj) a oi.dst u h1)
   have back2 := fun u => (wanted_put oj a oi.dst u h1)
   have forth1 := fun u => (execOp_put oi (fun cs b => hsel i oi cs b hi) a oj.dst u h3)
   have forth2 := fun u => (wanted_put oi a oj.dst u h3)
   have hstep : ∀ x, (YG c X S ops oj ej (a.put oi.dst (ei.V x)) ∧ ∀ y, XK c X S ops md tb m T f ((listed.setIfInBounds i true).setIfInBounds j true) (ej.LL y ++ (ei.LL x ++ E)) ((a.put oi.dst (ei.V x)).put oj.dst (ej.V y))) ∨
     (Region.wanted oj (yielded ops (a.put oi.dst (ei.V x)).tmps) = false ∧ XK c X S ops md tb m T f ((listed.setIfInBounds i true).setIfInBounds j true) (ei.LL x ++ E) ((a.put oi.dst (ei.V x)).put oj.dst undef)) := fun x => by
    obtain ⟨o', ho', hm⟩ := (qe ((vX hdep hjm hoj h1).trans ha)).1 ((H x).2 j (ready_mono hj hji)).2
    rw [hoj] at ho'
    cases ho'
    exact hm
   refine (qe ha).2 ⟨oj, hoj, ?_⟩
   cases hw : Region.wanted oj (yielded ops a.tmps) with
   | true =>
    have hpos : ∀ x, YG c X S ops oj ej (a.put oi.dst (ei.V x)) ∧ ∀ y, XK c X S ops md tb m T f ((listed.setIfInBounds i true).setIfInBounds j true) (ej.LL y ++ (ei.LL x ++ E)) ((a.put oi.dst (ei.V x)).put oj.dst (ej.V y)) := fun x => by
     rcases hstep x with h | h
     ·exact h
     ·have := (back2 (ei.V x)).symm.trans h.1; rw [hw] at this; cases this
    refine .inl ⟨(hpos ei.x0).1.same (back1 _).symm (back2 _).symm, fun y => ?_⟩
    refine ih (listed.setIfInBounds j true) (ej.LL y ++ E) (a.put oj.dst (ej.V y)) (inv.set hj hjm) hfree' hSE.grow ((vX hdep him hi h3).trans hai) (ready_mono hr (Ne.symm hji)) hok' (hy.same (forth1 _) (forth2 _)) fun x => ?_
    rw [Array.setIfInBounds_comm _ _ hji, ← Act.put_comm a _ _ h2]
    refine VE hTp f _ _ _ _ ?_ ((hpos x).2 y)
    rw [← List.append_assoc, ← List.append_assoc]
    exact List.Perm.append_right _ List.perm_append_comm
   | false =>
    have hneg : ∀ x, XK c X S ops md tb m T f ((listed.setIfInBounds i true).setIfInBounds j true) (ei.LL x ++ E) ((a.put oi.dst (ei.V x)).put oj.dst undef) := fun x => by
     rcases hstep x with h | h
     ·have := (back2 (ei.V x)).symm.trans h.1.1; rw [hw] at this; cases this
     ·exact h.2
    refine .inr ⟨rfl, ?_⟩
    refine ih (listed.setIfInBounds j true) E (a.put oj.dst undef) (inv.set hj hjm) hfree' hSE ((vX hdep him hi h3).trans hai) (ready_mono hr (Ne.symm hji)) hok' (hy.same (forth1 _) (forth2 _)) fun x => ?_
    rw [Array.setIfInBounds_comm _ _ hji, ← Act.put_comm a _ _ h2]
    exact hneg x
def Jfn (c : Cx) (X : XP) (S : Jm) (ops : Array Oper) (tb : ZT) (T : Jm → Act → Prop) : List Nat → Jm → Act → Prop
 | [], E, a => T E a
 | k :: rest, E, a => stB c X S ops tb k (fun E' a' => Jfn c X S ops tb T rest E' a') E a
def Jn3 (md : Region.Mode) (ops : Array Oper) (tb : ZT) (m g : Nat) : List Nat → Array Bool → Bool
  | [], listed => Region.seqB md ops g m listed
  | k :: r, listed => Nat.blt k m && (match (tb k).isTurn with
      | true => decide (Region.ready md ops listed = [k])
      | false => (Region.ready md ops listed).contains k && Region.free md ops listed k && (!(tb k).isGrow || okG md ops tb k r.length listed)) && Jn3 md ops tb m g r (listed.setIfInBounds k true)
theorem Jcq {tb : ZT} {m g : Nat} {T : Jm → Act → Prop} (hsel : Region.noSelect ops = true) (hTp : ∀ E E' a, E.Perm E' → T E a → T E' a) (hbd : ∀ i, i < m → Jfl md ops tb m i) (hdep : Jk2 ops tb m) (hlt : ∀ i, i < m → ∀ listed, HeadInv md ops m listed → listed.getD i true = false → ∀ j ∈ Region.ready md ops listed, j < m)
  (hseq : ∀ listed, Region.seqB md ops g m listed = true → ∀ j ∈ Region.ready md ops listed, m ≤ j) :
  ∀ (l : List Nat) (listed : Array Bool) (E : Jm) (a : Act), HeadInv md ops m listed → SubS S E →
  Jn3 md ops tb m g l listed = true → Jfn c X S ops tb T l E a →
  XK c X S ops md tb m (fun E' listed' a' => Region.seqB md ops g m listed' = true ∧ T E' a') l.length listed E a
 | [], listed, E, a, _, _, hB, h => ⟨by simpa [Jn3] using hB, h⟩
 | k :: l, listed, E, a, inv, hSE, hB, h => by
  simp only [Jn3, Bool.and_eq_true] at hB
  obtain ⟨⟨hkm, hr⟩, hB'⟩ := hB
  have hkm : k < m := by
   have : k + 1 ≤ m := Nat.le_of_ble_eq_true hkm
   omega
  have hr' : k ∈ Region.ready md ops listed := by
   cases ht : (tb k).isTurn with
   | true => rw [ht] at hr; simp only [decide_eq_true_eq] at hr; rw [hr]; exact List.mem_cons_self
   | false => rw [ht] at hr; simp only [Bool.and_eq_true] at hr; simpa using hr.1.1
  have next : ∀ E' a', SubS S E' → Jfn c X S ops tb T l E' a' → XK c X S ops md tb m (fun E' listed' a' => Region.seqB md ops g m listed' = true ∧ T E' a') l.length (listed.setIfInBounds k true) E' a' := fun E' a' hSE' hw =>
   Jcq hsel hTp hbd hdep hlt hseq l _ E' a' (inv.set hr' hkm) hSE' hB' hw
  obtain ⟨o, h0, hm⟩ := h
  have quiet : (tb k).isTurn = false → ∀ v, (tb k = .quiet ∨ tb k = .pure) → (YQ c E X ops o v a ∧ (tb k = .pure → YP c X S ops o v a)) → Jfn c X S ops tb T l E (a.put o.dst v) →
    XK c X S ops md tb m (fun E' listed' a' => Region.seqB md ops g m listed' = true ∧ T E' a') (l.length + 1) listed E a := fun hnt v hai hy hw => by
   rw [hnt] at hr
   simp only [Bool.and_eq_true] at hr
   exact Jfm h0 hai (Region.noSelect_spec hsel) (hbd k hkm) hdep (hlt k hkm) (fun E' listed' a' hL => hseq _ hL.1) l.length listed E a inv (Region.free_spec h0 hr.1.2) hSE hr' hy (next _ _ hSE hw)
  cases ha : tb k with
  | quiet => rw [ha] at hm; obtain ⟨v, hy, hw⟩ := hm; exact quiet (by rw [ha]; rfl) v (.inl ha) ⟨hy, fun e => by rw [ha] at e; cases e⟩ hw
  | pure => rw [ha] at hm; obtain ⟨v, hy, hw⟩ := hm; exact quiet (by rw [ha]; rfl) v (.inr ha) ⟨hy.quiet hSE, fun _ => hy⟩ hw
  | grow e =>
   rw [ha] at hm hr
   simp only [Kb.isTurn, Kb.isGrow, Bool.not_true, Bool.false_or, Bool.and_eq_true] at hr
   rcases hm with ⟨h1, h2⟩ | ⟨h1, h2⟩
   ·exact zi h0 hkm hdep (Region.noSelect_spec hsel) (fun E E' listed a hp hT => ⟨hT.1, hTp _ _ _ hp hT.2⟩) (hlt k hkm) (fun E' listed' a' hL => hseq _ hL.1) l.length listed E a inv (Region.free_spec h0 hr.1.2) hSE (by rw [ha]; rfl) hr' hr.2 h1 fun x => next _ _ hSE.grow (h2 x)
   ·exact Jcp h0 (by rw [ha]; rfl) hdep (Region.noSelect_spec hsel) (hlt k hkm) (fun E' listed' a' hL => hseq _ hL.1) l.length listed E a inv (Region.free_spec h0 hr.1.2) hSE hr' h1 (next _ _ hSE h2)
  | dep ts e =>
   rw [ha] at hm hr
   simp only [Kb.isTurn, Kb.isGrow, Bool.not_true, Bool.false_or, Bool.and_eq_true] at hr
   rcases hm with ⟨h1, h2⟩ | ⟨h1, h2⟩
   ·exact zi h0 hkm hdep (Region.noSelect_spec hsel) (fun E E' listed a hp hT => ⟨hT.1, hTp _ _ _ hp hT.2⟩) (hlt k hkm) (fun E' listed' a' hL => hseq _ hL.1) l.length listed E a inv (Region.free_spec h0 hr.1.2) hSE (by rw [ha]; rfl) hr' hr.2 h1 fun x => next _ _ hSE.grow (h2 x)
   ·exact Jcp h0 (by rw [ha]; rfl) hdep (Region.noSelect_spec hsel) (hlt k hkm) (fun E' listed' a' hL => hseq _ hL.1) l.length listed E a inv (Region.free_spec h0 hr.1.2) hSE hr' h1 (next _ _ hSE h2)
  | turn =>
   rw [ha] at hm hr
   simp only [Kb.isTurn, decide_eq_true_eq] at hr
   refine ⟨fun e => (by rw [e] at hr'; cases hr'), fun i hi => ?_⟩
   rw [hr] at hi
   have hik : i = k := by simpa using hi
   subst hik
   refine ⟨hkm, o, h0, ?_⟩
   rw [ha]
   rcases hm with ⟨α, V, G, h1, h2⟩ | ⟨h1, h2⟩
   ·exact .inl ⟨α, V, G, h1, fun x => ⟨(h2 x).1, next _ _ (h2 x).1 (h2 x).2⟩⟩
   ·exact .inr ⟨h1, next _ _ hSE h2⟩
def Jfo : List (Nat × Kb) → ZT
 | [], _ => .quiet
 | (j, p) :: r, k => match Nat.beq k j with | true => p | false => Jfo r k
def Jhu (md : Region.Mode) (ops : Array Oper) (tb : ZT) (m : Nat) : Bool :=
 (List.range m).all fun j => if (tb j).isTurn then (List.range m).all fun i => !(tb i).isQuiet || onB md ops j i || onB md ops i j else true
theorem xK {tb : ZT} {m : Nat} (h : Jhu md ops tb m = true) {i : Nat} (hi : i < m) : Jfl md ops tb m i := fun hq j hj he listed hir hjr => by
 have h1 := List.all_eq_true.1 h j (List.mem_range.2 hj)
 rw [he] at h1
 simp only [Kb.isTurn, if_true] at h1
 have h2 := List.all_eq_true.1 h1 i (List.mem_range.2 hi)
 rw [hq] at h2
 simp only [Kb.isQuiet, Bool.not_true, Bool.false_or, Bool.or_eq_true] at h2
 rcases h2 with h2 | h2
 ·exact xA h2 hjr hir
 ·exact xA h2 hir hjr
end
section
variable {c : Cx} {l : Kv} {L E : Jm} {X : XP} {Q : Exit → Act → World → Prop} {d : List Deferred}
variable {ops : Array Oper} {rest : List Nat} {i k : Nat} {v : Value} {o : Oper} {tb : ZT} {S : Jm} {T : Jm → Act → Prop}
def HB (c : Cx) (d : List Deferred) (l : Kv) (E : Jm) (X : XP) (S : Jm) (ops : Array Oper) (tb : ZT) (rest : List Nat) (T : Jm → Act → Prop) : Prop :=
 ∀ a, Fr c.n d l a → Jfn c X S ops tb T rest E a
def J0p (ops : Array Oper) (tb : ZT) (m : Nat) : Bool :=
 (List.range m).all fun j => match tb j with
  | .dep ts _ => match ops[j]? with
   | some o => ts.all fun t => (o.looksAt ops).contains t
   | none => true
  | _ => true
theorem Jk4 {m : Nat} (h : J0p ops tb m = true) : Jk2 ops tb m := fun j hj o ho ts e ht t hm => by
 have h1 := List.all_eq_true.1 h j (List.mem_range.2 hj)
 rw [ht] at h1
 simp only [ho] at h1
 simpa using List.all_eq_true.1 h1 t hm
def Jn4 (ops : List Oper) (tb : ZT) (m : Nat) (order : List Nat) : Bool :=
 (ops.all fun o => Ku o.op) && Region.noSelect ops.toArray && Nat.ble m ops.length && Nat.beq order.length m &&
 (Nat.beq m ops.length || (Region.sinkB .any ops.toArray m && Region.chainB .any ops.toArray m)) && Jhu .any ops.toArray tb m && J0p ops.toArray tb m &&
 Jn3 .any ops.toArray tb m (ops.length - m) order (Array.replicate ops.length false)
theorem JL {id : Nat} {ops : List Oper} (S : Jm) (tab : List (Nat × Kb)) (m : Nat) (order : List Nat) (hm : c.P.follows .mixedOrders = true) (hB : Jn4 ops (Jfo tab) m order = true) (hSL : SubS S L)
  (h : HB c d l L X S ops.toArray (Jfo tab) order (fun E a' => ∀ w, St c E X w → wpListIn (FW c.ro) 0 c.P ops.toArray Q (ops.drop m) a' w)) : HC c d l L X (.region id ops.toArray true) Q := fun a w hf hs => by
 simp only [Jn4, Bool.and_eq_true, Bool.or_eq_true] at hB
 obtain ⟨⟨⟨⟨⟨⟨⟨h1, hsel⟩, hle⟩, hol⟩, hsc⟩, hcr⟩, hdp⟩, hlex⟩ := hB
 have hle' := Nat.le_of_ble_eq_true hle
 have hol' := Nat.eq_of_beq_eq_true hol
 have hnd : ∀ (j : Nat) (o : Oper), ops.toArray[j]? = some o → Ku o.op = true := fun j o ho => List.all_eq_true.1 h1 o (List.mem_of_getElem? (by simpa using ho))
 have hdl : (ops.drop m).length = ops.length - m := by simp
 have hlt : ∀ i, i < m → ∀ listed, HeadInv .any ops.toArray m listed → listed.getD i true = false → ∀ j ∈ Region.ready .any ops.toArray listed, j < m := by
  intro i hi listed inv hun j hj
  rcases Nat.lt_or_ge j m with hjm | hjm
  exact hjm
  have hjs : j < ops.length := by obtain ⟨_, oj, hoj, _⟩ := mem_ready.1 hj; simpa using (Array.getElem?_eq_some_iff.1 hoj).1
  rcases hsc with h0 | ⟨h2, h3⟩
  have := Nat.eq_of_beq_eq_true h0; omega
  exact absurd hj (tail_waits h2 h3 (by simpa using (show m < ops.length by omega)) inv _ i rfl hi hun j hjm)
 have inv0 : HeadInv .any ops.toArray m (Array.replicate ops.length false) :=
  ⟨by simp, fun j oj _ hl => (by rw [getD_replicate_false] at hl; cases hl), fun t _ ht => getD_in (by simpa using ht) (getD_replicate_false _ _)⟩
 have H := Jcq (c := c) (X := X) (md := .any) (g := ops.length - m) hsel (fun E E' a hp hT w hs => hT w (hs.perm hp.symm)) (fun i hi => xK hcr hi) (Jk4 hdp) hlt (fun listed hq => seqB_ready hq) order _ L a inv0 hSL hlex (h a hf)
 refine wpIn_region_any hm ?_
 have := Jht (Q' := Q) (g := ops.length - m) hnd (fun E' listed a' w' _ hw' hL => by
  have := WM (ro := c.ro) (P := c.P) (md := .any) (Q' := Q) (ops.drop m) m listed a' w' (fun j => by simp [List.getElem?_drop]) (by rw [hdl]; exact hL.1) (hL.2 w' hw')
  rwa [hdl] at this) _ _ _ _ _ hSL (show St c L X w.drew from hs.drew) H
 rw [hol', show m + (ops.length - m) = ops.toArray.size from by simp; omega] at this
 simpa using this
theorem Ko {tail : List Oper} (h : HL c d l E X ops tail Q) : HB c d l E X S ops tb [] (fun E' a' => ∀ w, St c E' X w → wpListIn (FW c.ro) 0 c.P ops Q tail a' w) :=
 fun a hf w hs => h a w hf hs
theorem KB (hk : WW ops.toList k = some o) (hg : Kg l ops o = some true) (hd : o.dst = some i) (hi : Nat.ble (i + 1) c.n = true) (hA : tb k = .quiet) (hr : J6 c d l E X o v) (h : HB c d ((i, v) :: l) E X S ops tb rest T) : HB c d l E X S ops tb (k :: rest) T := fun a hf => by
 refine ⟨o, Q8 hk, ?_⟩
 rw [hA]
 refine ⟨v, .inl ⟨JF hf hg, fun w hs => Yo (hr a w hf hs) ⟨rfl, Keep.refl _ _⟩⟩, ?_⟩
 rw [hd]; exact h _ (hf.put (Nat.le_of_ble_eq_true hi))
theorem Jn (hk : WW ops.toList k = some o) (hg : Kg l ops o = some true) (hd : o.dst = some i) (hi : Nat.ble (i + 1) c.n = true) (hA : tb k = .pure) (hr : ∀ E', SubS S E' → J6 c d l E' X o v) (h : HB c d ((i, v) :: l) E X S ops tb rest T) : HB c d l E X S ops tb (k :: rest) T := fun a hf => by
 refine ⟨o, Q8 hk, ?_⟩
 rw [hA]
 refine ⟨v, .inl ⟨JF hf hg, fun E' hE' w hs => Yo (hr E' hE' a w hf hs) ⟨rfl, Keep.refl _ _⟩⟩, ?_⟩
 rw [hd]; exact h _ (hf.put (Nat.le_of_ble_eq_true hi))
theorem vo (hk : WW ops.toList k = some o) (hg : Kg l ops o = some false) (hd : o.dst = some i) (hi : Nat.ble (i + 1) c.n = true) (h : HB c d ((i, undef) :: l) E X S ops tb rest T) : HB c d l E X S ops tb (k :: rest) T := fun a hf => by
 refine ⟨o, Q8 hk, ?_⟩
 have hw := JF hf hg
 have hn : Jfn c X S ops tb T rest E (a.put o.dst undef) := by rw [hd]; exact h _ (hf.put (Nat.le_of_ble_eq_true hi))
 cases tb k with
 | quiet => exact ⟨undef, .inr ⟨hw, rfl⟩, hn⟩
 | pure => exact ⟨undef, .inr ⟨hw, rfl⟩, hn⟩
 | grow e => exact .inr ⟨hw, hn⟩
 | turn => exact .inr ⟨hw, hn⟩
 | dep ts e => exact .inr ⟨hw, hn⟩
theorem Jtn {b : Bool} (t : Nat) (ht : QB l t = some (.bool b)) (h1 : b = true → HB c d ((t, .bool true) :: l) E X S ops tb rest T) (h0 : b = false → HB c d ((t, .bool false) :: l) E X S ops tb rest T) : HB c d l E X S ops tb rest T := fun a hf => by
 cases hb : b with
 | true => exact h1 hb a (vg hf ht hb.symm)
 | false => exact h0 hb a (vg hf ht hb.symm)
theorem Wu {v' : Value} (e : v = v') (h : HB c d ((i, v') :: l) E X S ops tb rest T) : HB c d ((i, v) :: l) E X S ops tb rest T := e ▸ h
theorem Qq {f : Operand} {args : Array Operand} {at_ : Array TypeId} {g : FuncId} {vs : List Value} {ty : TypeId} {ps : String} {af : Array Edge} {gd : Option (Nat × Bool)}
  (hk : WW ops.toList k = some ⟨some i, .call ⟨.value f, args, at_⟩, ty, ps, af, gd⟩) (hg : Kg l ops ⟨some i, .call ⟨.value f, args, at_⟩, ty, ps, af, gd⟩ = some true) (hi : Nat.ble (i + 1) c.n = true) (hA : tb k = .pure) (hca : Km l f args = some (g, vs)) (eg : Enters c.P g)
  (hp : Pure c.P g vs.toArray v) (h : HB c d ((i, v) :: l) E X S ops tb rest T) : HB c d l E X S ops tb (k :: rest) T := fun a hf => by
 refine ⟨_, Q8 hk, ?_⟩
 rw [hA]
 exact ⟨v, .inl ⟨JF hf hg, fun _ _ w _ => Wr hf hca eg ((hp.run w).mono fun _ _ ⟨he, hk⟩ => ⟨v, he, rfl, hk⟩)⟩, h _ (hf.put (Nat.le_of_ble_eq_true hi))⟩
theorem KH {f : Operand} {args : Array Operand} {at_ : Array TypeId} {g : FuncId} {vs : List Value} {Rl : Jm} {ty : TypeId} {ps : String} {af : Array Edge} {gd : Option (Nat × Bool)}
  (hk : WW ops.toList k = some ⟨some i, .call ⟨.value f, args, at_⟩, ty, ps, af, gd⟩) (hg : Kg l ops ⟨some i, .call ⟨.value f, args, at_⟩, ty, ps, af, gd⟩ = some true) (hi : Nat.ble (i + 1) c.n = true) (hA : tb k = .quiet) (hca : Km l f args = some (g, vs)) (eg : Enters c.P g)
  (hp : PureR c.P g vs.toArray v Rl) (hR : ∀ p ∈ Rl, known c E p.1 p.2) (h : HB c d ((i, v) :: l) E X S ops tb rest T) : HB c d l E X S ops tb (k :: rest) T := fun a hf => by
 refine ⟨_, Q8 hk, ?_⟩
 rw [hA]
 exact ⟨v, .inl ⟨JF hf hg, fun w hs => Wr hf hca eg ((hp.run w fun p hp => hs.known (hR p hp)).mono fun _ _ ⟨he, hk⟩ => ⟨v, he, rfl, hk⟩)⟩, h _ (hf.put (Nat.le_of_ble_eq_true hi))⟩
def V2 (V : Nat → Value) (ob : Obj) : GE := ⟨Nat, V, fun r => [(r, ob)], 0⟩
def Qf {α : Type} (x0 : α) (V : α → Value) (LL : α → Jm) : GE := ⟨α, V, LL, x0⟩
theorem xM {e : GE} (hk : WW ops.toList k = some o) (hg : Kg l ops o = some true) (hd : o.dst = some i) (hi : Nat.ble (i + 1) c.n = true) (hA : tb k = .grow e) (hr : ∀ E', SubS S E' → ∀ a w, Fr c.n d l a → St c E' X w → actAt c o a w fun u w' => ∃ x, u = e.V x ∧ Jn2 (e.LL x) w w')
  (h : ∀ x, HB c d ((i, e.V x) :: l) (e.LL x ++ E) X S ops tb rest T) : HB c d l E X S ops tb (k :: rest) T := fun a hf => by
 refine ⟨o, Q8 hk, ?_⟩
 rw [hA]
 refine .inl ⟨⟨JF hf hg, fun E' hE' w hs => hr E' hE' a w hf hs⟩, fun x => ?_⟩
 rw [hd]; exact h x _ (hf.put (Nat.le_of_ble_eq_true hi))
def Yq (l : Kv) : List Nat → Option (List Value)
 | [] => some []
 | t :: ts => match QB l t, Yq l ts with
  | some v, some r => some (v :: r)
  | _, _ => none
theorem jw {n : Nat} {a : Act} (hf : Fr n d l a) : ∀ {ts : List Nat} {vs : List Value}, Yq l ts = some vs → Xm a ts = vs
 | [], vs, h => by cases h; rfl
 | t :: ts, vs, h => by
  unfold Yq at h
  cases h1 : QB l t with
  | none => rw [h1] at h; cases h
  | some v =>
   cases h2 : Yq l ts with
   | none => rw [h1, h2] at h; cases h
   | some r =>
    rw [h1, h2] at h
    cases h
    show a.eval (.tmp t) :: Xm a ts = v :: r
    rw [jw hf h2, hf.eval (x := .tmp t) (v := v) h1]
theorem Jx4 {ts : List Nat} {e : List Value → GE} {vs : List Value} {e0 : GE} (hk : WW ops.toList k = some o) (hg : Kg l ops o = some true) (hd : o.dst = some i) (hi : Nat.ble (i + 1) c.n = true) (hA : tb k = .dep ts e) (hv : Yq l ts = some vs) (he : e vs = e0) (hr : ∀ E', SubS S E' → ∀ a w, Fr c.n d l a → St c E' X w → actAt c o a w fun u w' => ∃ x, u = e0.V x ∧ Jn2 (e0.LL x) w w')
  (h : ∀ x, HB c d ((i, e0.V x) :: l) (e0.LL x ++ E) X S ops tb rest T) : HB c d l E X S ops tb (k :: rest) T := fun a hf => by
 refine ⟨o, Q8 hk, ?_⟩
 rw [hA]
 subst he
 show (YG c X S ops o (e (Xm a ts)) a ∧ ∀ x, Jfn c X S ops tb T rest ((e (Xm a ts)).LL x ++ E) (a.put o.dst ((e (Xm a ts)).V x))) ∨ _
 rw [jw hf hv]
 refine .inl ⟨⟨JF hf hg, fun E' hE' w hs => hr E' hE' a w hf hs⟩, fun x => ?_⟩
 rw [hd]; exact h x _ (hf.put (Nat.le_of_ble_eq_true hi))
theorem Jn5 {V : Nat → Value} {ob : Obj} (hk : WW ops.toList k = some o) (hg : Kg l ops o = some true) (hd : o.dst = some i) (hi : Nat.ble (i + 1) c.n = true) (hA : tb k = .grow (V2 V ob)) (hr : ∀ a w, Fr c.n d l a → (execOp a.eval o).run c.P w = .ok (.value (V w.heap.size)) (w.alloc ob))
  (h : ∀ r, HB c d ((i, V r) :: l) ((r, ob) :: E) X S ops tb rest T) : HB c d l E X S ops tb (k :: rest) T :=
 xM (e := V2 V ob) hk hg hd hi hA (fun E' _ a w hf hs => Yo (hr a w hf) ⟨w.heap.size, rfl, Keep.alloc ob, fun p hp => by rw [List.mem_singleton.1 hp]; exact ⟨Nat.le_refl _, (MapKept.heap_alloc w _).1⟩, List.pairwise_singleton _ _⟩) h
theorem Jto {ts : List Nat} {e : List Value → GE} {vs : List Value} {V : Nat → Value} {ob : Obj} (hk : WW ops.toList k = some o) (hg : Kg l ops o = some true) (hd : o.dst = some i) (hi : Nat.ble (i + 1) c.n = true) (hA : tb k = .dep ts e) (hv : Yq l ts = some vs) (he : e vs = V2 V ob) (hr : ∀ a w, Fr c.n d l a → (execOp a.eval o).run c.P w = .ok (.value (V w.heap.size)) (w.alloc ob))
  (h : ∀ r, HB c d ((i, V r) :: l) ((r, ob) :: E) X S ops tb rest T) : HB c d l E X S ops tb (k :: rest) T :=
 Jx4 (e0 := V2 V ob) hk hg hd hi hA hv he (fun E' _ a w hf hs => Yo (hr a w hf) ⟨w.heap.size, rfl, Keep.alloc ob, fun p hp => by rw [List.mem_singleton.1 hp]; exact ⟨Nat.le_refl _, (MapKept.heap_alloc w _).1⟩, List.pairwise_singleton _ _⟩) h
theorem Vb {ts : List Nat} {ev : List Value → GE} {dv : List Value} {t ty : TypeId} {ps : String} {af : Array Edge} {gd : Option (Nat × Bool)} {n e sz : Nat} {pa : List (Nat × Operand)} {vs : Kv} {r zs : List Value} {z : Value} (hk : WW ops.toList k = some ⟨some i, .buildSlice t n pa.toArray, ty, ps, af, gd⟩) (hg : Kg l ops ⟨some i, .buildSlice t n pa.toArray, ty, ps, af, gd⟩ = some true) (hi : Nat.ble (i + 1) c.n = true)
  (hA : tb k = .dep ts ev) (hv : Yq l ts = some dv) (he : ev dv = V2 (slV n) (.cells r.toArray e (0, 0)))
  (hp : WL l pa = some vs) (ht : Kk c.P t = some e) (hz : Qu c.P e = some z) (hs : KN c.P e = some sz) (hzs : z.cells.size = sz) (hb : Nat.ble (n * sz) 16777216 = true) (h0 : Nat.ble 1 (n * sz) = true)
  (hmk : (madeCells z.cells (n * sz)).toList = zs) (hf : Y8 (fun i => some (i * sz, sz)) zs (Qz vs) = some r)
  (h : ∀ q, HB c d ((i, .slice (some ⟨q, 0, none⟩) n n) :: l) ((q, .cells r.toArray e (0, 0)) :: E) X S ops tb rest T) : HB c d l E X S ops tb (k :: rest) T :=
 Jto (V := slV n) hk hg rfl hi hA hv he (fun a w hfr => by
  have h1 := Vj hfr hp
  have h2 : (pa.toArray.map fun (p : Nat × Operand) => (p.1, a.eval p.2)) = vs.toArray := by
   apply Array.toList_inj.1; rw [Array.toList_map]; simpa using h1
  rw [Qw] at hf
  subst hmk
  have h3 := VJ ht hz hs hzs (Nat.le_of_ble_eq_true hb) (Nat.le_of_ble_eq_true h0) hf w
  rw [← h2] at h3
  simp only [execOp, Sem.run_bind]
  have h4 : (Instr.buildSlice t n (pa.toArray.map fun (i, x) => (i, a.eval x))).run c.P w = .ok (.slice (some ⟨w.heap.size, 0, none⟩) n n) (w.alloc (.cells r.toArray e)) := h3
  rw [h4]; rfl) h
def Jcr (n e : Nat) (vs : List Value) : GE := V2 (slV n) (.cells (vs.flatMap fun v => v.cells.toList).toArray e (0, 0))
theorem VL {z : Value} {cs : Array Value} {t ty : TypeId} {ps : String} {af : Array Edge} {gd : Option (Nat × Bool)} (hk : WW ops.toList k = some ⟨some i, .alloc t, ty, ps, af, gd⟩) (hg : Kg l ops ⟨some i, .alloc t, ty, ps, af, gd⟩ = some true) (hi : Nat.ble (i + 1) c.n = true) (hA : tb k = .grow (V2 qU (.cells cs t (0, 0)))) (hz : Qu c.P t = some z) (hc : z.cells = cs)
  (h : ∀ r, HB c d ((i, .pointer (some ⟨r, 0, none⟩)) :: l) ((r, .cells cs t (0, 0)) :: E) X S ops tb rest T) : HB c d l E X S ops tb (k :: rest) T :=
 Jn5 (V := qU) hk hg rfl hi hA (fun a w hf => by simp [execOp, Instr.alloc, Sem.run_bind, Xd hz, Result.andThen, newVar, newRow, hc, qU]) h
theorem WY {α : Type} {x0 : α} {V : α → Value} {LL : α → Jm} {f : Operand} {args : Array Operand} {at_ : Array TypeId} {g : FuncId} {vs : List Value} {ty : TypeId} {ps : String} {af : Array Edge} {gd : Option (Nat × Bool)}
  (hk : WW ops.toList k = some ⟨some i, .call ⟨.value f, args, at_⟩, ty, ps, af, gd⟩) (hg : Kg l ops ⟨some i, .call ⟨.value f, args, at_⟩, ty, ps, af, gd⟩ = some true) (hi : Nat.ble (i + 1) c.n = true) (hA : tb k = .grow (Qf x0 V LL)) (hca : Km l f args = some (g, vs)) (eg : Enters c.P g)
  (hp : PureE c.P g vs.toArray V LL) (h : ∀ x, HB c d ((i, V x) :: l) (LL x ++ E) X S ops tb rest T) : HB c d l E X S ops tb (k :: rest) T :=
 xM (e := Qf x0 V LL) hk hg rfl hi hA (fun E' _ a w hf hs => Wr hf hca eg ((hp.run w).mono fun _ _ ⟨x, he, hk, h1, h2⟩ => ⟨V x, he, x, rfl, hk, h1, h2⟩)) h
theorem jx {E' : Jm} (hk : WW ops.toList k = some o) (hg : Kg l ops o = some true) (hd : o.dst = none) (hA : tb k = .turn) (hr : ∀ a w, Fr c.n d l a → St c E X w → ∃ w', (execOp a.eval o).run c.P w = .ok .skip w' ∧ St c E' X w') (hS : SubS S E')
  (h : HB c d l E' X S ops tb rest T) : HB c d l E X S ops tb (k :: rest) T := fun a hf => by
 refine ⟨o, Q8 hk, ?_⟩
 rw [hA]
 refine .inl ⟨Unit, fun _ => undef, fun _ => E', ⟨JF hf hg, fun w hs => ?_⟩, fun _ => ⟨hS, ?_⟩⟩
 ·obtain ⟨w', h1, h2⟩ := hr a w hf hs
  exact Jnd h1 ⟨(), rfl, h2⟩
 ·rw [hd]; exact h _ hf
theorem QI {t ty : TypeId} {ps : String} {af : Array Edge} {gd : Option (Nat × Bool)} {x y : Operand} {q r n : Nat} {cs : Array Value} {ys : List Value} {e : TypeId} {E' : Jm} (hko : WW ops.toList k = some ⟨none, .store t x y, ty, ps, af, gd⟩) (hg : Kg l ops ⟨none, .store t x y, ty, ps, af, gd⟩ = some true) (hA : tb k = .turn)
  (hx : JZ l x = some (.pointer (some ⟨r, 0, none⟩))) (hk : E[q]? = some (r, .cells cs e (0, 0))) (hy : JZ l y = some (.agg ys.toArray)) (ht : KN c.P t = some n) (hn : ys.length = n) (hcz : cs.size = n) (ho : ys.all Q6 = true) (hL : E.set q (r, .cells ys.toArray e (0, 0)) = E') (hS : SubS S E')
  (h : HB c d l E' X S ops tb rest T) : HB c d l E X S ops tb (k :: rest) T :=
 jx hko hg rfl hA (fun a w hf hst => ⟨w.setRow r ys.toArray, by
  have hcs : (cs.toList.take 0 ++ ys.toArray.toList ++ cs.toList.drop (0 + n)).toArray = ys.toArray := by
   apply Array.toList_inj.1
   simp [← hcz]
  simp only [execOp]; rw [hf.eval hx, hf.eval hy]
  have h1 := run_storeCells_at (P := c.P) r 0 e ys.toArray.toList 0 cs w (hst.get hk) (by simp [hn]; omega) (fun u hu => by rw [WJ]; exact List.all_eq_true.1 ho u (by simpa using hu))
  simp only [Nat.add_zero, Array.length_toList, List.size_toArray, hn] at h1
  rw [hcs] at h1
  simp [Instr.storeAt, Instr.sureAddr, Sem.run_bind, Result.andThen, storeVar, QS ht, Value.cells, hn, h1], by
  subst hL
  exact hst.set hk (Keep.setRow r ys.toArray) (setRow_heap _ _ _ _ _ _ (hst.get hk))⟩) hS h
theorem XW {t ty : TypeId} {ps : String} {af : Array Edge} {gd : Option (Nat × Bool)} {x y : Operand} {q r off : Nat} {cs cs' : Array Value} {e : TypeId} {E' : Jm} (hko : WW ops.toList k = some ⟨none, .store t x y, ty, ps, af, gd⟩) (hg : Kg l ops ⟨none, .store t x y, ty, ps, af, gd⟩ = some true) (hA : tb k = .turn)
  (hx : JZ l x = some (.pointer (some ⟨r, off, none⟩))) (hk : E[q]? = some (r, .cells cs e (0, 0))) (hy : JZ l y = some v) (ht : KN c.P t = some 1) (ho : Q6 v = true) (hc : (cs[off]?).isSome = true)
  (hcs : cs.setIfInBounds off v = cs') (hL : E.set q (r, .cells cs' e (0, 0)) = E') (hS : SubS S E')
  (h : HB c d l E' X S ops tb rest T) : HB c d l E X S ops tb (k :: rest) T :=
 jx hko hg rfl hA (fun a w hf hs => ⟨w.setCell ⟨r, off, none⟩ v, by
  simp only [execOp]; rw [hf.eval hx, hf.eval hy]
  obtain ⟨old, hold⟩ := Option.isSome_iff_exists.1 hc
  have h1 := run_store c.P w ⟨r, off, none⟩ v .plain (by rw [WJ]; exact ho)
  rw [Vi (hs.get hk), hold, XR (hs.get hk) (J0e off)] at h1
  have hcell : v.cells = #[v] := by cases v <;> first | rfl | cases ho
  simp [Instr.storeAt, Instr.sureAddr, Sem.run_bind, Result.andThen, storeVar, QS ht, hcell, storeCells, Addr.add, h1], by
  subst hL; subst hcs
  exact hs.set hk (Keep.setCell r off v) (heap_setCell_same v (hs.get hk))⟩) hS h
theorem Jcs {z : Int} (h1 : -9223372036854775808 ≤ z) (h2 : z ≤ 9223372036854775807) (h : HB c d ((i, .int .i64 z) :: l) E X S ops tb rest T) : HB c d ((i, .int .i64 (IntKind.i64.wrap z)) :: l) E X S ops tb rest T := by rw [wrap_i64 h1 h2]; exact h
end
def leW (w : List Nat) (n : Nat) : List UInt8 := (Zf w 32).reverse.take n
theorem xN (w : List Nat) {n : Nat} (h : n ≤ 32) : (leW w n).length = n := by
 unfold leW; rw [List.length_take, List.length_reverse, V8]; omega
def yH (s : List UInt8) : List UInt8 := s ++ List.replicate (32 - s.length) 0
theorem vY {s : List UInt8} (h : s.length ≤ 32) : (yH s).length = 32 := by unfold yH; rw [List.length_append, List.length_replicate]; omega
def KU (l : List Bool) (N : Nat) : Nat → List UInt8
 | 0 => List.replicate N 0
 | i + 1 => if l.getD i false = true then (KU l N i).set (i / 8) (UInt8.ofNat (((KU l N i).getD (i / 8) 0).toNat ||| 2 ^ (i % 8))) else KU l N i
theorem Vn (l : List Bool) (N : Nat) : ∀ i, (KU l N i).length = N
 | 0 => by rw [KU, List.length_replicate]
 | i + 1 => by
  rw [KU]
  split
  ·rw [List.length_set, Vn l N i]
  ·exact Vn l N i
theorem J0q {x m : Nat} (hx : x < 256) (hm : m < 8) : x ||| 2 ^ m < 256 := Nat.or_lt_two_pow (n := 8) hx (Nat.pow_lt_pow_right (by decide) hm)
def WH (l : List Bool) : List UInt8 := KU l ((l.length + 7) / 8) l.length
theorem Zh (l : List Bool) : (WH l).length = (l.length + 7) / 8 := Vn _ _ _
def SOk (n : Nat) (a : List Nat) : Prop := a.length = n ∧ ∀ x ∈ a, x < 18446744073709551616
theorem SOk.get {n : Nat} {a : List Nat} (h : SOk n a) (j : Nat) : a.getD j 0 < 18446744073709551616 := by
 by_cases hj : j < a.length
 ·have : a.getD j 0 ∈ a := by simp [List.getD_eq_getElem?_getD, hj]
  exact h.2 _ this
 ·rw [List.getD_eq_getElem?_getD, List.getElem?_eq_none (by omega)]; decide
theorem SOk.set {n : Nat} {a : List Nat} (h : SOk n a) (j : Nat) {x : Nat} (hx : x < 18446744073709551616) : SOk n (a.set j x) :=
 ⟨by rw [List.length_set, h.1], fun y hy => (List.mem_or_eq_of_mem_set hy).elim (h.2 y) fun e => e ▸ hx⟩
def Jct (n k : Nat) : Nat := n * 2 ^ (k % 64) % 18446744073709551616 ||| n / 2 ^ (64 - k % 64)
theorem Jtp {a b : Nat} (ha : a < 18446744073709551616) (hb : b < 18446744073709551616) : a ||| b < 18446744073709551616 := Nat.or_lt_two_pow (n := 64) ha hb
theorem Wv {a b : Nat} (ha : a < 18446744073709551616) (hb : b < 18446744073709551616) : a ^^^ b < 18446744073709551616 := Nat.xor_lt_two_pow (n := 64) ha hb
theorem Jcu {a b : Nat} (hb : b < 18446744073709551616) : a &&& b < 18446744073709551616 := Nat.lt_of_le_of_lt Nat.and_le_right hb
theorem vp {n : Nat} (hn : n < 18446744073709551616) (k : Nat) : Jct n k < 18446744073709551616 :=
 Jtp (Nat.mod_lt _ (by decide)) (Nat.lt_of_le_of_lt (Nat.div_le_self _ _) hn)
def cS (a : List Nat) : Nat → List Nat
 | 0 => [0, 0, 0, 0, 0]
 | i + 1 => (cS a i).set (i % 5) ((cS a i).getD (i % 5) 0 ^^^ a.getD i 0)
theorem Jcv {a : List Nat} (h : SOk 25 a) : ∀ i, SOk 5 (cS a i)
 | 0 => ⟨rfl, by simp [cS]⟩
 | i + 1 => (Jcv h i).set _ (Wv ((Jcv h i).get _) (h.get _))
def mS (c a : List Nat) : Nat → List Nat
 | 0 => a
 | i + 1 => (mS c a i).set i ((mS c a i).getD i 0 ^^^ (c.getD ((i % 5 + 5 - 1) % 5) 0 ^^^ Jct (c.getD ((i % 5 + 1) % 5) 0) 1))
theorem Jhv {c a : List Nat} (hc : SOk 5 c) (h : SOk 25 a) : ∀ i, SOk 25 (mS c a i)
 | 0 => h
 | i + 1 => (Jhv hc h i).set _ (Wv ((Jhv hc h i).get _) (Wv (hc.get _) (vp (hc.get _) 1)))
def Jk5 (a : List Nat) : List Nat := mS (cS a 25) a 25
theorem xO {a : List Nat} (h : SOk 25 a) : SOk 25 (Jk5 a) := Jhv (Jcv h 25) h 25
def z25 : List Nat := [0, 0, 0, 0, 0, 0, 0, 0, 0, 0, 0, 0, 0, 0, 0, 0, 0, 0, 0, 0, 0, 0, 0, 0, 0]
theorem Jn6 : SOk 25 z25 := ⟨rfl, by simp [z25]⟩
def rS (a b : List Nat) : Nat → List Nat
 | 0 => z25
 | i + 1 => (rS a b i).set (i / 5 + 5 * ((2 * (i % 5) + 3 * (i / 5)) % 5)) (Jct (a.getD i 0) (b.getD i 0))
theorem Jcw {a : List Nat} (b : List Nat) (h : SOk 25 a) : ∀ i, SOk 25 (rS a b i)
 | 0 => Jn6
 | i + 1 => (Jcw b h i).set _ (vp (h.get _) _)
def Jx5 (b : List Nat) (i : Nat) : Nat := b.getD i 0 ^^^ ((18446744073709551615 ^^^ b.getD (i - i % 5 + (i % 5 + 1) % 5) 0) &&& b.getD (i - i % 5 + (i % 5 + 2) % 5) 0)
theorem Jtq {b : List Nat} (h : SOk 25 b) (i : Nat) : Jx5 b i < 18446744073709551616 := Wv (h.get _) (Jcu (h.get _))
def xS (b a : List Nat) : Nat → List Nat
 | 0 => a
 | i + 1 => (xS b a i).set i (Jx5 b i)
theorem Jhw {b a : List Nat} (hb : SOk 25 b) (h : SOk 25 a) : ∀ i, SOk 25 (xS b a i)
 | 0 => h
 | i + 1 => (Jhw hb h i).set _ (Jtq hb _)
def Jhx (a : List Nat) (n : Nat) : List Nat := a.set 0 (a.getD 0 0 ^^^ n)
def vZ (by_ a : List Nat) (n : Nat) : List Nat := Jhx (xS (rS (Jk5 a) by_ 25) (Jk5 a) 25) n
theorem Jn7 {a : List Nat} (h : SOk 25 a) {n : Nat} (hn : n < 18446744073709551616) : SOk 25 (Jhx a n) := h.set _ (Wv (h.get _) hn)
theorem Jk6 {a : List Nat} (by_ : List Nat) (h : SOk 25 a) {n : Nat} (hn : n < 18446744073709551616) : SOk 25 (vZ by_ a n) :=
 Jn7 (Jhw (Jcw by_ (xO h) 25) (xO h) 25) hn
def turnsL : List Nat := [0, 1, 62, 28, 27, 36, 44, 6, 55, 20, 3, 10, 43, 25, 39, 41, 45, 15, 21, 8, 18, 2, 61, 56, 14]
def numsL : List Nat := [0x0000000000000001, 0x0000000000008082, 0x800000000000808A, 0x8000000080008000, 0x000000000000808B, 0x0000000080000001,
 0x8000000080008081, 0x8000000000008009, 0x000000000000008A, 0x0000000000000088, 0x0000000080008009, 0x000000008000000A,
 0x000000008000808B, 0x800000000000008B, 0x8000000000008089, 0x8000000000008003, 0x8000000000008002, 0x8000000000000080,
 0x000000000000800A, 0x800000008000000A, 0x8000000080008081, 0x8000000000008080, 0x0000000080000001, 0x8000000080008008]
theorem numsL_ok : SOk 24 numsL := ⟨rfl, by decide +kernel⟩
def jy (a : List Nat) : Nat → List Nat
 | 0 => a
 | i + 1 => vZ turnsL (jy a i) (numsL.getD i 0)
theorem XX {a : List Nat} (h : SOk 25 a) : ∀ i, SOk 25 (jy a i)
 | 0 => h
 | i + 1 => Jk6 turnsL (XX h i) (numsL_ok.get i)
def zj (a : List Nat) : List Nat := jy a 24
theorem Jcx {a : List Nat} (h : SOk 25 a) : SOk 25 (zj a) := by unfold zj; exact XX h 24
def abS (a : List Nat) (s : List UInt8) : Nat → List Nat
 | 0 => a
 | i + 1 => (abS a s i).set (i / 8) ((abS a s i).getD (i / 8) 0 ^^^ (s.getD i 0).toNat * 2 ^ (i % 8 * 8))
theorem xP {a : List Nat} (s : List UInt8) (h : SOk 25 a) : ∀ i, SOk 25 (abS a s i)
 | 0 => h
 | i + 1 => (xP s h i).set _ (Wv ((xP s h i).get _) (Jcg (XS _) (by omega)))
def Jcy (t : List UInt8) : Nat → List Nat
 | 0 => z25
 | j + 1 => zj (abS (Jcy t j) (t.drop (136 * j)) 136)
theorem xQ (t : List UInt8) : ∀ j, SOk 25 (Jcy t j)
 | 0 => Jn6
 | j + 1 => by unfold Jcy; exact Jcx (xP _ (xQ t j) 136)
def qW (n : Nat) : List UInt8 := if 136 - n % 136 = 1 then [129] else 1 :: (List.replicate (134 - n % 136) 0 ++ [128])
theorem jz (n : Nat) : (qW n).length = 136 - n % 136 := by
 unfold qW; split
 ·simp; omega
 ·simp; omega
def j0 (a : List Nat) : Nat → List UInt8
 | 0 => []
 | i + 1 => j0 a i ++ [UInt8.ofNat (a.getD (i / 8) 0 / 2 ^ (i % 8 * 8) % 256)]
theorem Ww (a : List Nat) : ∀ i, (j0 a i).length = i
 | 0 => rfl
 | i + 1 => by simp [j0, Ww a i]
def W5 (s : List UInt8) : List UInt8 := j0 (Jcy (s ++ qW s.length) ((s ++ qW s.length).length / 136)) 32
theorem Zi (s : List UInt8) : (W5 s).length = 32 := Ww _ _
theorem Jfq (s : List UInt8) : (s ++ qW s.length).length % 136 = 0 := by rw [List.length_append, jz]; omega
abbrev BS : Type := List UInt8
theorem Vu : ∀ a : BS, Op.bytesLess a a = false
 | [] => rfl
 | x :: a => by simp [Op.bytesLess, Vu a]
theorem Qt : ∀ {a b c : BS}, Op.bytesLess a b = true → Op.bytesLess b c = true → Op.bytesLess a c = true
 | _, [], _, h, _ => by simp [Op.bytesLess] at h
 | _, _ :: _, [], _, h => by simp [Op.bytesLess] at h
 | [], y :: b, z :: c, _, _ => rfl
 | x :: a, y :: b, z :: c, h, h2 => by
  simp only [Op.bytesLess, Bool.or_eq_true, decide_eq_true_eq, Bool.and_eq_true, beq_iff_eq] at h h2 ⊢
  rcases h with h | ⟨rfl, h⟩
  ·rcases h2 with h2 | ⟨rfl, h2⟩
   ·exact .inl (UInt8.lt_trans h h2)
   ·exact .inl h
  ·rcases h2 with h2 | ⟨rfl, h2⟩
   ·exact .inl h2
   ·exact .inr ⟨rfl, Qt h h2⟩
theorem W7 : ∀ a b : BS, a = b ∨ Op.bytesLess a b = true ∨ Op.bytesLess b a = true
 | [], [] => .inl rfl
 | [], _ :: _ => .inr (.inl rfl)
 | _ :: _, [] => .inr (.inr rfl)
 | x :: a, y :: b => by
  simp only [Op.bytesLess, Bool.or_eq_true, decide_eq_true_eq, Bool.and_eq_true, beq_iff_eq]
  by_cases h1 : x < y
  ·exact .inr (.inl (.inl h1))
  by_cases h2 : y < x
  ·exact .inr (.inr (.inl h2))
  have e : x = y := UInt8.le_antisymm (UInt8.not_lt.1 h2) (UInt8.not_lt.1 h1)
  subst e
  rcases W7 a b with rfl | h | h
  ·exact .inl rfl
  ·exact .inr (.inl (.inr ⟨rfl, h⟩))
  ·exact .inr (.inr (.inr ⟨rfl, h⟩))
theorem WQ {a b : BS} (h : Op.bytesLess a b = true) : Op.bytesLess b a = false := by
 cases h2 : Op.bytesLess b a
 ·rfl
 ·have := Qt h h2; rw [Vu] at this; cases this
theorem Y5 {a b : BS} (h : Op.bytesLess a b = true) : a ≠ b := by rintro rfl; rw [Vu] at h; cases h
theorem Jn9 {a b : BS} (h : Op.bytesLess a b = false) (hn : a ≠ b) : Op.bytesLess b a = true := by
 rcases W7 a b with h1 | h1 | h1
 ·exact absurd h1 hn
 ·rw [h] at h1; cases h1
 ·exact h1
section
variable {α : Type} (kf : α → BS)
def QN : List α → Bool
 | [] => true
 | [_] => true
 | x :: y :: l => Op.bytesLess (kf x) (kf y) && QN (y :: l)
abbrev Kx (l : List α) : Prop := l.Pairwise fun x y => Op.bytesLess (kf x) (kf y) = true
theorem qf : ∀ l : List α, QN kf l = true ↔ Kx kf l
 | [] => by simp [QN]
 | [_] => by simp [QN]
 | x :: y :: l => by
  rw [QN, Bool.and_eq_true, qf (y :: l)]
  refine Iff.trans ?_ List.pairwise_cons.symm
  constructor
  ·rintro ⟨h1, h2⟩
   refine ⟨fun z hz => ?_, h2⟩
   rcases List.mem_cons.1 hz with rfl | hz
   ·exact h1
   ·exact Qt h1 ((List.pairwise_cons.1 h2).1 z hz)
  ·rintro ⟨h1, h2⟩
   exact ⟨h1 y List.mem_cons_self, h2⟩
def Q5 (k : BS) (l : List α) : Option α := l.find? fun x => kf x == k
def Qg (x : α) : List α → List α
 | [] => [x]
 | y :: ys => if Op.bytesLess (kf y) (kf x) then y :: Qg x ys else if kf y = kf x then x :: ys else x :: y :: ys
def qg (k : BS) (l : List α) : List α := l.filter fun y => !(kf y == k)
variable {kf}
theorem zk {k : BS} : Q5 kf k ([] : List α) = none := rfl
theorem Kc {k : BS} {y : α} {l : List α} : Q5 kf k (y :: l) = if kf y = k then some y else Q5 kf k l := by
 unfold Q5
 rw [List.find?_cons]
 by_cases h : kf y = k
 ·simp [h]
 ·rw [if_neg h, show (kf y == k) = false from by simpa using h]
theorem WZ {k : BS} {y : α} {l : List α} (h : Q5 kf k l = some y) : kf y = k ∧ y ∈ l := ⟨by have := List.find?_some h; simpa using this, List.mem_of_find?_eq_some h⟩
theorem ZL {k : BS} {l : List α} (h : ∀ y ∈ l, kf y ≠ k) : Q5 kf k l = none := by
 unfold Q5; rw [List.find?_eq_none]; intro x hx; simpa using h x hx
theorem Zj {y : α} : ∀ {l : List α}, Kx kf l → y ∈ l → Q5 kf (kf y) l = some y
 | z :: l, hs, hm => by
  rw [Kc]
  obtain ⟨h1, h2⟩ := List.pairwise_cons.1 hs
  rcases List.mem_cons.1 hm with rfl | hm
  ·rw [if_pos rfl]
  ·rw [if_neg (Y5 (h1 y hm)), Zj h2 hm]
theorem j3 {x y : α} : ∀ {l : List α}, y ∈ Qg kf x l → y = x ∨ y ∈ l
 | [], h => by simpa [Qg] using h
 | z :: l, h => by
  unfold Qg at h
  split at h
  ·rcases List.mem_cons.1 h with rfl | h
   ·exact .inr List.mem_cons_self
   ·exact (j3 h).elim .inl fun h => .inr (List.mem_cons_of_mem _ h)
  ·split at h
   ·rcases List.mem_cons.1 h with rfl | h
    ·exact .inl rfl
    ·exact .inr (List.mem_cons_of_mem _ h)
   ·exact List.mem_cons.1 h
theorem ZM {x : α} : ∀ {l : List α}, Kx kf l → Kx kf (Qg kf x l)
 | [], _ => by simp [Qg]
 | z :: l, h => by
  obtain ⟨h1, h2⟩ := List.pairwise_cons.1 h
  unfold Qg
  split
  ·rename_i hz
   refine List.pairwise_cons.2 ⟨fun y hy => ?_, ZM h2⟩
   rcases j3 hy with rfl | hy
   ·exact hz
   ·exact h1 y hy
  ·rename_i hz
   split
   ·rename_i he
    exact List.pairwise_cons.2 ⟨fun y hy => he ▸ h1 y hy, h2⟩
   ·rename_i he
    have hx := Jn9 (by simpa using hz) he
    refine List.pairwise_cons.2 ⟨fun y hy => ?_, h⟩
    rcases List.mem_cons.1 hy with rfl | hy
    ·exact hx
    ·exact Qt hx (h1 y hy)
theorem wa {x : α} {k : BS} : ∀ {l : List α}, Kx kf l → Q5 kf k (Qg kf x l) = if kf x = k then some x else Q5 kf k l
 | [], _ => by unfold Qg; rw [Kc]
 | z :: l, h => by
  obtain ⟨h1, h2⟩ := List.pairwise_cons.1 h
  unfold Qg
  split
  ·rename_i hz
   rw [Kc, Kc, wa h2]
   by_cases hk : kf z = k
   ·subst hk
    rw [if_pos rfl, if_neg (fun e => Y5 hz e.symm), if_pos rfl]
   ·rw [if_neg hk, if_neg hk]
  ·split
   ·rename_i he
    rw [Kc, Kc, he]
    split <;> rfl
   ·rw [Kc]
theorem Jhy {x : α} : ∀ {l : List α}, Kx kf l → (Qg kf x l).length = if (Q5 kf (kf x) l).isSome then l.length else l.length + 1
 | [], _ => rfl
 | z :: l, h => by
  obtain ⟨h1, h2⟩ := List.pairwise_cons.1 h
  unfold Qg
  rw [Kc]
  split
  ·rename_i hz
   rw [List.length_cons, Jhy h2, if_neg (Y5 hz)]
   split <;> rfl
  ·rename_i hz
   split
   ·rename_i he
    rfl
   ·rename_i he
    have hx := Jn9 (by simpa using hz) he
    rw [ZL (fun y hy e => ?_)]
    ·rfl
    ·have := Qt hx (h1 y hy)
     rw [e, Vu] at this; cases this
theorem Jfr {k : BS} {l : List α} (h : Kx kf l) : Kx kf (qg kf k l) := h.filter _
theorem Jcz {k j : BS} : ∀ {l : List α}, Q5 kf j (qg kf k l) = if k = j then none else Q5 kf j l
 | [] => by simp [qg, Q5]
 | z :: l => by
  have ih := Jcz (k := k) (j := j) (l := l)
  unfold qg at ih ⊢
  rw [List.filter_cons, Kc]
  by_cases hz : kf z = k
  ·subst hz
   rw [if_neg (by simp), ih]
   split
   ·rfl
   ·rfl
  ·rw [if_pos (by simpa using hz), Kc, ih]
   by_cases hj : kf z = j
   ·subst hj
    rw [if_pos rfl, if_pos rfl, if_neg (fun e => hz e.symm)]
   ·rw [if_neg hj, if_neg hj]
theorem Jtr {k : BS} {l : List α} {y : α} (h : y ∈ qg kf k l) : y ∈ l := (List.mem_filter.1 h).1
theorem Jhz {x : α} : ∀ {l : List α}, qg kf (kf x) (Qg kf x l) = qg kf (kf x) l
 | [] => by simp [qg, Qg]
 | z :: l => by
  have ih := Jhz (x := x) (l := l)
  unfold qg at ih ⊢
  unfold Qg
  split
  ·rw [List.filter_cons, ih, List.filter_cons]
  ·split
   ·rename_i he
    rw [List.filter_cons, List.filter_cons, he]
    simp
   ·rw [List.filter_cons]
    simp
theorem wb : ∀ {l m : List α}, Kx kf l → Kx kf m → (∀ k, Q5 kf k l = Q5 kf k m) → l = m
 | [], [], _, _, _ => rfl
 | [], y :: m, _, _, h => by have := h (kf y); rw [zk, Kc, if_pos rfl] at this; cases this
 | x :: l, [], _, _, h => by have := h (kf x); rw [zk, Kc, if_pos rfl] at this; cases this
 | x :: l, y :: m, hl, hm, h => by
  obtain ⟨l1, l2⟩ := List.pairwise_cons.1 hl
  obtain ⟨m1, m2⟩ := List.pairwise_cons.1 hm
  have e : kf x = kf y := by
   rcases W7 (kf x) (kf y) with e | e | e
   ·exact e
   ·have h1 := h (kf x)
    rw [Kc, if_pos rfl, Kc, if_neg (fun q => Y5 e q.symm)] at h1
    obtain ⟨h2, h3⟩ := WZ h1.symm
    have := Qt e (m1 _ h3)
    rw [Vu] at this; cases this
   ·have h1 := h (kf y)
    rw [Kc, if_neg (fun q => Y5 e q.symm), Kc, if_pos rfl] at h1
    obtain ⟨h2, h3⟩ := WZ h1
    have := Qt e (l1 _ h3)
    rw [h2, Vu] at this; cases this
  have e2 : x = y := by
   have h1 := h (kf x)
   rw [Kc, if_pos rfl, Kc, if_pos e.symm] at h1
   exact Option.some.inj h1
  subst e2
  congr 1
  refine wb l2 m2 fun k => ?_
  by_cases hk : kf x = k
  ·subst hk
   rw [ZL fun z hz q => Y5 (l1 z hz) q.symm, ZL fun z hz q => Y5 (m1 z hz) q.symm]
  ·have h1 := h k
   rwa [Kc, if_neg hk, Kc, if_neg hk] at h1
theorem Joa {x : α} : ∀ {p q : List α}, (∀ y ∈ p, Op.bytesLess (kf y) (kf x) = true) → (∀ y ∈ q, Op.bytesLess (kf y) (kf x) = false) →
  Qg kf x (p ++ q) = match q with
   | [] => p ++ [x]
   | y :: q' => if kf y = kf x then p ++ x :: q' else p ++ x :: y :: q'
 | [], [], _, _ => rfl
 | [], y :: q', _, h => by
  rw [List.nil_append, Qg, h y List.mem_cons_self]
  simp
 | z :: p, q, h1, h2 => by
  rw [List.cons_append, Qg, if_pos (h1 z List.mem_cons_self), Joa (p := p) (fun y hy => h1 y (List.mem_cons_of_mem _ hy)) h2]
  cases q with
  | nil => rfl
  | cons y q' => dsimp only; split <;> rfl
end
def Vc : BS := List.replicate 32 0
structure W4 : Type where
  a : Nat
  b : Nat
  c : Nat
  d : Nat
deriving DecidableEq
def W4.l (w : W4) : List Nat := [w.a, w.b, w.c, w.d]
def w40 : W4 := ⟨0, 0, 0, 0⟩
def W4.of (l : List Nat) : W4 := ⟨l.getD 0 0, l.getD 1 0, l.getD 2 0, l.getD 3 0⟩
theorem W4.of_l {l : List Nat} (h : l.length = 4) : (W4.of l).l = l := by
 match l, h with
 | [a, b, c, d], _ => rfl
theorem W4.l_inj {x y : W4} (h : x.l = y.l) : x = y := by
 cases x; cases y; simp [W4.l] at h; simp [h]
structure AcE : Type where
  addr : BS
  nonce : Nat
  bal : W4
  code : BS
  slots : List (BS × BS)
deriving DecidableEq
def ac0 : AcE := ⟨[], 0, w40, [], []⟩
def qX (x : BS × BS) : Bool := decide (x.1.length ≠ 32) || decide (x.2.length ≠ 32)
def XL (x : BS × BS) : Bool := decide (x.2 = Vc)
def Wj (a : AcE) : Int := if a.addr.length ≠ 20 ∨ a.slots.any qX = true then 2 else if QN Prod.fst a.slots = false then 11 else if a.code.length > 512 ∨ a.slots.length > 16 then 5 else if a.slots.any XL = true then 8 else 0
def VF (last : Option BS) (a : AcE) : Int := if Wj a ≠ 2 ∧ (∃ b, last = some b ∧ Op.bytesLess b a.addr = false) then 11 else Wj a
instance (last : Option BS) (a : AcE) : Decidable (∃ b, last = some b ∧ Op.bytesLess b a.addr = false) := match last with
  | none => .isFalse (by simp)
  | some b => if h : Op.bytesLess b a.addr = false then .isTrue ⟨b, rfl, h⟩ else .isFalse (by simpa using h)
def goS : Option BS → List AcE → Int
 | _, [] => 0
 | last, a :: l => if VF last a ≠ 0 then VF last a else goS (some a.addr) l
def KR (s : List AcE) : Int := if s.length > 32 then 5 else goS none s
def Kj (s : List AcE) (k : BS) : Option AcE := Q5 AcE.addr k s
def qh (s : List AcE) (a : AcE) : List AcE × Int := if KR s ≠ 0 then (s, KR s) else if Wj a ≠ 0 then (s, Wj a) else if (Qg AcE.addr a s).length > 32 then (s, 5) else (Qg AcE.addr a s, 0)
def KM (a : AcE) (k : BS) : BS := match Q5 Prod.fst k a.slots with
 | some x => x.2
 | none => Vc
def KI (l : List (BS × BS)) (k v : BS) : List (BS × BS) := if v = Vc then qg Prod.fst k l else Qg Prod.fst (k, v) l
def Wb (a : AcE) (k v : BS) : AcE × Int := if Wj a ≠ 0 then (a, Wj a) else if k.length ≠ 32 ∨ v.length ≠ 32 then (a, 2) else if (KI a.slots k v).length > 16 then (a, 5) else ({ a with slots := KI a.slots k v }, 0)
theorem Q1 {a : AcE} (h : Wj a = 0) : a.addr.length = 20 ∧ (∀ x ∈ a.slots, x.1.length = 32 ∧ x.2.length = 32 ∧ x.2 ≠ Vc) ∧ Kx Prod.fst a.slots ∧ a.code.length ≤ 512 ∧ a.slots.length ≤ 16 := by
 unfold Wj at h
 split at h
 ·cases h
 rename_i h1
 split at h
 ·cases h
 rename_i h2
 split at h
 ·cases h
 rename_i h3
 split at h
 ·cases h
 rename_i h4
 simp only [not_or, Decidable.not_not] at h1 h3
 refine ⟨h1.1, fun x hx => ?_, (qf _ _).1 (by simpa using h2), by omega, by omega⟩
 have a1 := h1.2
 simp only [Bool.not_eq_true, List.any_eq_false] at a1 h4
 have := a1 x hx
 have h5 := h4 x hx
 unfold qX at this
 unfold XL at h5
 simp at this h5
 exact ⟨this.1, this.2, h5⟩
theorem xR {a : AcE} (h1 : a.addr.length = 20) (h2 : ∀ x ∈ a.slots, x.1.length = 32 ∧ x.2.length = 32 ∧ x.2 ≠ Vc) (h3 : Kx Prod.fst a.slots) (h4 : a.code.length ≤ 512) (h5 : a.slots.length ≤ 16) : Wj a = 0 := by
 unfold Wj
 have e1 : ¬ a.slots.any qX = true := by
  simp only [Bool.not_eq_true, List.any_eq_false]
  intro x hx
  obtain ⟨a1, a2, _⟩ := h2 x hx
  simp [qX, a1, a2]
 have e2 : ¬ a.slots.any XL = true := by
  simp only [Bool.not_eq_true, List.any_eq_false]
  intro x hx
  obtain ⟨_, _, a3⟩ := h2 x hx
  simp [XL, a3]
 have e3 := (qf Prod.fst a.slots).2 h3
 rw [if_neg (fun h => h.elim (fun h => h h1) e1), if_neg (by rw [e3]; simp), if_neg (by omega), if_neg e2]
theorem zm (a : AcE) : VF none a = Wj a := by unfold VF; rw [if_neg (by simp)]
theorem Jh1 {last : Option BS} {a : AcE} : VF last a = 0 ↔ Wj a = 0 ∧ ∀ b, last = some b → Op.bytesLess b a.addr = true := by
 unfold VF
 split
 ·rename_i h
  obtain ⟨h1, b, h2, h3⟩ := h
  constructor
  ·intro h; cases h
  ·rintro ⟨_, h⟩; rw [h b h2] at h3; cases h3
 ·rename_i h
  constructor
  ·intro h0
   refine ⟨h0, fun b hb => ?_⟩
   cases h4 : Op.bytesLess b a.addr
   ·exact absurd ⟨by omega, b, hb, h4⟩ h
   ·rfl
  ·exact fun h => h.1
theorem Jw6 : ∀ {last : Option BS} {s : List AcE}, goS last s = 0 ↔ (∀ a ∈ s, Wj a = 0) ∧ Kx AcE.addr s ∧ (∀ b, last = some b → ∀ a ∈ s, Op.bytesLess b a.addr = true)
 | last, [] => by simp [goS]
 | last, a :: l => by
  rw [goS]
  split
  ·rename_i h
   constructor
   ·intro h0; exact absurd h0 h
   ·rintro ⟨h1, h2, h3⟩
    exact absurd (Jh1.2 ⟨h1 a List.mem_cons_self, fun b hb => h3 b hb a List.mem_cons_self⟩) h
  ·rename_i h
   have h := Jh1.1 (Decidable.not_not.1 h)
   rw [Jw6]
   constructor
   ·rintro ⟨h1, h2, h3⟩
    refine ⟨fun x hx => ?_, List.pairwise_cons.2 ⟨fun x hx => h3 _ rfl x hx, h2⟩, fun b hb x hx => ?_⟩
    ·rcases List.mem_cons.1 hx with rfl | hx
     ·exact h.1
     ·exact h1 x hx
    ·rcases List.mem_cons.1 hx with rfl | hx
     ·exact h.2 b hb
     ·exact Qt (h.2 b hb) (h3 _ rfl x hx)
   ·rintro ⟨h1, h2, h3⟩
    obtain ⟨h4, h5⟩ := List.pairwise_cons.1 h2
    exact ⟨fun x hx => h1 x (List.mem_cons_of_mem _ hx), h5, fun b hb x hx => by cases hb; exact h4 x hx⟩
theorem W8 {s : List AcE} : KR s = 0 ↔ s.length ≤ 32 ∧ (∀ a ∈ s, Wj a = 0) ∧ Kx AcE.addr s := by
 unfold KR
 split
 ·constructor
  ·intro h; cases h
  ·rintro ⟨h, _⟩; omega
 ·rw [Jw6]
  constructor
  ·rintro ⟨h1, h2, _⟩; exact ⟨by omega, h1, h2⟩
  ·rintro ⟨_, h1, h2⟩; exact ⟨h1, h2, by simp⟩
theorem chk_one (a : AcE) : KR [a] = Wj a := by
 unfold KR goS goS
 rw [if_neg (by simp), zm]
 split
 ·rfl
 ·rename_i h; exact (Decidable.not_not.1 h).symm
structure PureT {α : Type} (P : Program) (f : FuncId) (args : Array Value) (V : α → Value) (T : Jm) (LL : α → Jm) (Rl : Jm) : Prop where
  run : ∀ w, Has T w → Has Rl w → (T.Pairwise fun p q => p.1 ≠ q.1) → (∀ p ∈ Rl, ∀ q ∈ T, p.1 ≠ q.1) → Calls P f args w fun e w' => ∃ x, e = .returned (V x) ∧ Keep (T.map (·.1)) w w' ∧ (∀ p ∈ LL x, (p.1 ∈ T.map (·.1) ∨ w.heap.size ≤ p.1) ∧ w'.heap[p.1]? = some p.2) ∧ (LL x).Pairwise fun p q => p.1 ≠ q.1
def cxT (P : Program) (w : World) (T Rl : Jm) (n : Nat) : Cx := ⟨P, none, w, T.map (·.1), [], Rl, n⟩
theorem St.startT {P : Program} {w : World} {n : Nat} {T Rl : Jm} (hT : Has T w) (hR : Has Rl w) (hd : T.Pairwise fun p q => p.1 ≠ q.1) (hne : ∀ p ∈ Rl, ∀ q ∈ T, p.1 ≠ q.1) : St (cxT P w T Rl n) T (fun _ _ => True) w :=
 ⟨Keep.refl _ _, fun p hp => ⟨.inl (List.mem_map.2 ⟨p, hp, rfl⟩), by simp [cxT], hT p hp⟩, hd, fun p hp => ⟨fun h => by obtain ⟨q, hq, e⟩ := List.mem_map.1 h; exact hne p hp q hq e.symm, by simp [cxT], hR p hp⟩, by simp [cxT], ⟨[], by simp, fun _ _ => trivial⟩⟩
theorem Jt {α : Type} {P : Program} {f : FuncId} {fn : Func} {code : Code} {vs : List Value} {V : α → Value} {T Rl : Jm} {LL : α → Jm} (hf : P.funcs[f]? = some fn) (hb : fn.body = some code) (hlen : Nat.ble vs.length fn.ntmps = true)
  (h : ∀ w, HC (cxT P w T Rl fn.ntmps) [] (V9 0 vs) T (fun _ _ => True) code (bodyPostM (FW none) 0 P fn (fun e w' => ∃ x, e = .returned (V x) ∧ St (cxT P w T Rl fn.ntmps) (LL x) (fun _ _ => True) w'))) : PureT P f vs.toArray V T LL Rl := ⟨fun w hT hR hd hne =>
 (Qy (cxT P w T Rl fn.ntmps) hf hb rfl rfl rfl hlen (St.startT hT hR hd hne) (h w)).mono fun _ _ ⟨x, he, hs⟩ => ⟨x, he, by have := hs.keep; simpa [cxT] using this, fun p hp => ⟨(hs.own p hp).1, (hs.own p hp).2.2⟩, hs.distinct⟩⟩
section
variable {c : Cx} {l : Kv} {L : Jm} {X : XP} {Q : Exit → Act → World → Prop} {d : List Deferred}
variable {ops : Array Oper} {rest : List Oper} {i : Nat} {v : Value} {t : TypeId} {ps : String} {af : Array Edge} {gd : Option (Nat × Bool)} {ty t2 : TypeId}
theorem St.turnT {T L0 LL : Jm} {w w' : World} (hs : St c (T ++ L0) X w) (hk : Keep (T.map (·.1)) w w') (hL : ∀ p ∈ LL, (p.1 ∈ T.map (·.1) ∨ w.heap.size ≤ p.1) ∧ w'.heap[p.1]? = some p.2) (hd : LL.Pairwise fun p q => p.1 ≠ q.1) : St c (LL ++ L0) X w' := by
 have hT : ∀ p ∈ T, p ∈ T ++ L0 := fun p hp => List.mem_append_left _ hp
 have hle := hs.keep.size
 obtain ⟨hd1, hd2, hd3⟩ := List.pairwise_append.1 hs.distinct
 have hin : ∀ k ∈ T.map (·.1), ∃ p ∈ T, p.1 = k := fun k hk => by obtain ⟨p, hp, e⟩ := List.mem_map.1 hk; exact ⟨p, hp, e⟩
 refine ⟨hs.keep.glue hk ?_, fun p hp => ?_, ?_, hs.ext, hs.xlt, ?_⟩
 ·intro k hk
  obtain ⟨p, hp, rfl⟩ := hin k hk
  exact (hs.own p (hT p hp)).1.imp (fun h => List.mem_append_left _ h) id
 ·rcases List.mem_append.1 hp with hp | hp
  ·obtain ⟨h1, h2⟩ := hL p hp
   rcases h1 with h1 | h1
   ·obtain ⟨q, hq, e⟩ := hin _ h1
    obtain ⟨g1, g2, _⟩ := hs.own q (hT q hq)
    rw [e] at g1 g2
    exact ⟨g1, g2, h2⟩
   ·exact ⟨.inr (by omega), fun hx => (by have := hs.xlt _ hx; omega), h2⟩
  ·obtain ⟨g1, g2, g3⟩ := hs.own p (List.mem_append_right _ hp)
   refine ⟨g1, g2, ?_⟩
   rw [hk.block _ (J7 g3) (fun h => by obtain ⟨q, hq, e⟩ := hin _ h; exact hd3 q hq p hp e)]
   exact g3
 ·refine List.pairwise_append.2 ⟨hd, hd2, fun p hp q hq => ?_⟩
  rcases (hL p hp).1 with h1 | h1
  ·obtain ⟨u, hu, e⟩ := hin _ h1
   rw [← e]; exact hd3 u hu q hq
  ·have := J7 (hs.own q (List.mem_append_right _ hq)).2.2
   omega
 ·obtain ⟨xs, e1, e2⟩ := hs.x
  refine ⟨xs, fun k hkx => ?_, fun w2 hw2 => e2 w2 fun k hkx => (hw2 k hkx).trans (hk.block k (e1 k hkx).2.1 (fun h => by obtain ⟨q, hq, e⟩ := hin _ h; exact (e1 k hkx).2.2 q (hT q hq) e))⟩
  obtain ⟨a1, a2, a3⟩ := e1 k hkx
  refine ⟨a1, Nat.lt_of_lt_of_le a2 hk.size, fun p hp => ?_⟩
  rcases List.mem_append.1 hp with hp | hp
  ·rcases (hL p hp).1 with h1 | h1
   ·obtain ⟨u, hu, e⟩ := hin _ h1
    rw [← e]; exact a3 u (hT u hu)
   ·omega
  ·exact a3 p (List.mem_append_right _ hp)
theorem Qh {α : Type} {T L0 Rl : Jm} {f : Operand} {args : Array Operand} {at_ : Array TypeId} {g : FuncId} {vs : List Value} {V : α → Value} {LL : α → Jm}
  (hp : L.Perm (T ++ L0)) (hg : Kg l ops ⟨some i, .call ⟨.value f, args, at_⟩, ty, ps, af, gd⟩ = some true) (hi : Nat.ble (i + 1) c.n = true) (hca : Km l f args = some (g, vs)) (eg : Enters c.P g)
  (hpt : PureT c.P g vs.toArray V T LL Rl) (hR : ∀ p ∈ Rl, known c L0 p.1 p.2) (h : ∀ x, HL c d ((i, V x) :: l) (LL x ++ L0) X ops rest Q) : HL c d l L X ops (⟨some i, .call ⟨.value f, args, at_⟩, ty, ps, af, gd⟩ :: rest) Q :=
 Xe (V := V) (L' := fun x => LL x ++ L0) (X' := fun _ => X) hg hi hca eg (fun w hs => by
  have hs := hs.perm hp
  obtain ⟨hd1, _, hd3⟩ := List.pairwise_append.1 hs.distinct
  refine (hpt.run w (fun p hp => (hs.own p (List.mem_append_left _ hp)).2.2) (fun p hp => ?_) hd1 (fun p hp q hq => ?_)).mono fun _ _ ⟨x, he, hk, h1, h2⟩ => ⟨x, he, hs.turnT hk h1 h2⟩
  ·exact (hR p hp).elim (fun h => (hs.own _ (List.mem_append_right _ h)).2.2) hs.readR
  ·rcases hR p hp with h | h
   ·exact fun e => hd3 q hq _ h e.symm
   ·rintro e
    obtain ⟨h1, _, h3⟩ := hs.ext _ h
    have h3 := J7 h3
    rcases (hs.own q (List.mem_append_left _ hq)).1 with h4 | h4
    ·exact h1 (e ▸ h4)
    ·simp only at h3 e; omega) h
theorem Ke {α : Type} {Rl : Jm} {f : Operand} {args : Array Operand} {at_ : Array TypeId} {g : FuncId} {vs : List Value} {V : α → Value} {LL : α → Jm}
  (hg : Kg l ops ⟨some i, .call ⟨.value f, args, at_⟩, ty, ps, af, gd⟩ = some true) (hi : Nat.ble (i + 1) c.n = true) (hca : Km l f args = some (g, vs)) (eg : Enters c.P g)
  (hpt : PureT c.P g vs.toArray V [] LL Rl) (hR : ∀ p ∈ Rl, known c L p.1 p.2) (h : ∀ x, HL c d ((i, V x) :: l) (LL x ++ L) X ops rest Q) : HL c d l L X ops (⟨some i, .call ⟨.value f, args, at_⟩, ty, ps, af, gd⟩ :: rest) Q :=
 Qh (T := []) (L0 := L) (List.Perm.refl _) hg hi hca eg hpt hR h
theorem PureR.toT {P : Program} {f : FuncId} {args : Array Value} {v : Value} {Rl : Jm} (h : PureR P f args v Rl) : PureT (α := Unit) P f args (fun _ => v) [] (fun _ => []) Rl :=
 ⟨fun w _ hR _ _ => (h.run w hR).mono fun _ _ ⟨he, hk⟩ => ⟨(), he, hk, by simp, List.Pairwise.nil⟩⟩
theorem PureT.map {α β : Type} {P : Program} {f : FuncId} {args : Array Value} {V : α → Value} {V' : β → Value} {T Rl : Jm} {LL : α → Jm} {LL' : β → Jm} (h : PureT P f args V T LL Rl) (g : α → β) (hv : ∀ x, V x = V' (g x)) (hl : ∀ x, (LL' (g x)).Sublist (LL x)) : PureT P f args V' T LL' Rl :=
 ⟨fun w hT hR hd hne => (h.run w hT hR hd hne).mono fun _ _ ⟨x, he, hk, h1, h2⟩ => ⟨g x, he.trans (by rw [hv]), hk, fun p hp => h1 p ((hl x).subset hp), h2.sublist (hl x)⟩⟩
theorem zn {α : Type} {k r : Nat} {o : Obj} {L0 Rl : Jm} {f : Operand} {args : Array Operand} {at_ : Array TypeId} {g : FuncId} {vs : List Value} {V : α → Value} {LL : α → Jm}
  (hk : L[k]? = some (r, o)) (hL : L.eraseIdx k = L0) (hg : Kg l ops ⟨some i, .call ⟨.value f, args, at_⟩, ty, ps, af, gd⟩ = some true) (hi : Nat.ble (i + 1) c.n = true) (hca : Km l f args = some (g, vs)) (eg : Enters c.P g)
  (hpt : PureT c.P g vs.toArray V [(r, o)] LL Rl) (hR : ∀ p ∈ Rl, known c L0 p.1 p.2) (h : ∀ x, HL c d ((i, V x) :: l) (LL x ++ L0) X ops rest Q) : HL c d l L X ops (⟨some i, .call ⟨.value f, args, at_⟩, ty, ps, af, gd⟩ :: rest) Q :=
 Qh (T := [(r, o)]) (L0 := L0) (by
  obtain ⟨h1, h2⟩ := List.getElem?_eq_some_iff.1 hk
  have := jh h1 (r, o)
  rw [hL] at this
  rwa [show L.set k (r, o) = L from by rw [← h2, List.set_getElem_self]] at this) hg hi hca eg hpt hR h
theorem Jc0 {P : Program} (w : World) (dT sT ty e : TypeId) (inf : TypeInfo) (hu : P.underlying dT = some (.slice e)) (hi : P.info? e = some inf) {r off dl dc r2 off2 sl sc n : Nat} {cs : Array Value} {e1 : TypeId} {vs : List Value}
  (hn : Nat.min sl dl = n) (hb : w.heap[r]? = some (.cells cs e1 (0, 0))) (hl : vs.length = n * inf.size) (hsrc : ∀ j v, vs[j]? = some v → w.cell? ((⟨r2, off2, none⟩ : Addr).add j) = some v) (hfit : off + n * inf.size ≤ cs.size) (h1 : ∀ v ∈ vs, v.oneCell' = true) :
  (Builtin.copy_ #[dT, sT] ty #[.slice (some ⟨r, off, none⟩) dl dc, .slice (some ⟨r2, off2, none⟩) sl sc]).run P w = .ok (.int .i64 n) (w.setRow r (cs.toList.take off ++ vs ++ cs.toList.drop (off + n * inf.size)).toArray) := by
 have hl1 := run_loadCells_list (P := P) w ⟨r2, off2, none⟩ vs hsrc
 rw [hl] at hl1
 have hst := run_storeCells_at (P := P) r off e1 vs 0 cs w hb (by rw [Nat.add_zero, hl]; exact hfit) h1
 rw [Nat.add_zero, hl] at hst
 have hn' : min sl dl = n := hn
 simp [Builtin.copy_, run_underlying hu, Builtin.lenOf, Builtin.firstCells, sizeOf, typeInfo, hi, hn', hl1, hst, Result.andThen, goInt]
theorem X8 {x y : Operand} {e sz k r off dl dc r2 off2 sl sc n : Nat} {cs cs2 : Array Value} {e1 e2 : TypeId} {fr2 : Nat × Nat} {vs cs' : List Value} {L' : Jm}
  (hg : Kg l ops ⟨some i, .call ⟨.builtin .copy, #[x, y], #[t, t2]⟩, ty, ps, af, gd⟩ = some true) (hi : Nat.ble (i + 1) c.n = true)
  (hx : JZ l x = some (.slice (some ⟨r, off, none⟩) dl dc)) (hy : JZ l y = some (.slice (some ⟨r2, off2, none⟩) sl sc)) (hk : L[k]? = some (r, .cells cs e1 (0, 0))) (hk2 : known c L r2 (.cells cs2 e2 fr2))
  (ht : Kk c.P t = some e) (hs : KN c.P e = some sz) (hn : Nat.min sl dl = n) (hvs : (cs2.toList.drop off2).take (n * sz) = vs) (hl : vs.length = n * sz) (hone : vs.all Q6 = true) (hfit : off + n * sz ≤ cs.size)
  (hcs : cs.toList.take off ++ vs ++ cs.toList.drop (off + n * sz) = cs') (hL : L.set k (r, .cells cs'.toArray e1 (0, 0)) = L')
  (h : HL c d ((i, .int .i64 n) :: l) L' X ops rest Q) : HL c d l L X ops (⟨some i, .call ⟨.builtin .copy, #[x, y], #[t, t2]⟩, ty, ps, af, gd⟩ :: rest) Q := by
 obtain ⟨inf, hinf, hs'⟩ : ∃ inf, c.P.info? e = some inf ∧ inf.size = sz := by
  unfold KN at hs
  cases hq : c.P.info? e with
  | none => simp [hq] at hs
  | some inf => simp only [hq, Option.some.injEq] at hs; exact ⟨inf, rfl, hs⟩
 subst hs'
 refine Jm0 (v := .int .i64 n) (L' := L') hg rfl rfl hi (fun a w hf hst => ⟨w.setRow r cs'.toArray, ?_, ?_⟩) h
 ·have hr := Jc0 (P := c.P) w t t2 ty e inf (JX ht) hinf (dc := dc) (sc := sc) hn (hst.get hk) hl (Xg (hst.known hk2) hvs) hfit (fun u hu => by rw [WJ]; exact List.all_eq_true.1 hone u hu)
  rw [hcs] at hr
  have ex := hf.eval hx
  have ey := hf.eval hy
  simp [execOp, resolve, Sem.run_bind, ex, ey, Result.andThen, invoke, builtin, hr]
 ·subst hL
  exact hst.set hk (Keep.setRow r cs'.toArray) (setRow_heap _ _ _ _ _ _ (hst.get hk))
theorem Jft (z : Array Value) (n : Nat) : (Builtin.zeroCells z n).toList = (List.range (n * z.size)).map (fun i => z.toList.getD (i % z.size) default) := by
 unfold Builtin.zeroCells
 simp
 intro a _
 rw [getElem!_def]
 cases z[a % z.size]? <;> rfl
theorem Jts {o : Oper} {L' : Jm} (hg : Kg l ops o = some true) (hn : Ku o.op = true) (hd : o.dst = none)
  (hr : ∀ a w, Fr c.n d l a → St c L X w → ∃ w', (execOp a.eval o).run c.P w = .ok (.value v) w' ∧ St c L' X w') (h : HL c d l L' X ops rest Q) : HL c d l L X ops (o :: rest) Q := fun a w hf hs => by
 obtain ⟨w', h1, h2⟩ := hr a w hf hs
 refine QW (JF hf hg) hn ?_
 rw [h1, Oper.uponIn_value, hd]
 exact h a w' hf h2
theorem zo {x : Operand} {e sz k r off n cap : Nat} {z : Value} {cs : Array Value} {e1 : TypeId} {cs' : List Value} {L' : Jm}
  (hg : Kg l ops ⟨none, .call ⟨.builtin .clear, #[x], #[t]⟩, ty, ps, af, gd⟩ = some true)
  (hx : JZ l x = some (.slice (some ⟨r, off, none⟩) n cap)) (hk : L[k]? = some (r, .cells cs e1 (0, 0))) (ht : Kk c.P t = some e) (hz : Qu c.P e = some z) (hs : z.cells.size = sz) (hone : z.cells.toList.all Q6 = true) (hsz : 0 < sz) (hfit : off + n * sz ≤ cs.size)
  (hcs : cs.toList.take off ++ (Builtin.zeroCells z.cells n).toList ++ cs.toList.drop (off + n * sz) = cs') (hL : L.set k (r, .cells cs'.toArray e1 (0, 0)) = L')
  (h : HL c d l L' X ops rest Q) : HL c d l L X ops (⟨none, .call ⟨.builtin .clear, #[x], #[t]⟩, ty, ps, af, gd⟩ :: rest) Q := by
 have hlen : (Builtin.zeroCells z.cells n).toList.length = n * sz := by rw [Array.length_toList, size_zeroCells, hs]
 have hone' : ∀ u ∈ (Builtin.zeroCells z.cells n).toList, u.oneCell' = true := fun u hu => by
  rw [Jft] at hu
  obtain ⟨j, hj, rfl⟩ := List.mem_map.1 hu
  rw [WJ]
  have hj2 : j % z.cells.size < z.cells.toList.length := by rw [Array.length_toList]; exact Nat.mod_lt _ (by omega)
  rw [List.getD_eq_getElem?_getD, List.getElem?_eq_getElem hj2]
  exact List.all_eq_true.1 hone _ (List.getElem_mem _)
 refine Jts (v := .tuple #[]) (L' := L') hg rfl rfl (fun a w hf hst => ?_) h
 have ex := hf.eval hx
 have hst2 := run_storeCells_at (P := c.P) r off e1 (Builtin.zeroCells z.cells n).toList 0 cs w (hst.get hk) (by rw [Nat.add_zero, hlen]; exact hfit) hone'
 rw [Nat.add_zero, hlen, hcs] at hst2
 cases n with
 | zero =>
  refine ⟨w, ?_, ?_⟩
  ·simp [execOp, resolve, Sem.run_bind, ex, Result.andThen, invoke, builtin, Builtin.clear_, KD (JX ht)]
  ·have : cs' = cs.toList := by
    rw [← hcs]
    have : (Builtin.zeroCells z.cells 0).toList = [] := List.length_eq_zero_iff.1 (by rw [hlen, Nat.zero_mul])
    rw [this, List.append_nil, Nat.zero_mul, Nat.add_zero, List.take_append_drop]
   rw [this] at hL
   have e2 : L.set k (r, .cells cs.toList.toArray e1 (0, 0)) = L := by
    obtain ⟨h1, h2⟩ := List.getElem?_eq_some_iff.1 hk
    rw [Array.toArray_toList, ← h2, List.set_getElem_self]
   rw [e2] at hL
   exact hL ▸ hst
 | succ n =>
  refine ⟨w.setRow r cs'.toArray, ?_, hL ▸ hst.set hk (Keep.setRow r cs'.toArray) (setRow_heap _ _ _ _ _ _ (hst.get hk))⟩
  simp [execOp, resolve, Sem.run_bind, ex, Result.andThen, invoke, builtin, Builtin.clear_, KD (JX ht), Xd hz, hst2]
theorem wc {x y : Operand} {e tn sz b r off n cap m : Nat} {kk : IntKind} {z : Value} {cs : Array Value} {e1 : TypeId} {fr : Nat × Nat} {xs : List Value} {kn : IntKind}
  (hg : Kg l ops ⟨some i, .call ⟨.builtin .append, #[x, y], #[t, tn]⟩, ty, ps, af, gd⟩ = some true) (hi : Nat.ble (i + 1) c.n = true)
  (hx : JZ l x = some (.slice (some ⟨r, off, none⟩) n cap)) (hy : JZ l y = some (.int kk (m : Int))) (hk : known c L r (.cells cs e1 fr)) (ht : Kk c.P t = some e) (htn : c.P.underlying tn = some (.int kn)) (hz : Qu c.P e = some z) (hs : KN c.P e = some sz) (hb : Jb1 c.P e = some b) (hzs : z.cells.size = sz) (hsz : 0 < sz)
  (hxs : (cs.toList.drop off).take (n * sz) = xs) (hl : xs.length = n * sz) (hm : 0 < m) (hno : cap < n + m) (hcap : n ≤ cap) (h63 : n + m ≤ 9223372036854775807) (h47 : (n + m) * b ≤ 140737488355328)
  (h : ∀ r' cap' (Z spare : List Value), Z.length = m * sz → (n + m) * sz + spare.length = cap' * sz → HL c d ((i, .slice (some ⟨r', 0, none⟩) (n + m) cap') :: l) ((r', .cells (xs ++ Z ++ spare).toArray e (0, 0)) :: L) X ops rest Q) :
  HL c d l L X ops (⟨some i, .call ⟨.builtin .append, #[x, y], #[t, tn]⟩, ty, ps, af, gd⟩ :: rest) Q := by
 obtain ⟨inf, hinf, hz', hs', hb'⟩ := vi hz hs hb
 subst hs' hb'
 refine V6 (α := { p : Nat × Nat × List Value // (n + m) * inf.size + p.2.2.length = p.2.1 * inf.size }) (V := fun p => .slice (some ⟨p.1.1, 0, none⟩) (n + m) p.1.2.1)
  (L' := fun p => (p.1.1, .cells (xs ++ (Builtin.zeroCells z.cells m).toList ++ p.1.2.2).toArray e (0, 0)) :: L) (X' := fun _ => X) hg rfl rfl hi (fun a w hf hst => ?_) (fun p => h p.1.1 p.1.2.1 _ p.1.2.2 (by rw [Array.length_toList, size_zeroCells, hzs]) p.2)
 have ex := hf.eval hx
 have ey := hf.eval hy
 have hold : (Builtin.firstCells inf.size n (.slice (some ⟨r, off, none⟩) n cap)).run c.P w.drew = .ok xs.toArray w.drew :=
  run_firstCells_some (P := c.P) w.drew inf.size n ⟨r, off, none⟩ n cap xs hl (fun j u hj => Xg (hst.drew.known hk) hxs j u hj)
 have hmb : m * inf.bytes ≤ 281474976710656 := Nat.le_trans (Nat.mul_le_mul_right _ (Nat.le_add_left m n)) (by omega)
 have hr := Lib.run_append_grow_zeros (P := c.P) w t tn ty e inf z kk kn (JX ht) htn hinf hz' (some ⟨r, off, none⟩) n cap xs hold m hm hsz hno (by omega) hmb (growslice_fits (by omega) h47)
 have hge := grownCap_ge w (n + m) cap e
 have e1 : (xs.toArray ++ Builtin.zeroCells z.cells m ++ Builtin.zeroCells z.cells (grownCap w (n + m) cap e - (n + m))) = (xs ++ (Builtin.zeroCells z.cells m).toList ++ (Builtin.zeroCells z.cells (grownCap w (n + m) cap e - (n + m))).toList).toArray := by
  apply Array.toList_inj.1; simp
 refine ⟨⟨(w.heap.size, grownCap w (n + m) cap e, (Builtin.zeroCells z.cells (grownCap w (n + m) cap e - (n + m))).toList), ?_⟩, w.drew.alloc (.cells (xs ++ (Builtin.zeroCells z.cells m).toList ++ (Builtin.zeroCells z.cells (grownCap w (n + m) cap e - (n + m))).toList).toArray e (0, 0)), ?_, hst.drew.alloc _⟩
 ·simp only
  rw [Array.length_toList, size_zeroCells, hzs, ← Nat.add_mul]
  congr 1; omega
 ·rw [e1] at hr
  simp [execOp, resolve, Sem.run_bind, ex, ey, Result.andThen, invoke, builtin, hr]
theorem Jfu {x y f : Operand} {e sz r1 r2 o1 o2 n1 c1 n2 c2 : Nat} {fn : Func} {g : FuncId} {at_ : Array TypeId} {cs1 cs2 : Array Value} {e1 e2 tR : TypeId}
  (hf : JZ l f = some (.func (.func g) #[] #[])) (hx : JZ l x = some (.slice (some ⟨r1, o1, none⟩) n1 c1)) (hy : JZ l y = some (.slice (some ⟨r2, o2, none⟩) n2 c2)) (hne : r1 ≠ r2) (hk1 : known c L r1 (.cells cs1 e1 (0, 0))) (hk2 : known c L r2 (.cells cs2 e2 (0, 0)))
  (ht : Kk c.P t = some e) (hs : KN c.P e = some sz) (h0 : 0 < cs2.size) (hF : c.P.funcs[g]? = some fn) (hn1 : (fn.name == "runtime.NumGoroutine") = false) (hb : fn.body.isNone = true) (hn2 : Extern.findNext fn = none) (he : Extern.find fn = some (Extern.SlicesOverlaps.overlaps #[t, t] #[tR])) :
  J6 c d l L X ⟨some i, .call ⟨.value f, #[x, y], at_⟩, ty, ps, af, gd⟩ (.bool false) := fun a w hfr hst => by
 have ef := hfr.eval hf
 have ex := hfr.eval hx
 have ey := hfr.eval hy
 have h1 := hst.known hk1
 have h2 := hst.known hk2
 have hov := Lib.run_overlaps_apart (P := c.P) w t tR e (JX ht) sz (fun w => QS hs w) ⟨r1, o1, none⟩ ⟨r2, o2, none⟩ n1 c1 n2 c2 hne e1 e2 cs1.size cs2.size (by simp [World.shape?, h1]) (by simp [World.shape?, h2]) (by omega) (by simp [World.frozen?, h1]) (by simp [World.frozen?, h1])
 have hcf : (callFunc g #[.slice (some ⟨r1, o1, none⟩) n1 c1, .slice (some ⟨r2, o2, none⟩) n2 c2]).run c.P w = .ok (.value (.bool false)) w := by
  rw [run_callFunc_extern hF hn1 hb hn2 he, hov]; rfl
 simp [execOp, resolve, Sem.run_bind, ef, ex, ey, Deferred.ofValue, Result.andThen, invoke, hcf]
end
section
variable {H : Type} {enc : TypeId × Value → H} {P : Program} {w : World} {base : Nat} {sp : Nat → Bool} {held : Bool}
theorem zp {a : Addr} {m : Nat} {cs : List Value} (h : w.cells? base a m = some cs) : cs.length = m ∧ ∀ i, i < m → w.cell? (a.add i) = cs[i]? := by
 unfold World.cells? at h
 split at h
 ·exact ⟨by simpa using mapM_some_length h, fun i hi => mapM_some_get h i i (by simp [hi])⟩
 ·cases h
theorem Jfv {a : Addr} {v : Value} (h : w.cell? a = some v) : a.spot = none ∧ ∃ all e fr, w.heap[a.block]? = some (.cells all e fr) ∧ all[a.off]? = some v := by
 unfold World.cell? at h
 split at h
 ·rename_i c e fr hc
  split at h
  ·cases h
  ·rename_i hs
   exact ⟨by simpa using hs, c, e, fr, hc, h⟩
 ·cases h
theorem Jfw {b o m : Nat} {cs : List Value} {all : Array Value} {e : TypeId} {fr : Nat × Nat} (h : w.cells? base ⟨b, o, none⟩ m = some cs) (hb : w.heap[b]? = some (.cells all e fr)) : (all.toList.drop o).take m = cs := by
 obtain ⟨hl, hg⟩ := zp h
 apply List.ext_getElem?
 intro i
 rw [List.getElem?_take]
 split
 ·rename_i hi
  rw [← hg i hi, Xf, List.getElem?_drop, Array.getElem?_toList]
  simp only [World.cell?, hb]
  rfl
 ·rename_i hi
  rw [List.getElem?_eq_none (by omega)]
theorem Jc1 {α : Type} {f : α → List Value} {m b : Nat} {all : Array Value} {e : TypeId} {fr : Nat × Nat} (hb : w.heap[b]? = some (.cells all e fr)) :
  ∀ (l : List α) (o : Nat), (∀ i x, l[i]? = some x → w.cells? base ⟨b, o + i * m, none⟩ m = some (f x)) → (all.toList.drop o).take (l.length * m) = l.flatMap f
 | [], o, _ => by simp
 | y :: l, o, h => by
  have h0 := Jfw (h 0 y rfl) hb
  have hr := Jc1 hb l (o + m) (fun i x hx => by
   have := h (i + 1) x hx
   rwa [Nat.succ_mul, Nat.add_comm (i * m) m, ← Nat.add_assoc] at this)
  rw [Nat.zero_mul, Nat.add_zero] at h0
  rw [List.length_cons, Nat.succ_mul, Nat.add_comm, List.take_add, h0, List.drop_drop, hr, List.flatMap_cons]
theorem xT {α : Type} {f : α → List Value} {m : Nat} (hm : 0 < m) (hf : ∀ x, (f x).length = m) {l : List α} {a : Addr} {cap : Nat} (hle : l.length ≤ cap) (h : ∀ i x, l[i]? = some x → w.cells? base (a.add (i * m)) m = some (f x)) :
  Seg (Jfi w) l.length (l.flatMap f) (some (a, cap)) := by
 refine ⟨hle, fun h0 => ?_⟩
 obtain ⟨y, hy⟩ : ∃ y, l[0]? = some y := ⟨_, List.getElem?_eq_getElem h0⟩
 have h1 := h 0 y hy
 rw [Nat.zero_mul] at h1
 have e0 : a.add 0 = a := by simp [Addr.add]
 rw [e0] at h1
 obtain ⟨hl, hg⟩ := zp h1
 have h2 := hg 0 hm
 rw [e0] at h2
 obtain ⟨v, hv⟩ : ∃ v, (f y)[0]? = some v := ⟨_, List.getElem?_eq_getElem (by omega)⟩
 rw [hv] at h2
 obtain ⟨hs, all, e, fr, hb, _⟩ := Jfv h2
 refine ⟨hs, all, e, fr, Jnz hb, ?_⟩
 rw [Ks hf]
 refine Jc1 (base := base) hb l a.off fun i x hx => ?_
 have := h i x hx
 have e1 : a.add (i * m) = ⟨a.block, a.off + i * m, none⟩ := by
  obtain ⟨b, o, s⟩ := a
  have : s = none := hs
  subst this
  exact Xf _ _ _
 rwa [e1] at this
theorem qA {α : Type} {Q : Nat → α → Prop} : ∀ (n : Nat), (∀ i, i < n → ∃ x, Q i x) → ∃ l : List α, l.length = n ∧ ∀ i x, l[i]? = some x → Q i x
 | 0, _ => ⟨[], rfl, fun i x h => by simp at h⟩
 | n + 1, h => by
  obtain ⟨l, hl, hq⟩ := qA n (fun i hi => h i (by omega))
  obtain ⟨x, hx⟩ := h n (by omega)
  refine ⟨l ++ [x], by simp [hl], fun i y hy => ?_⟩
  rw [List.getElem?_append] at hy
  split at hy
  ·exact hq i y hy
  ·rename_i hi
   have hn : i = n := by
    have := (List.getElem?_eq_some_iff.1 hy).1
    simp at this; omega
   subst hn
   rw [hl, Nat.sub_self] at hy
   obtain rfl : x = y := by simpa using hy
   exact hx
theorem YE {α : Type} {f : α → List Value} {ok : α → Prop} {m t e fuel : Nat} {cs : List Value} {x : DataW H × List MemPlace} (hm : 0 < m) (hf : ∀ x, (f x).length = m) (ht : P.underlying t = some (.slice e)) (hc : P.cellsOf e = m)
  (hE : ∀ n, n < fuel → ∀ cs x, DataW.trod enc P w base sp held n e cs = some x → ∃ y, cs = f y ∧ ok y)
  (h : DataW.trod enc P w base sp held fuel t cs = some x) : ∃ (l : List α) (p : Pl), cs = [KP l.length p] ∧ Seg (Jfi w) l.length (l.flatMap f) p ∧ l.length ≤ 9223372036854775807 ∧ ∀ y ∈ l, ok y := by
 rcases DataW.trod_slice ht h with ⟨rfl, _⟩ | ⟨a, len, cap, elems, rest, n, hn, rfl, _, _, hlc, hcm, hlen, hel, _⟩
 ·exact ⟨[], none, rfl, rfl, by simp, fun y hy => by simp at hy⟩
 ·have hex : ∀ i, i < len → ∃ y, w.cells? base (a.add (i * m)) m = some (f y) ∧ ok y := by
   intro i hi
   have h1 := hel i hi
   rw [hc] at h1
   obtain ⟨z, hz⟩ : ∃ z, elems[i]? = some z := ⟨_, List.getElem?_eq_getElem (by omega)⟩
   rw [hz, Option.bind_eq_some_iff] at h1
   obtain ⟨cs1, h2, h3⟩ := h1
   obtain ⟨y, rfl, hy⟩ := hE n (by omega) _ _ h3
   exact ⟨y, h2, hy⟩
  obtain ⟨l, rfl, hq⟩ := qA len hex
  have hcap : cap ≤ 9223372036854775807 := by simpa [maxLen] using hcm
  refine ⟨l, some (a, cap), rfl, xT hm hf hlc (fun i y hy => (hq i y hy).1), by omega, fun y hy => ?_⟩
  obtain ⟨i, hi, rfl⟩ := List.mem_iff_getElem.1 hy
  exact (hq i _ (List.getElem?_eq_getElem hi)).2
theorem Ki {t tf off m fuel i : Nat} {fs : Array Field} {cs : List Value} {x : DataW H × List MemPlace} (ht : P.underlying t = some (.struct fs)) (hi : (fs[i]?).map (fun f => (f.type, f.offset)) = some (tf, off)) (hm : P.cellsOf tf = m)
  (h : DataW.trod enc P w base sp held fuel t cs = some x) : ∃ n y, n < fuel ∧ DataW.trod enc P w base sp held n tf ((cs.drop off).take m) = some y := by
 obtain ⟨xs, n, rfl, _, _, hl, hg⟩ := DataW.trod_struct ht h
 obtain ⟨f, hf, he⟩ := Option.map_eq_some_iff.1 hi
 obtain ⟨rfl, rfl⟩ := Prod.mk.inj he
 have hi2 : i < xs.length := by rw [hl]; exact (Array.getElem?_eq_some_iff.1 hf).1
 subst hm
 exact ⟨n, xs[i], by omega, by rw [hg i f hf]; exact List.getElem?_eq_getElem hi2⟩
theorem Zk {t m fuel : Nat} {fs : Array Field} {cs : List Value} {x : DataW H × List MemPlace} (ht : P.underlying t = some (.struct fs)) (hm : P.cellsOf t = m) (h : DataW.trod enc P w base sp held fuel t cs = some x) : cs.length = m := by
 obtain ⟨xs, n, rfl, _, hl, _, _⟩ := DataW.trod_struct ht h
 rw [hl, hm]
theorem Wx {t fuel : Nat} {cs : List Value} {x : DataW H × List MemPlace} (ht : P.underlying t = some (.int .u64)) (h : DataW.trod enc P w base sp held fuel t cs = some x) : ∃ n : Nat, cs = [uV n] ∧ VK n := by
 obtain ⟨n, rfl, _, hw⟩ := DataW.trod_int ht h
 have := bounds_u64 hw
 exact ⟨n.toNat, by unfold uV; congr 2; omega, by unfold VK; omega⟩
theorem vq {t e fuel : Nat} {cs : List Value} {x : DataW H × List MemPlace} (ht : P.underlying t = some (.array 4 e)) (hc : P.cellsOf t = 4) (he : P.cellsOf e = 1) (hu : P.underlying e = some (.int .u64)) (h : DataW.trod enc P w base sp held fuel t cs = some x) :
  ∃ a b c d : Nat, cs = [uV a, uV b, uV c, uV d] ∧ VK a ∧ VK b ∧ VK c ∧ VK d := by
 cases fuel with
 | zero => simp [DataW.trod] at h
 | succ fuel =>
  obtain ⟨hl, xs, h1, _⟩ := (Jnv ht hc he).1 h
  obtain ⟨zs, rfl, _, hz⟩ := zf (V := uV) (D := fun n : Nat => .lit (.int .u64 (n : Int))) (ok := VK) (fun c x hx => by
   obtain ⟨n, h2, h3, h4⟩ := DataW.trod_int hu hx
   have h5 := bounds_u64 h4
   refine ⟨n.toNat, ?_, ?_, by unfold VK; omega⟩
   ·rw [List.singleton_inj.1 h2]; unfold uV; congr 1; omega
   ·rw [h3]; congr 3; omega) _ _ h1
  rw [List.length_map] at hl
  match zs, hl, hz with
  | [a, b, c, d], _, hz => exact ⟨a, b, c, d, rfl, hz a (by simp), hz b (by simp), hz c (by simp), hz d (by simp)⟩
theorem Jc2 {t : Nat} {fs : Array Field} {r : Reach} {b0 : Nat} {v : Value} (ht : P.underlying t = some (.struct fs)) (h : Value.okWide P w r b0 t v) {cs : List Value} (hc : v.cells.toList = cs) : v = .agg cs.toArray := by
 obtain ⟨c1, rfl, _⟩ := okWide_struct ht h
 subst hc
 simp [Value.cells]
end
abbrev J5 (s : BS) : Value := .string (bs s)
structure W4.ok (w : W4) : Prop where
  a : VK w.a
  b : VK w.b
  c : VK w.c
  d : VK w.d
theorem W4.ok.wok {w : W4} (h : w.ok) : WOk w.l := ⟨rfl, fun x hx => by
 unfold W4.l at hx
 simp only [List.mem_cons, List.not_mem_nil, or_false] at hx
 rcases hx with rfl | rfl | rfl | rfl
 ·exact h.a
 ·exact h.b
 ·exact h.c
 ·exact h.d⟩
theorem W4.ok_of {l : List Nat} (h : WOk l) : (W4.of l).ok := by
 obtain ⟨h1, h2⟩ := h
 match l, h1 with
 | [a, b, c, d], _ => exact ⟨h2 a (by simp), h2 b (by simp), h2 c (by simp), h2 d (by simp)⟩
theorem QP : VK 0 := by unfold VK; decide
theorem w40_ok : w40.ok := ⟨QP, QP, QP, QP⟩
structure Rec : Type where
  number : Nat
  time : Nat
  base : W4
  blob : W4
  overhead : W4
  scalar : Nat
  extra : Nat
  operator : Nat
deriving DecidableEq
def rec0 : Rec := ⟨0, 0, w40, w40, w40, 0, 0, 0⟩
def Rec.nats (r : Rec) : List Nat := [r.number, r.time, r.base.a, r.base.b, r.base.c, r.base.d, r.blob.a, r.blob.b, r.blob.c, r.blob.d, r.overhead.a, r.overhead.b, r.overhead.c, r.overhead.d, r.scalar, r.extra, r.operator]
def Rec.cells (r : Rec) : List Value := r.nats.map uV
def Rec.val (r : Rec) : Value := .agg r.cells.toArray
theorem Rec.len (r : Rec) : r.cells.length = 17 := rfl
theorem Rec.one (r : Rec) : r.cells.all Q6 = true := rfl
structure Rec.ok (r : Rec) : Prop where
  number : VK r.number
  time : VK r.time
  base : r.base.ok
  blob : r.blob.ok
  overhead : r.overhead.ok
  scalar : VK r.scalar
  extra : VK r.extra
  operator : VK r.operator
theorem Zl : rec0.ok := ⟨QP, QP, w40_ok, w40_ok, w40_ok, QP, QP, QP⟩
def Q9 (x : BS × BS) : List Value := [J5 x.1, J5 x.2]
theorem Kl (x : BS × BS) : (Q9 x).length = 2 := rfl
theorem j4 (x : BS × BS) : (Q9 x).all Q6 = true := rfl
def Jtt (l : List (BS × BS)) : List Value := l.flatMap Q9
abbrev YF : Nat := 9223372036854775807
structure AcL : Type where
  addr : BS
  nonce : Nat
  bal : W4
  code : BS
  slots : List (BS × BS)
  p : Pl
def AcL.cells (a : AcL) : List Value := [J5 a.addr, uV a.nonce, uV a.bal.a, uV a.bal.b, uV a.bal.c, uV a.bal.d, J5 a.code, KP a.slots.length a.p]
def AcL.val (a : AcL) : Value := .agg a.cells.toArray
def AcL.er (a : AcL) : AcE := ⟨a.addr, a.nonce, a.bal, a.code, a.slots⟩
theorem AcL.len (a : AcL) : a.cells.length = 8 := rfl
theorem AcL.one (a : AcL) : a.cells.all Q6 = true := rfl
structure AcL.In (R : Jm) (a : AcL) : Prop where
  addr : a.addr.length ≤ YF
  nonce : VK a.nonce
  bal : a.bal.ok
  code : a.code.length ≤ YF
  len : a.slots.length ≤ YF
  seg : Seg R a.slots.length (Jtt a.slots) a.p
  slots : ∀ x ∈ a.slots, x.1.length ≤ YF ∧ x.2.length ≤ YF
theorem AcL.In.mono {R R' : Jm} {a : AcL} (h : a.In R) (hs : ∀ q ∈ R, q ∈ R') : a.In R' := ⟨h.addr, h.nonce, h.bal, h.code, h.len, h.seg.mono hs, h.slots⟩
def ac0L : AcL := ⟨[], 0, w40, [], [], none⟩
theorem Jx6 {R : Jm} : ac0L.In R := ⟨Nat.zero_le _, QP, w40_ok, Nat.zero_le _, Nat.zero_le _, rfl, by simp [ac0L]⟩
def KW (l : List AcL) : List Value := l.flatMap AcL.cells
structure StL : Type where
  accts : List AcL
  p : Pl
def StL.cells (s : StL) : List Value := [KP s.accts.length s.p]
def StL.val (s : StL) : Value := .agg s.cells.toArray
def StL.er (s : StL) : List AcE := s.accts.map AcL.er
theorem StL.er_len (s : StL) : s.er.length = s.accts.length := by simp [StL.er]
structure StL.In (R : Jm) (s : StL) : Prop where
  len : s.accts.length ≤ YF
  seg : Seg R s.accts.length (KW s.accts) s.p
  accts : ∀ a ∈ s.accts, a.In R
theorem StL.In.mono {R R' : Jm} {s : StL} (h : s.In R) (hs : ∀ q ∈ R, q ∈ R') : s.In R' := ⟨h.len, h.seg.mono hs, fun a ha => (h.accts a ha).mono hs⟩
def st0L : StL := ⟨[], none⟩
theorem Jfx {R : Jm} : st0L.In R := ⟨Nat.zero_le _, rfl, by simp [st0L]⟩
theorem Jc3 {α : Type} {f : α → List Value} {m : Nat} (hf : ∀ x, (f x).length = m) {l : List α} {j k : Nat} {x : α} {v : Value} (h : l[j]? = some x) (hk : (f x)[k]? = some v) : (l.flatMap f)[j * m + k]? = some v := by
 have h1 := Wi hf h
 have hlt : k < m := by have := (List.getElem?_eq_some_iff.1 hk).1; rwa [hf] at this
 rw [← h1, List.getElem?_take, if_pos hlt, List.getElem?_drop] at hk
 exact hk
section
variable {c : Cx} {l : Kv} {L : Jm} {X : XP} {d : List Deferred} {i : Nat} {t : TypeId} {ps : String} {af : Array Edge} {gd : Option (Nat × Bool)} {ty : TypeId}
theorem Kp {α : Type} {f : α → List Value} {m : Nat} (hf : ∀ x, (f x).length = m) {x : Operand} {p : Pl} {R : Jm} {xs : List α} {j : Nat} {y : α} (hR : ∀ q ∈ R, known c L q.1 q.2) (hx : JZ l x = some (.pointer (some ⟨plB p, plO p + j * m, none⟩))) (hs : Seg R xs.length (xs.flatMap f) p) (hy : xs[j]? = some y) (ht : VI c.P t = some true) (hm : KN c.P t = some m) :
  J6 c d l L X ⟨some i, .load t x, ty, ps, af, gd⟩ (.agg (f y).toArray) :=
 qc hR hx hs (ju hy) ht hm (Wi hf hy) (hf y)
theorem j5 {α : Type} {f : α → List Value} {m k : Nat} (hf : ∀ x, (f x).length = m) {x : Operand} {p : Pl} {R : Jm} {xs : List α} {j : Nat} {y : α} {v : Value} (hR : ∀ q ∈ R, known c L q.1 q.2) (hx : JZ l x = some (.pointer (some ⟨plB p, plO p + (j * m + k), none⟩))) (hs : Seg R xs.length (xs.flatMap f) p) (hy : xs[j]? = some y) (hv : (f y)[k]? = some v) (ht : VI c.P t = some false) :
  J6 c d l L X ⟨some i, .load t x, ty, ps, af, gd⟩ v :=
 vV hR hx hs (ju hy) ht (Jc3 hf hy hv)
end
section
variable {H : Type} {enc : TypeId × Value → H} {P : Program} {w : World} {base : Nat} {sp : Nat → Bool} {held : Bool}
theorem j6 {t fuel : Nat} {cs : List Value} {x : DataW H × List MemPlace} (ht : P.underlying t = some .string) (h : DataW.trod enc P w base sp held fuel t cs = some x) : ∃ s : BS, cs = [J5 s] ∧ s.length ≤ YF := by
 obtain ⟨s, rfl, _, hl⟩ := DataW.trod_string ht h
 exact ⟨s.data.toList, by unfold J5; rw [Jtb], by rw [Array.length_toList]; exact hl⟩
theorem Jtu {tT tS fuel : Nat} {fs : Array Field} (ht : P.underlying tT = some (.struct fs)) (hT : P.cellsOf tT = 2) (h0 : (fs[0]?).map (fun f => (f.type, f.offset)) = some (tS, 0)) (h1 : (fs[1]?).map (fun f => (f.type, f.offset)) = some (tS, 1)) (hS : P.underlying tS = some .string) (hSc : P.cellsOf tS = 1)
  {cs : List Value} {x : DataW H × List MemPlace} (h : DataW.trod enc P w base sp held fuel tT cs = some x) : ∃ y : BS × BS, cs = Q9 y ∧ (y.1.length ≤ YF ∧ y.2.length ≤ YF) := by
 have hl := Zk ht hT h
 match cs, hl with
 | [a, b], _ =>
  obtain ⟨n0, y0, _, e0⟩ := Ki ht h0 hSc h
  obtain ⟨n1, y1, _, e1⟩ := Ki ht h1 hSc h
  obtain ⟨k, ek, hk⟩ := j6 hS e0
  obtain ⟨v, ev, hv⟩ := j6 hS e1
  obtain rfl : a = J5 k := by simpa using ek
  obtain rfl : b = J5 v := by simpa using ev
  exact ⟨(k, v), rfl, hk, hv⟩
theorem Jtv {tA tT tS tL tW tu tI fuel : Nat} {fs fa : Array Field} (ht : P.underlying tT = some (.struct fs)) (hT : P.cellsOf tT = 2) (h0 : (fs[0]?).map (fun f => (f.type, f.offset)) = some (tS, 0)) (h1 : (fs[1]?).map (fun f => (f.type, f.offset)) = some (tS, 1)) (hS : P.underlying tS = some .string) (hSc : P.cellsOf tS = 1)
  (ha : P.underlying tA = some (.struct fa)) (hA : P.cellsOf tA = 8) (a0 : (fa[0]?).map (fun f => (f.type, f.offset)) = some (tS, 0)) (a1 : (fa[1]?).map (fun f => (f.type, f.offset)) = some (tI, 1)) (a2 : (fa[2]?).map (fun f => (f.type, f.offset)) = some (tW, 2)) (a3 : (fa[3]?).map (fun f => (f.type, f.offset)) = some (tS, 6)) (a4 : (fa[4]?).map (fun f => (f.type, f.offset)) = some (tL, 7))
  (hI : P.underlying tI = some (.int .u64)) (hIc : P.cellsOf tI = 1) (hW : P.underlying tW = some (.array 4 tu)) (hWc : P.cellsOf tW = 4) (hu : P.underlying tu = some (.int .u64)) (huc : P.cellsOf tu = 1) (hL : P.underlying tL = some (.slice tT)) (hLc : P.cellsOf tL = 1)
  {cs : List Value} {x : DataW H × List MemPlace} (h : DataW.trod enc P w base sp held fuel tA cs = some x) : ∃ a : AcL, cs = a.cells ∧ a.In (Jfi w) := by
 have hl := Zk ha hA h
 match cs, hl with
 | [c0, c1, c2, c3, c4, c5, c6, c7], _ =>
  obtain ⟨n0, y0, _, e0⟩ := Ki ha a0 hSc h
  obtain ⟨n1, y1, _, e1⟩ := Ki ha a1 hIc h
  obtain ⟨n2, y2, _, e2⟩ := Ki ha a2 hWc h
  obtain ⟨n3, y3, _, e3⟩ := Ki ha a3 hSc h
  obtain ⟨n4, y4, _, e4⟩ := Ki ha a4 hLc h
  obtain ⟨s, es, hs⟩ := j6 hS e0
  obtain ⟨n, en, hn⟩ := Wx hI e1
  obtain ⟨w0, w1, w2, w3, ew, k0, k1, k2, k3⟩ := vq hW hWc huc hu e2
  obtain ⟨cd, ec, hc⟩ := j6 hS e3
  obtain ⟨l, p, ep, hsg, hlen, hok⟩ := YE (f := Q9) (ok := fun y => y.1.length ≤ YF ∧ y.2.length ≤ YF) (by decide) Kl hL hT (fun m hm cs x hx => Jtu ht hT h0 h1 hS hSc hx) e4
  obtain rfl : c0 = J5 s := by simpa using es
  obtain rfl : c1 = uV n := by simpa using en
  obtain ⟨rfl, rfl, rfl, rfl⟩ : c2 = uV w0 ∧ c3 = uV w1 ∧ c4 = uV w2 ∧ c5 = uV w3 := by simpa using ew
  obtain rfl : c6 = J5 cd := by simpa using ec
  obtain rfl : c7 = KP l.length p := by simpa using ep
  exact ⟨⟨s, n, ⟨w0, w1, w2, w3⟩, cd, l, p⟩, rfl, ⟨hs, hn, ⟨k0, k1, k2, k3⟩, hc, hlen, hsg, hok⟩⟩
end
theorem Jx7 {l : List Nat} (hl : WOk l) : Jky (Zf l 32) = l := by
 have : Jky (Zf l 32) = vR (dg l) 32 := Jkx fun i hi => by
  have h := Jhp l (n := 32) (m := 31 - i) (by omega)
  have e : 32 - 1 - (31 - i) = i := by omega
  rw [e] at h
  rw [List.getD_eq_getElem?_getD, h, Option.getD_some, UInt8.toNat_ofNat', Nat.mod_eq_of_lt (Jw2 l i)]
 rw [this, J0l hl]
def bW (w : W4) : BS := Zf w.l 32
def uW (s : BS) : W4 := W4.of (vU s).1
theorem Jc4 (s : BS) : WOk (vU s).1 := by
 unfold vU; split
 ·exact Jtk _
 ·exact J0m
theorem J0r (s : BS) : (uW s).l = (vU s).1 := W4.of_l (Jc4 s).1
theorem J0s (s : BS) : (uW s).ok := W4.ok_of (Jc4 s)
theorem Jx8 {w : W4} (h : w.ok) : uW (bW w) = w := by
 apply W4.l_inj
 rw [J0r]
 unfold vU bW
 rw [if_pos (V8 _ _)]
 exact Jx7 h.wok
theorem Jx9 {x y : W4} (hx : x.ok) (hy : y.ok) (h : bW x = bW y) : x = y := by rw [← Jx8 hx, h, Jx8 hy]
theorem Jya : Vc = bW w40 := by decide +kernel
def wN1 (n : Nat) : W4 := ⟨n, 0, 0, 0⟩
theorem xU {n : Nat} (h : VK n) : (wN1 n).ok := ⟨h, QP, QP, QP⟩
def Wc (n : Nat) : BS := bW (wN1 n)
theorem Job {n m : Nat} (hn : VK n) (hm : VK m) (h : Wc n = Wc m) : n = m := by
 have := Jx9 (xU hn) (xU hm) h
 simpa [wN1] using this
def VM : Nat → Nat
 | 0 => 0
 | 1 => 1
 | 2 => 5
 | 3 => 6
 | 4 => 3
 | 5 => 7
 | _ => 8
def YH (f : Int) : Nat → Bool
 | 0 => true
 | 1 => true
 | 2 => decide (f ≤ 2)
 | 3 => decide (f ≤ 2)
 | 4 => decide (f ≥ 3)
 | 5 => decide (f ≥ 3)
 | _ => decide (f = 5)
def XM (r : Rec) : Nat → W4
 | 0 => ⟨r.number, r.time, 0, 0⟩
 | 1 => r.base
 | 2 => r.overhead
 | 3 => ⟨r.scalar, 0, 0, 0⟩
 | 4 => ⟨r.scalar, r.extra, 0, 0⟩
 | 5 => r.blob
 | _ => ⟨r.operator, 0, 0, 0⟩
def ZC (r : Rec) (w : W4) : Nat → Rec
 | 0 => { r with number := w.a, time := w.b }
 | 1 => { r with base := w }
 | 2 => { r with overhead := w }
 | 3 => { r with scalar := w.a }
 | 4 => { r with scalar := w.a, extra := w.b }
 | 5 => { r with blob := w }
 | _ => { r with operator := w.a }
theorem wd {r : Rec} (h : r.ok) (i : Nat) : (XM r i).ok := by
 unfold XM
 split
 ·exact ⟨h.number, h.time, QP, QP⟩
 ·exact h.base
 ·exact h.overhead
 ·exact ⟨h.scalar, QP, QP, QP⟩
 ·exact ⟨h.scalar, h.extra, QP, QP⟩
 ·exact h.blob
 ·exact ⟨h.operator, QP, QP, QP⟩
theorem Jtw {r : Rec} {w : W4} (h : r.ok) (hw : w.ok) (i : Nat) : (ZC r w i).ok := by
 obtain ⟨h1, h2, h3, h4, h5, h6, h7, h8⟩ := h
 unfold ZC
 split
 ·exact ⟨hw.a, hw.b, h3, h4, h5, h6, h7, h8⟩
 ·exact ⟨h1, h2, hw, h4, h5, h6, h7, h8⟩
 ·exact ⟨h1, h2, h3, h4, hw, h6, h7, h8⟩
 ·exact ⟨h1, h2, h3, h4, h5, hw.a, h7, h8⟩
 ·exact ⟨h1, h2, h3, h4, h5, hw.a, hw.b, h8⟩
 ·exact ⟨h1, h2, h3, hw, h5, h6, h7, h8⟩
 ·exact ⟨h1, h2, h3, h4, h5, h6, h7, hw.a⟩
def WI (f : Int) (g : Nat → W4) : List Nat → Rec → Rec
 | [], out => out
 | i :: l, out => WI f g l (if YH f i then ZC out (g i) i else out)
def tab : List Nat := [0, 1, 2, 3, 4, 5, 6]
def qB (f : Int) (r : Rec) : Rec := WI f (XM r) tab rec0
def VN (f : Int) (a : AcE) : Rec := WI f (fun i => uW (KM a (Wc (VM i)))) tab rec0
theorem Jh2 {f : Int} {g : Nat → W4} (hg : ∀ i, (g i).ok) : ∀ (l : List Nat) {out : Rec}, out.ok → (WI f g l out).ok
 | [], _, h => h
 | i :: l, out, h => by
  unfold WI
  refine Jh2 hg l ?_
  split
  ·exact Jtw h (hg i) i
  ·exact h
theorem xV (f : Int) (a : AcE) : (VN f a).ok := Jh2 (fun _ => J0s _) tab Zl
def KA (f : Int) : Prop := 0 ≤ f ∧ f ≤ 5
instance (f : Int) : Decidable (KA f) := inferInstanceAs (Decidable (_ ∧ _))
theorem Yr {f : Int} (h : KA f) : f = 0 ∨ f = 1 ∨ f = 2 ∨ f = 3 ∨ f = 4 ∨ f = 5 := by unfold KA at h; omega
def we (f : Int) (r : Rec) : Bool := !((decide (f ≥ 3) && decide (r.overhead ≠ w40)) || (decide (f < 3) && (decide (r.extra ≠ 0) || decide (r.blob ≠ w40))) || (decide (f < 5) && decide (r.operator ≠ 0)))
def V3 (f : Int) (r : Rec) : Int := if ¬ KA f then 10 else if we f r then 0 else 2
theorem wg {f : Int} {r : Rec} (h : KA f) : qB f r = r ↔ we f r = true := by
 obtain ⟨n, t, b, l, o, s, e, p⟩ := r
 rcases Yr h with rfl | rfl | rfl | rfl | rfl | rfl <;>
  (simp [qB, WI, tab, YH, ZC, XM, we, rec0]; try (constructor <;> (intro h; simp_all <;> omega)))
def Qn (which : Int) : BS := if which < 0 ∨ which > 1 then [] else 66 :: (List.replicate 18 0 ++ [UInt8.ofNat (1 + which).toNat])
def cOne : BS := [111, 110, 101]
def J0t : BS := [116, 119, 111]
def Joc : BS := [116, 104, 114, 101, 101]
def Jw7 : BS := [102, 105, 118, 101]
def J0u : BS := [102, 101, 101]
def KE (f which : Int) : BS × Bool := if which = 1 then (if f ≥ 2 then (J0u, true) else ([], false)) else if f = 0 then (cOne, true) else if f ≤ 2 then (J0t, true) else if f ≤ 4 then (Joc, true) else (Jw7, true)
def A0 : BS := Qn 0
def A1 : BS := Qn 1
theorem A01 : A0 ≠ A1 := by decide +kernel
theorem Jw8 (f : Int) : (KE f 0).2 = true := by unfold KE; rw [if_neg (by decide)]; (repeat' split) <;> rfl
theorem Jc5 (f which : Int) : (KE f which).1.length ≤ 512 := by unfold KE; (repeat' split) <;> decide
theorem qC {l : List (BS × BS)} {k v : BS} (h : Kx Prod.fst l) : Kx Prod.fst (KI l k v) := by
 unfold KI; split
 ·exact Jfr h
 ·exact ZM h
theorem Jk7 {l : List (BS × BS)} {k v j : BS} (h : Kx Prod.fst l) : Q5 Prod.fst j (KI l k v) = if k = j then (if v = Vc then none else some (k, v)) else Q5 Prod.fst j l := by
 unfold KI
 by_cases hv : v = Vc
 ·rw [if_pos hv, if_pos hv, Jcz]
 ·rw [if_neg hv, if_neg hv, wa h]
theorem wh {l : List (BS × BS)} {k v : BS} {x : BS × BS} (h : x ∈ KI l k v) : (x = (k, v) ∧ v ≠ Vc) ∨ x ∈ l := by
 unfold KI at h
 split at h
 ·exact .inr (Jtr h)
 ·rename_i hv; exact (j3 h).imp (fun h => ⟨h, hv⟩) id
theorem Jod {a : AcE} {k v : BS} (h : (Wb a k v).2 = 0) : Wj a = 0 ∧ k.length = 32 ∧ v.length = 32 ∧ (KI a.slots k v).length ≤ 16 ∧ Wb a k v = ({ a with slots := KI a.slots k v }, 0) := by
 unfold Wb at h ⊢
 split at h
 ·rename_i h1; exact absurd h h1
 rename_i h1
 split at h
 ·cases h
 rename_i h2
 split at h
 ·cases h
 rename_i h3
 rw [if_neg h1, if_neg h2, if_neg h3]
 exact ⟨Decidable.not_not.1 h1, by omega, by omega, by omega, rfl⟩
theorem Jyc {a : AcE} {k v : BS} (h1 : Wj a = 0) (h2 : k.length = 32) (h3 : v.length = 32) (h4 : (KI a.slots k v).length ≤ 16) : Wb a k v = ({ a with slots := KI a.slots k v }, 0) := by
 unfold Wb
 rw [if_neg (by omega), if_neg (by omega), if_neg (by omega)]
theorem Jh3 {a : AcE} {k v : BS} (h1 : Wj a = 0) (h2 : k.length = 32) (h3 : v.length = 32) (h4 : (KI a.slots k v).length ≤ 16) : Wj { a with slots := KI a.slots k v } = 0 := by
 obtain ⟨g1, g2, g3, g4, g5⟩ := Q1 h1
 refine xR g1 (fun x hx => ?_) (qC g3) g4 h4
 rcases wh hx with ⟨rfl, hv⟩ | hx
 ·exact ⟨h2, h3, hv⟩
 ·exact g2 x hx
theorem qj {a : AcE} {k v j : BS} (h : Kx Prod.fst a.slots) : KM { a with slots := KI a.slots k v } j = if k = j then v else KM a j := by
 unfold KM
 simp only
 rw [Jk7 h]
 by_cases hk : k = j
 ·rw [if_pos hk, if_pos hk]
  by_cases hv : v = Vc
  ·rw [if_pos hv]; exact hv.symm
  ·rw [if_neg hv]
 ·rw [if_neg hk, if_neg hk]
def QA : AcE → List (BS × BS) → AcE × Int
 | a, [] => (a, 0)
 | a, x :: l => if (Wb a x.1 x.2).2 ≠ 0 then Wb a x.1 x.2 else QA (Wb a x.1 x.2).1 l
structure RowsOk (a b : AcE) (l : List (BS × BS)) : Prop where
  lk : Wj b = 0
  addr : b.addr = a.addr
  nonce : b.nonce = a.nonce
  bal : b.bal = a.bal
  code : b.code = a.code
  at_ : ∀ x ∈ l, KM b x.1 = x.2
  off : ∀ k, (∀ x ∈ l, x.1 ≠ k) → KM b k = KM a k
theorem Jh4 : ∀ {l : List (BS × BS)} {a : AcE}, (QA a l).2 = 0 → Wj a = 0 → (l.Pairwise fun x y => x.1 ≠ y.1) → RowsOk a (QA a l).1 l
 | [], a, _, h, _ => ⟨h, rfl, rfl, rfl, rfl, by simp, fun _ _ => rfl⟩
 | x :: l, a, h, hl, hd => by
  unfold QA at h ⊢
  split at h
  ·rename_i h1; exact absurd h h1
  rename_i h1
  rw [if_neg h1]
  obtain ⟨g1, g2, g3, g4, g5⟩ := Jod (Decidable.not_not.1 h1)
  rw [g5] at h ⊢
  obtain ⟨d1, d2⟩ := List.pairwise_cons.1 hd
  have hs := (Q1 hl).2.2.1
  obtain ⟨i1, i2, i3, i4, i5, i6, i7⟩ := Jh4 h (Jh3 g1 g2 g3 g4) d2
  refine ⟨i1, i2, i3, i4, i5, fun y hy => ?_, fun k hk => ?_⟩
  ·rcases List.mem_cons.1 hy with rfl | hy
   ·rw [i7 _ fun z hz => (d1 z hz).symm, qj hs, if_pos rfl]
   ·exact i6 y hy
  ·rw [i7 _ fun z hz => hk z (List.mem_cons_of_mem _ hz), qj hs, if_neg (hk x List.mem_cons_self)]
theorem Jc6 {a : AcE} (h : Wj a = 0) {x : BS × BS} (hx : x ∈ a.slots) : KM a x.1 = x.2 ∧ x.2 ≠ Vc := by
 obtain ⟨_, g2, g3, _⟩ := Q1 h
 unfold KM
 rw [Zj g3 hx]
 exact ⟨rfl, (g2 x hx).2.2⟩
theorem Jc7 {a : AcE} {k : BS} (h : KM a k ≠ Vc) : (k, KM a k) ∈ a.slots := by
 unfold KM at h ⊢
 cases hl : Q5 Prod.fst k a.slots with
 | none => rw [hl] at h; exact absurd rfl h
 | some x =>
  obtain ⟨h1, h2⟩ := WZ hl
  simp only
  rw [← h1]; exact h2
theorem xW {α : Type} {kf : α → BS} : ∀ {m l : List α}, Kx kf m → Kx kf l → (∀ y ∈ l, y ∈ m) → l.length ≤ m.length
 | [], [], _, _, _ => Nat.le_refl _
 | [], y :: l, _, _, h => absurd (h y List.mem_cons_self) (by simp)
 | z :: m, [], _, _, _ => Nat.zero_le _
 | z :: m, y :: l, hm, hl, h => by
  obtain ⟨m1, m2⟩ := List.pairwise_cons.1 hm
  obtain ⟨l1, l2⟩ := List.pairwise_cons.1 hl
  rcases List.mem_cons.1 (h y List.mem_cons_self) with e | hy
  ·rw [e] at l1
   have := xW (m := m) (l := l) m2 l2 fun x hx => by
    rcases List.mem_cons.1 (h x (List.mem_cons_of_mem _ hx)) with rfl | hx2
    ·have := l1 _ hx; rw [Vu] at this; cases this
    ·exact hx2
   simp only [List.length_cons]; omega
  ·have := xW (m := m) (l := y :: l) m2 hl fun x hx => by
    rcases List.mem_cons.1 (h x hx) with rfl | hx2
    ·have a1 := m1 y hy
     rcases List.mem_cons.1 hx with rfl | hx3
     ·rw [Vu] at a1; cases a1
     ·have := Qt a1 (l1 _ hx3); rw [Vu] at this; cases this
    ·exact hx2
   simp only [List.length_cons] at this ⊢; omega
theorem fill {a : AcE} (ha : Wj a = 0) : ∀ (l : List (BS × BS)) (x : AcE), Wj x = 0 → (∀ k, KM x k = KM a k ∨ KM x k = Vc) → (∀ p ∈ l, p.1.length = 32 ∧ p.2.length = 32 ∧ (p.2 = KM a p.1 ∨ p.2 = Vc)) → (QA x l).2 = 0
 | [], _, _, _, _ => rfl
 | p :: l, x, hx, hs, hp => by
  obtain ⟨p1, p2, p3⟩ := hp p List.mem_cons_self
  have hsx := (Q1 hx).2.2.1
  have hlen : (KI x.slots p.1 p.2).length ≤ 16 := by
   refine Nat.le_trans (xW (kf := Prod.fst) (Q1 ha).2.2.1 (qC hsx) fun y hy => ?_) (Q1 ha).2.2.2.2
   have hne : y.2 ≠ Vc ∧ y.2 = KM a y.1 := by
    rcases wh hy with ⟨rfl, hv⟩ | hy
    ·exact ⟨hv, p3.resolve_right hv⟩
    ·obtain ⟨e1, e2⟩ := Jc6 hx hy
     refine ⟨e2, ?_⟩
     rcases hs y.1 with h | h
     ·rw [← e1, h]
     ·rw [← e1] at e2; exact absurd h e2
   have h3 := Jc7 (a := a) (k := y.1) (by rw [← hne.2]; exact hne.1)
   rw [← hne.2] at h3
   exact h3
  unfold QA
  rw [Jyc hx p1 p2 hlen, if_neg (by simp)]
  refine fill ha l _ (Jh3 hx p1 p2 hlen) (fun k => ?_) fun q hq => hp q (List.mem_cons_of_mem _ hq)
  rw [qj hsx]
  split
  ·rename_i e; subst e; exact p3
  ·exact hs k
theorem Joe {a b : AcE} (ha : Wj a = 0) (hb : Wj b = 0) (h1 : a.addr = b.addr) (h2 : a.nonce = b.nonce) (h3 : a.bal = b.bal) (h4 : a.code = b.code) (h5 : ∀ k, KM a k = KM b k) : a = b := by
 have hs : a.slots = b.slots := by
  refine wb (Q1 ha).2.2.1 (Q1 hb).2.2.1 fun k => ?_
  have key : ∀ {x y : AcE}, Wj x = 0 → Wj y = 0 → (∀ k, KM x k = KM y k) → ∀ v, Q5 Prod.fst k x.slots = some v → Q5 Prod.fst k y.slots = some v := by
   intro x y hx hy h v hv
   obtain ⟨e1, e2⟩ := WZ hv
   obtain ⟨f1, f2⟩ := Jc6 hx e2
   rw [h] at f1
   have h3 := Jc7 (a := y) (k := v.1) (by rw [f1]; exact f2)
   rw [f1] at h3
   have := Zj (Q1 hy).2.2.1 h3
   rw [e1] at this
   rw [this, ← e1]
  cases hx : Q5 Prod.fst k a.slots with
  | some v => exact (key ha hb h5 v hx).symm
  | none =>
   cases hy : Q5 Prod.fst k b.slots with
   | none => rfl
   | some v => rw [key hb ha (fun k => (h5 k).symm) v hy] at hx; cases hx
 cases a; cases b
 simp_all
theorem Jyd {s t : List AcE} (hs : KR s = 0) (ht : KR t = 0) (h : ∀ k, Kj s k = Kj t k) : s = t := wb (W8.1 hs).2.2 (W8.1 ht).2.2 h
theorem Ys {s : List AcE} (hs : KR s = 0) {k : BS} {a : AcE} (h : Kj s k = some a) : a.addr = k ∧ Wj a = 0 := by
 obtain ⟨h1, h2⟩ := WZ h
 exact ⟨h1, (W8.1 hs).2.1 a h2⟩
theorem Jof {s : List AcE} {a : AcE} (h : (qh s a).2 = 0) : KR s = 0 ∧ Wj a = 0 ∧ qh s a = (Qg AcE.addr a s, 0) ∧ KR (Qg AcE.addr a s) = 0 ∧ ∀ k, Kj (Qg AcE.addr a s) k = if a.addr = k then some a else Kj s k := by
 unfold qh at h ⊢
 split at h
 ·rename_i h1; exact absurd h h1
 rename_i h1
 split at h
 ·rename_i h2; exact absurd h h2
 rename_i h2
 split at h
 ·cases h
 rename_i h3
 rw [if_neg h1, if_neg h2, if_neg h3]
 have h1 := Decidable.not_not.1 h1
 have h2 := Decidable.not_not.1 h2
 obtain ⟨c1, c2, c3⟩ := W8.1 h1
 refine ⟨h1, h2, rfl, W8.2 ⟨by omega, fun x hx => ?_, ZM c3⟩, fun k => wa c3⟩
 rcases j3 hx with rfl | hx
 ·exact h2
 ·exact c2 x hx
def YI (f : Int) (r : Rec) (i : Nat) : BS × BS := (Wc (VM i), if YH f i then bW (XM r i) else Vc)
def wi (f : Int) (r : Rec) : List (BS × BS) := tab.map (YI f r)
def wj (k : BS) : Prop := ∃ i ∈ tab, Wc (VM i) = k
def XN (f which : Int) (a : AcE) (r : Rec) : AcE × Int := if which = 1 then ({ a with code := (KE f 1).1 }, 0) else QA { a with code := (KE f which).1 } (wi f r)
def QQ (t : List AcE) (which : Int) : AcE := { (Kj t (Qn which)).getD ac0 with addr := Qn which }
def VO (f : Int) (s0 : List AcE) (go : Int → AcE → AcE × Int) : List Int → List AcE → List AcE × Int
  | [], t => (t, 0)
  | w :: ws, t => if (KE f w).2 = false then VO f s0 go ws t else
      if (go w (QQ t w)).2 ≠ 0 then (s0, (go w (QQ t w)).2) else if (qh t (go w (QQ t w)).1).2 ≠ 0 then (s0, (qh t (go w (QQ t w)).1).2) else VO f s0 go ws (qh t (go w (QQ t w)).1).1
def Zm (f : Int) (s : List AcE) (go : Int → AcE → AcE × Int) : List AcE × Int := VO f s go [0, 1] s
def KX (f : Int) (s : List AcE) (r : Rec) : List AcE × Int := if V3 f r ≠ 0 then (s, V3 f r) else if KR s ≠ 0 then (s, KR s) else Zm f s fun w a => XN f w a r
def QO (f : Int) (s : List AcE) (w : Int) : Bool := (KE f w).2 && decide (((Kj s (Qn w)).getD ac0).code ≠ (KE f w).1)
def VS (f : Int) (s : List AcE) (w : Int) : Bool := (KE f w).2 && (Kj s (Qn w)).isNone
def Yt (f : Int) (a : AcE) (r : Rec) : List Nat → Bool
 | [] => true
 | i :: l => decide (KM a (Wc (VM i)) = (YI f r i).2) && Yt f a r l
def Qi (f : Int) (s : List AcE) : Int := if ¬ KA f then 10 else if KR s ≠ 0 then KR s else if VS f s 0 || VS f s 1 then 12 else if QO f s 0 || QO f s 1 then 2 else
 if Yt f ((Kj s A0).getD ac0) (VN f ((Kj s A0).getD ac0)) tab then 0 else 8
def VG (f : Int) (s : List AcE) : Rec × Int := if Qi f s ≠ 0 then (rec0, Qi f s) else (VN f ((Kj s A0).getD ac0), 0)
theorem Jye {i : Nat} (h : i ∈ tab) : i < 7 := by simp [tab] at h; omega
theorem qk (i : Nat) : VK (VM i) := by unfold VK VM; (repeat' split) <;> omega
theorem Jtx (f : Int) (r : Rec) : (wi f r).Pairwise fun x y => x.1 ≠ y.1 := by
 unfold wi
 rw [List.pairwise_map]
 have : tab.Pairwise (fun i j => VM i ≠ VM j) := by decide
 refine this.imp fun h e => h (Job (qk _) (qk _) e)
theorem Jk8 {f : Int} {r : Rec} {k : BS} (h : ¬ wj k) : ∀ x ∈ wi f r, x.1 ≠ k := fun x hx e => by
 obtain ⟨i, hi, rfl⟩ := List.mem_map.1 hx
 exact h ⟨i, hi, e⟩
theorem XY {f : Int} {a : AcE} {r : Rec} : ∀ {l : List Nat}, Yt f a r l = true ↔ ∀ i ∈ l, KM a (Wc (VM i)) = (YI f r i).2
 | [] => by simp [Yt]
 | i :: l => by rw [Yt, Bool.and_eq_true, decide_eq_true_eq, XY]; simp
theorem Jyf {s : List AcE} (hs : KR s = 0) {w : Int} (hw : (Qn w).length = 20) {c : BS} (hc : c.length ≤ 512) : Wj { QQ s w with code := c } = 0 := by
 unfold QQ
 cases h : Kj s (Qn w) with
 | none => exact xR hw (by simp [ac0]) (by simp [ac0]) hc (by simp [ac0])
 | some a =>
  obtain ⟨g1, g2, g3, g4, g5⟩ := Q1 (Ys hs h).2
  exact xR hw g2 g3 hc g5
theorem Jog {s : List AcE} (hs : KR s = 0) {w : Int} {a : AcE} (h : Kj s (Qn w) = some a) : QQ s w = a := by
 unfold QQ
 rw [h]
 obtain ⟨h1, _⟩ := Ys hs h
 cases a
 simp only at h1
 simp [h1]
theorem Jk9 {s t : List AcE} (h : Kj s A1 = Kj t A1) : QQ s 1 = QQ t 1 := by unfold QQ; rw [show Qn 1 = A1 from rfl, h]
theorem Jla {f : Int} {s t : List AcE} {go : Int → AcE → AcE × Int} (h : Zm f s go = (t, 0)) (hs : KR s = 0) (h0 : (KE f 0).2 = true) (ha : ∀ w a, (go w a).2 = 0 → (go w a).1.addr = a.addr) :
  ∃ b0, go 0 (QQ s 0) = (b0, 0) ∧ KR t = 0 ∧ Kj t A0 = some b0 ∧ (∀ k, k ≠ A0 → k ≠ A1 → Kj t k = Kj s k) ∧
   (if (KE f 1).2 = true then ∃ b1, go 1 (QQ s 1) = (b1, 0) ∧ Kj t A1 = some b1 else Kj t A1 = Kj s A1) := by
 unfold Zm VO at h
 rw [if_neg (by rw [h0]; simp)] at h
 split at h
 ·rename_i h1; exact absurd (Prod.mk.inj h).2 h1
 rename_i h1
 split at h
 ·rename_i h2; exact absurd (Prod.mk.inj h).2 h2
 rename_i h2
 have h1 := Decidable.not_not.1 h1
 obtain ⟨p1, p2, p3, p4, p5⟩ := Jof (Decidable.not_not.1 h2)
 rw [p3] at h
 have e0 := ha 0 (QQ s 0) h1
 have e0' : (go 0 (QQ s 0)).1.addr = A0 := e0
 rw [e0'] at p5
 have hold1 : QQ (Qg AcE.addr (go 0 (QQ s 0)).1 s) 1 = QQ s 1 := by
  exact Jk9 (by rw [p5, if_neg A01])
 refine ⟨(go 0 (QQ s 0)).1, Prod.ext rfl h1, ?_⟩
 unfold VO at h
 split at h
 ·rename_i h3
  unfold VO at h
  obtain ⟨rfl, _⟩ := Prod.mk.inj h
  refine ⟨p4, by rw [p5, if_pos rfl], fun k k0 k1 => by rw [p5, if_neg (Ne.symm k0)], ?_⟩
  rw [if_neg (by rw [h3]; simp), p5, if_neg A01]
 ·rename_i h3
  rw [hold1] at h
  split at h
  ·rename_i h4; exact absurd (Prod.mk.inj h).2 h4
  rename_i h4
  split at h
  ·rename_i h5; exact absurd (Prod.mk.inj h).2 h5
  rename_i h5
  have h4 := Decidable.not_not.1 h4
  obtain ⟨q1, q2, q3, q4, q5⟩ := Jof (Decidable.not_not.1 h5)
  rw [q3] at h
  unfold VO at h
  obtain ⟨rfl, _⟩ := Prod.mk.inj h
  have e1' : (go 1 (QQ s 1)).1.addr = A1 := ha 1 (QQ s 1) h4
  rw [e1'] at q5
  refine ⟨q4, by rw [q5, if_neg (Ne.symm A01), p5, if_pos rfl], fun k k0 k1 => by rw [q5, if_neg (Ne.symm k1), p5, if_neg (Ne.symm k0)], ?_⟩
  rw [if_pos (by simpa using h3)]
  exact ⟨_, Prod.ext rfl h4, by rw [q5, if_pos rfl]⟩
theorem zq : ∀ (l : List (BS × BS)) (a : AcE), (QA a l).1.addr = a.addr
 | [], _ => rfl
 | x :: l, a => by
  unfold QA
  have e : (Wb a x.1 x.2).1.addr = a.addr := by unfold Wb; (repeat' split) <;> rfl
  split
  ·exact e
  ·rw [zq l, e]
theorem Jfy {f : Int} {r : Rec} (w : Int) (a : AcE) : (XN f w a r).1.addr = a.addr := by
 unfold XN; split
 ·rfl
 ·rw [zq]
theorem Jh5 {f : Int} {r : Rec} (h : V3 f r = 0) : KA f ∧ we f r = true := by
 unfold V3 at h
 split at h
 ·cases h
 ·rename_i h1
  split at h
  ·rename_i h2; exact ⟨Decidable.not_not.1 h1, h2⟩
  ·cases h
theorem Jty {f : Int} {r : Rec} (h1 : KA f) (h2 : we f r = true) : V3 f r = 0 := by
 unfold V3; rw [if_neg (by simpa using h1), if_pos h2]
structure Wrote (f : Int) (s t : List AcE) (r : Rec) : Prop where
  forked : KA f
  fits : we f r = true
  old : KR s = 0
  new : KR t = 0
  acct : ∃ b0, Kj t A0 = some b0 ∧ Wj b0 = 0 ∧ b0.addr = A0 ∧ b0.nonce = (QQ s 0).nonce ∧ b0.bal = (QQ s 0).bal ∧ b0.code = (KE f 0).1 ∧ (∀ i ∈ tab, KM b0 (Wc (VM i)) = (YI f r i).2) ∧ ∀ k, ¬ wj k → KM b0 k = KM (QQ s 0) k
  others : ∀ k, k ≠ A0 → k ≠ A1 → Kj t k = Kj s k
  fee : if (KE f 1).2 = true then Kj t A1 = some { QQ s 1 with code := (KE f 1).1 } else Kj t A1 = Kj s A1
theorem qD {f : Int} {s t : List AcE} {r : Rec} (h : KX f s r = (t, 0)) : Wrote f s t r := by
 unfold KX at h
 split at h
 ·rename_i h1; exact absurd (Prod.mk.inj h).2 h1
 rename_i h1
 split at h
 ·rename_i h2; exact absurd (Prod.mk.inj h).2 h2
 rename_i h2
 have h2 := Decidable.not_not.1 h2
 obtain ⟨g1, g2⟩ := Jh5 (Decidable.not_not.1 h1)
 obtain ⟨b0, c1, c2, c3, c4, c5⟩ := Jla h h2 (Jw8 f) fun w a _ => Jfy w a
 refine ⟨g1, g2, h2, c2, ⟨b0, c3, ?_⟩, c4, ?_⟩
 ·unfold XN at c1
  rw [if_neg (by decide)] at c1
  have hl := Jyf h2 (w := 0) rfl (Jc5 f 0)
  have hr := Jh4 (l := wi f r) (a := { QQ s 0 with code := (KE f 0).1 }) (by rw [c1]) hl (Jtx f r)
  rw [c1] at hr
  obtain ⟨r1, r2, r3, r4, r5, r6, r7⟩ := hr
  exact ⟨r1, r2, r3, r4, r5, fun i hi => r6 (YI f r i) (List.mem_map.2 ⟨i, hi, rfl⟩), fun k hk => r7 k (Jk8 hk)⟩
 ·split
  ·rename_i hf
   rw [if_pos hf] at c5
   obtain ⟨b1, e1, e2⟩ := c5
   unfold XN at e1
   rw [if_pos rfl] at e1
   rw [e2, ← (Prod.mk.inj e1).1]
  ·rename_i hf
   rw [if_neg hf] at c5
   exact c5
def Vq (s : List AcE) (k : BS) : AcE := (Kj s k).getD ac0
theorem wk {f : Int} {g g' : Nat → W4} : ∀ {l : List Nat} {out : Rec}, (∀ i ∈ l, YH f i = true → g i = g' i) → WI f g l out = WI f g' l out
 | [], _, _ => rfl
 | i :: l, out, h => by
  unfold WI
  have e : (if YH f i then ZC out (g i) i else out) = if YH f i then ZC out (g' i) i else out := by
   by_cases hi : YH f i = true
   ·rw [if_pos hi, if_pos hi, h i List.mem_cons_self hi]
   ·rw [if_neg hi, if_neg hi]
  rw [e]
  exact wk fun j hj => h j (List.mem_cons_of_mem _ hj)
theorem Jlb {f : Int} {a : AcE} {r : Rec} (hf : KA f) (hr : r.ok) (hb : we f r = true) (h : ∀ i ∈ tab, KM a (Wc (VM i)) = (YI f r i).2) : VN f a = r := by
 have e : VN f a = qB f r := wk fun i hi hh => by
  rw [h i hi]
  unfold YI
  simp only
  rw [if_pos hh]
  exact Jx8 (wd hr i)
 rw [e]
 exact (wg hf).2 hb
structure Checked (f : Int) (s : List AcE) (a : AcE) : Prop where
  forked : KA f
  st : KR s = 0
  at0 : Kj s A0 = some a
  code : a.code = (KE f 0).1
  rows : ∀ i ∈ tab, KM a (Wc (VM i)) = (YI f (VN f a) i).2
  fee : (KE f 1).2 = true → ∃ b, Kj s A1 = some b ∧ b.code = (KE f 1).1
theorem YJ {f : Int} {s : List AcE} : Qi f s = 0 ↔ ∃ a, Checked f s a := by
 unfold Qi
 constructor
 ·intro h
  split at h
  ·cases h
  rename_i h1
  split at h
  ·rename_i h2; exact absurd h h2
  rename_i h2
  split at h
  ·cases h
  rename_i h3
  split at h
  ·cases h
  rename_i h4
  split at h
  ·rename_i h5
   simp only [VS, QO, Jw8, Bool.true_and, Bool.or_eq_true, not_or, Bool.not_eq_true, Bool.and_eq_false_iff, decide_eq_false_iff_not, Decidable.not_not] at h3 h4
   have ha : ∃ a, Kj s A0 = some a := by
    have := h3.1
    cases hx : Kj s (Qn 0) with
    | none => rw [hx] at this; cases this
    | some a => exact ⟨a, hx⟩
   obtain ⟨a, ha⟩ := ha
   have e : (Kj s A0).getD ac0 = a := by rw [ha]; rfl
   rw [e] at h5
   refine ⟨a, Decidable.not_not.1 h1, Decidable.not_not.1 h2, ha, ?_, XY.1 h5, fun hf => ?_⟩
   ·have := h4.1
    rw [show Qn 0 = A0 from rfl, e] at this
    exact this
   ·rcases h3.2 with h | h
    ·rw [hf] at h; cases h
    rcases h4.2 with h' | h'
    ·rw [hf] at h'; cases h'
    cases hx : Kj s (Qn 1) with
    | none => rw [hx] at h; cases h
    | some b => rw [hx] at h'; exact ⟨b, hx, h'⟩
  ·cases h
 ·rintro ⟨a, h1, h2, h3, h4, h5, h6⟩
  have h3' : Kj s (Qn 0) = some a := h3
  have e : (Kj s A0).getD ac0 = a := by rw [h3]; rfl
  have hl : (VS f s 0 || VS f s 1) = false := by
   unfold VS
   rw [h3']
   cases hc : (KE f 1).2
   ·simp
   ·obtain ⟨b, hb, _⟩ := h6 hc
    rw [show Qn 1 = A1 from rfl, hb]; simp
  have hw : (QO f s 0 || QO f s 1) = false := by
   unfold QO
   rw [h3']
   cases hc : (KE f 1).2
   ·simp [h4]
   ·obtain ⟨b, hb, hb2⟩ := h6 hc
    rw [show Qn 1 = A1 from rfl, hb]; simp [h4, hb2]
  rw [if_neg (by simpa using h1), if_neg (by simpa using h2), hl, hw, e, if_pos (XY.2 h5)]
  simp
theorem Checked.read {f : Int} {s : List AcE} {a : AcE} (h : Checked f s a) : VG f s = (VN f a, 0) := by
 unfold VG
 rw [if_neg (by rw [YJ.2 ⟨a, h⟩]; simp), h.at0]; rfl
theorem Jc8 {f : Int} {s : List AcE} (h : Qi f s ≠ 0) : VG f s = (rec0, Qi f s) := by unfold VG; rw [if_pos h]
theorem Wrote.checked {f : Int} {s t : List AcE} {r : Rec} (h : Wrote f s t r) (hr : r.ok) : ∃ a, Checked f t a ∧ VN f a = r := by
 obtain ⟨h1, h2, h3, h4, ⟨b0, c1, c2, c3, c4, c5, c6, c7, c8⟩, h6, h7⟩ := h
 have e := Jlb h1 hr h2 c7
 refine ⟨b0, ⟨h1, h4, c1, c6, by rw [e]; exact c7, fun hf => ?_⟩, e⟩
 rw [if_pos hf] at h7
 exact ⟨_, h7, rfl⟩
theorem back {f : Int} {s t : List AcE} {r : Rec} (hr : r.ok) (h : KX f s r = (t, 0)) : Qi f t = 0 ∧ VG f t = (r, 0) ∧ V3 f r = 0 := by
 have hw := qD h
 obtain ⟨a, ha, he⟩ := hw.checked hr
 exact ⟨YJ.2 ⟨a, ha⟩, by rw [ha.read, he], Jty hw.forked hw.fits⟩
theorem Checked.lk {f : Int} {s : List AcE} {a : AcE} (h : Checked f s a) : Wj a = 0 := (Ys h.st h.at0).2
theorem Checked.addr {f : Int} {s : List AcE} {a : AcE} (h : Checked f s a) : a.addr = A0 := (Ys h.st h.at0).1
theorem Checked.old {f : Int} {s : List AcE} {a : AcE} (h : Checked f s a) : QQ s 0 = a := Jog h.st h.at0
structure Kept (s t : List AcE) : Prop where
  others : ∀ k, k ≠ A0 → k ≠ A1 → Kj t k = Kj s k
  there : ∀ k, (Kj s k).isSome = true → (Kj t k).isSome = true
  nonce : ∀ k, (Vq t k).nonce = (Vq s k).nonce
  bal : ∀ k, (Vq t k).bal = (Vq s k).bal
  slot : ∀ k j, (k = A0 → ¬ wj j) → KM (Vq t k) j = KM (Vq s k) j
theorem Kept.refl (s : List AcE) : Kept s s := ⟨fun _ _ _ => rfl, fun _ h => h, fun _ => rfl, fun _ => rfl, fun _ _ _ => rfl⟩
theorem Kept.trans {s t u : List AcE} (h : Kept s t) (k : Kept t u) : Kept s u :=
 ⟨fun x a b => (k.others x a b).trans (h.others x a b), fun x hx => k.there x (h.there x hx), fun x => (k.nonce x).trans (h.nonce x), fun x => (k.bal x).trans (h.bal x), fun x j hj => (k.slot x j hj).trans (h.slot x j hj)⟩
theorem Wrote.kept {f : Int} {s t : List AcE} {r : Rec} (W : Wrote f s t r) : Kept s t := by
 obtain ⟨b, b1, b2, b3, b4, b5, b6, b7, b8⟩ := W.acct
 have hf := W.fee
 have a0 : Vq t A0 = b := by unfold Vq; rw [b1]; rfl
 have hcase : ∀ k, k ≠ A0 → Kj t k = Kj s k ∨ (k = A1 ∧ Kj t A1 = some { QQ s 1 with code := (KE f 1).1 }) := fun k k0 => by
  by_cases k1 : k = A1
  ·subst k1
   split at hf
   ·exact .inr ⟨rfl, hf⟩
   ·exact .inl hf
  ·exact .inl (W.others k k0 k1)
 refine ⟨W.others, fun k h => ?_, fun k => ?_, fun k => ?_, fun k j hj => ?_⟩
 ·by_cases k0 : k = A0
  ·subst k0; rw [b1]; rfl
  ·rcases hcase k k0 with e | ⟨rfl, e⟩
   ·rw [e]; exact h
   ·rw [e]; rfl
 ·by_cases k0 : k = A0
  ·subst k0; rw [a0, b4]; rfl
  ·rcases hcase k k0 with e | ⟨rfl, e⟩
   ·unfold Vq; rw [e]
   ·unfold Vq; rw [e]; rfl
 ·by_cases k0 : k = A0
  ·subst k0; rw [a0, b5]; rfl
  ·rcases hcase k k0 with e | ⟨rfl, e⟩
   ·unfold Vq; rw [e]
   ·unfold Vq; rw [e]; rfl
 ·by_cases k0 : k = A0
  ·subst k0; rw [a0, b8 j (hj rfl)]; rfl
  ·rcases hcase k k0 with e | ⟨rfl, e⟩
   ·unfold Vq; rw [e]
   ·unfold Vq; rw [e]; rfl
def QT (f : Int) (r : Rec) : Rec := if f = 2 then { r with overhead := w40, extra := 0, blob := wN1 1 } else if f = 4 then { r with operator := 1 } else r
theorem vr {f : Int} {r : Rec} (h : r.ok) : (QT f r).ok := by
 obtain ⟨h1, h2, h3, h4, h5, h6, h7, h8⟩ := h
 have u1 : VK 1 := by unfold VK; decide
 unfold QT
 split
 ·exact ⟨h1, h2, h3, xU u1, w40_ok, h6, QP, h8⟩
 ·split
  ·exact ⟨h1, h2, h3, h4, h5, h6, h7, u1⟩
  ·exact ⟨h1, h2, h3, h4, h5, h6, h7, h8⟩
def Way (f g : Int) : Prop := 0 ≤ f ∧ f ≤ g ∧ g ≤ 5
instance (f g : Int) : Decidable (Way f g) := inferInstanceAs (Decidable (_ ∧ _))
def W9 : Nat → Int → Rec → Rec
 | 0, _, r => r
 | n + 1, f, r => W9 n (f + 1) (QT f r)
def Wd (f g : Int) (r : Rec) : Rec × Int := if ¬ Way f g then (rec0, 10) else if V3 f r ≠ 0 then (rec0, V3 f r) else (W9 (g - f).toNat f r, 0)
def Wy (f : Int) (s : List AcE) : List AcE × Int := if f < 0 ∨ f > 4 then (s, 10) else if (VG f s).2 ≠ 0 then (s, (VG f s).2) else KX (f + 1) s (QT f (VG f s).1)
def j7 (s0 : List AcE) : Nat → Int → List AcE → List AcE × Int
 | 0, _, t => (t, 0)
 | n + 1, f, t => if (Wy f t).2 ≠ 0 then (s0, (Wy f t).2) else j7 s0 n (f + 1) (Wy f t).1
def xX (f g : Int) (s : List AcE) : List AcE × Int := if ¬ Way f g then (s, 10) else if Qi f s ≠ 0 then (s, Qi f s) else j7 s (g - f).toNat f s
theorem Joh {f : Int} {s t : List AcE} (h : Wy f s = (t, 0)) : Qi f s = 0 ∧ Qi (f + 1) t = 0 ∧ VG (f + 1) t = (QT f (VG f s).1, 0) ∧ Kept s t := by
 unfold Wy at h
 split at h
 ·cases (Prod.mk.inj h).2
 split at h
 ·rename_i h1; exact absurd (Prod.mk.inj h).2 h1
 rename_i h1
 have hc : Qi f s = 0 := by
  by_cases hc : Qi f s = 0
  ·exact hc
  ·rw [Jc8 hc] at h1; exact absurd (Decidable.not_not.1 h1) hc
 obtain ⟨a, ha⟩ := YJ.1 hc
 have hr : (VG f s).1.ok := by rw [ha.read]; exact xV f a
 obtain ⟨b1, b2, _⟩ := back (vr hr) h
 exact ⟨hc, b1, b2, (qD h).kept⟩
theorem Jtz {f g : Int} {s t : List AcE} (h : xX f g s = (t, 0)) : Way f g ∧ Qi f s = 0 ∧ j7 s (g - f).toNat f s = (t, 0) := by
 unfold xX at h
 split at h
 ·cases (Prod.mk.inj h).2
 rename_i h1
 split at h
 ·rename_i h2; exact absurd (Prod.mk.inj h).2 h2
 rename_i h2
 exact ⟨Decidable.not_not.1 h1, Decidable.not_not.1 h2, h⟩
def plS (sz a : Nat) : Pl → Pl
 | none => none
 | some (⟨b, o, s⟩, cap) => some (⟨b, if cap = a then o else o + a * sz, s⟩, cap - a)
theorem Seg.slice {R : Jm} {n sz a b : Nat} {cs : List Value} {p : Pl} (h : Seg R n cs p) (hl : cs.length = n * sz) (hab : a < b) (hb : b ≤ n) : Seg R (b - a) ((cs.drop (a * sz)).take ((b - a) * sz)) (plS sz a p) := by
 cases p with
 | none => have h : n = 0 := h; omega
 | some q =>
  obtain ⟨⟨r, o, s⟩, cap⟩ := q
  obtain ⟨h1, h2⟩ := h
  obtain ⟨h3, all, e, fr, h4, h5⟩ := h2 (by omega)
  have hne : ¬ cap = a := by omega
  simp only [plS, if_neg hne]
  have hlen : ((cs.drop (a * sz)).take ((b - a) * sz)).length = (b - a) * sz := by
   rw [List.length_take, List.length_drop, hl, ← Nat.sub_mul]
   exact Nat.min_eq_left (Nat.mul_le_mul_right _ (by omega))
  refine ⟨by omega, fun _ => ⟨h3, all, e, fr, h4, ?_⟩⟩
  rw [hlen]
  exact Jcn h5 rfl hlen
section
variable {c : Cx} {l : Kv} {L : Jm} {X : XP} {Q : Exit → Act → World → Prop} {d : List Deferred}
variable {ops : Array Oper} {rest : List Oper} {i : Nat} {v : Value} {t : TypeId} {ps : String} {af : Array Edge} {gd : Option (Nat × Bool)} {ty t2 : TypeId}
theorem Jlc {x lo hi : Operand} {p : Pl} {R : Jm} {cs : List Value} {n e sz a b : Nat} {ka kb : IntKind} {za zb : Int} (hx : JZ l x = some (KP n p)) (hs : Seg R n cs p) (hlo : JZ l lo = some (.int ka za)) (hhi : JZ l hi = some (.int kb zb)) (ea : za = (a : Int)) (eb : zb = (b : Int)) (ht : Kk c.P t = some e) (hz : KN c.P e = some sz) (hab : a < b) (hb : b ≤ n) {m : Nat} (hm : b - a = m) :
  J6 c d l L X ⟨some i, .slice t x (some lo) (some hi) none, ty, ps, af, gd⟩ (KP m (plS sz a p)) := by
 subst ea eb hm
 cases p with
 | none => have h : n = 0 := hs; omega
 | some q =>
  obtain ⟨⟨r, o, s⟩, cap⟩ := q
  obtain ⟨h1, h2⟩ := hs
  have h3 : s = none := (h2 (by omega)).1
  subst h3
  exact JO (kl := some a) (kh := some b) (km := none) hx ht hz ⟨_, hlo⟩ ⟨_, hhi⟩ trivial rfl rfl rfl (by omega) (by show b ≤ cap; omega) (Nat.le_refl _) (fun h => by cases h) rfl
theorem Jh6 {x y : Operand} {a b : List UInt8} (hx : JZ l x = some (.string (bs a))) (hy : JZ l y = some (.string (bs b))) :
  J6 c d l L X ⟨some i, .binOp .geq t x y t2, ty, ps, af, gd⟩ (.bool (!Op.bytesLess a b)) := fun a' w hf _ => by
 simp only [execOp]
 rw [hf.eval hx, hf.eval hy]
 simp only [binOp, eqGuard, Op.stringOp, Sem.run_bind, VX]
 rfl
theorem Jt0 {x y : Operand} {a b : List UInt8} (hx : JZ l x = some (.string (bs a))) (hy : JZ l y = some (.string (bs b))) :
  J6 c d l L X ⟨some i, .binOp .gtr t x y t2, ty, ps, af, gd⟩ (.bool (Op.bytesLess b a)) := fun a' w hf _ => by
 simp only [execOp]
 rw [hf.eval hx, hf.eval hy]
 have e : (!(Op.bytesLess a b || decide (a = b))) = Op.bytesLess b a := by
  rcases W7 a b with h | h | h
  ·subst h; rw [Vu]; simp
  ·rw [h, WQ h]; simp
  ·rw [h, WQ h]; simp [(Y5 h).symm]
 rw [← e]
 have e2 : (a == b) = decide (a = b) := by by_cases h : a = b <;> simp [h]
 rw [← e2]
 simp only [binOp, eqGuard, Op.stringOp, Sem.run_bind, VX]
 rfl
theorem Jfz {x y : Operand} {e sz n cap : Nat} {a : Option Addr} {r2 : Option Addr} {c2 : Nat} (hg : Kg l ops ⟨some i, .call ⟨.builtin .append, #[x, y], #[t, t]⟩, ty, ps, af, gd⟩ = some true) (hi : Nat.ble (i + 1) c.n = true)
  (hx : JZ l x = some (.slice a n cap)) (hy : JZ l y = some (.slice r2 0 c2)) (ht : Kk c.P t = some e) (hs : KN c.P e = some sz) (hle : n ≤ cap)
  (h : HL c d ((i, .slice a n cap) :: l) L X ops rest Q) : HL c d l L X ops (⟨some i, .call ⟨.builtin .append, #[x, y], #[t, t]⟩, ty, ps, af, gd⟩ :: rest) Q := by
 obtain ⟨inf, hinf, hs'⟩ : ∃ inf, c.P.info? e = some inf ∧ inf.size = sz := by
  unfold KN at hs
  cases hq : c.P.info? e with
  | none => simp [hq] at hs
  | some inf => simp only [hq, Option.some.injEq] at hs; exact ⟨inf, rfl, hs⟩
 refine ZY hg rfl rfl hi (fun a' w hf _ => ?_) h
 have ex := hf.eval hx
 have ey := hf.eval hy
 have hl : ∀ (q : Addr), (loadCells q 0).run c.P w = .ok #[] w := fun q => by simpa using run_loadCells_list (P := c.P) w q [] (by simp)
 cases r2 <;> cases a <;> simp [execOp, resolve, Sem.run_bind, ex, ey, Result.andThen, invoke, builtin, Builtin.append_, KD (JX ht), sizeOf, typeInfo, hinf, Builtin.lenOf, hle, Builtin.firstCells, hl, storeCells]
theorem Jh7 {x : Operand} {p : Option Addr} {n cap : Nat} {e : TypeId} (hx : JZ l x = some (.slice p n cap)) (ht : Kk c.P t = some e) :
  J6 c d l L X ⟨some i, .call ⟨.builtin .cap, #[x], #[t]⟩, ty, ps, af, gd⟩ (.int .i64 cap) := fun a w hf _ => by
 have ex := hf.eval hx
 simp [execOp, resolve, Sem.run_bind, ex, Result.andThen, invoke, builtin, Builtin.cap_, KD (JX ht), goInt]
theorem qE {x y f : Operand} {e sz k r1 r2 o1 o2 n1 c1 n2 c2 : Nat} {fn : Func} {g : FuncId} {at_ : Array TypeId} {cs1 cs2 : Array Value} {e1 e2 tR : TypeId}
  (hf : JZ l f = some (.func (.func g) #[] #[])) (hx : JZ l x = some (.slice (some ⟨r1, o1, none⟩) n1 c1)) (hy : JZ l y = some (.slice (some ⟨r2, o2, none⟩) n2 c2)) (hk1 : (r1, Obj.cells cs1 e1 (0, 0)) ∈ c.R) (hk2 : L[k]? = some (r2, .cells cs2 e2 (0, 0)))
  (ht : Kk c.P t = some e) (hs : KN c.P e = some sz) (h0 : 0 < cs2.size) (hF : c.P.funcs[g]? = some fn) (hn1 : (fn.name == "runtime.NumGoroutine") = false) (hb : fn.body.isNone = true) (hn2 : Extern.findNext fn = none) (he : Extern.find fn = some (Extern.SlicesOverlaps.overlaps #[t, t] #[tR])) :
  J6 c d l L X ⟨some i, .call ⟨.value f, #[x, y], at_⟩, ty, ps, af, gd⟩ (.bool false) := fun a w hfr hst =>
 Jfu hf hx hy (hst.apart hk2 _ hk1) (Or.inr hk1) (vd hk2) ht hs h0 hF hn1 hb hn2 he a w hfr hst
theorem Xn {e sz : Nat} (hg : Kg l ops ⟨some i, .buildSlice t 0 #[], ty, ps, af, gd⟩ = some true) (hi : Nat.ble (i + 1) c.n = true) (ht : Kk c.P t = some e) (hs : KN c.P e = some sz)
  (h : ∀ q, HL c d ((i, .slice (some ⟨q, 0, none⟩) 0 0) :: l) ((q, .cells #[] e (0, 0)) :: L) X ops rest Q) : HL c d l L X ops (⟨some i, .buildSlice t 0 #[], ty, ps, af, gd⟩ :: rest) Q := by
 refine V6 (V := fun q => .slice (some ⟨q, 0, none⟩) 0 0) (L' := fun q => (q, .cells #[] e (0, 0)) :: L) (X' := fun _ => X) hg rfl rfl hi (fun a w hfr hst => ⟨w.heap.size, w.alloc (.cells #[] e), ?_, hst.alloc _⟩) h
 simp [execOp, Instr.buildSlice, Sem.run_bind, KD (JX ht), QS hs, Result.andThen, Instr.fill, newRow]
 rw [show Array.range 0 = (#[] : Array Nat) from by decide]
 simp
theorem wl {x y : Operand} {k r e sz b n : Nat} {z : Value} {q : Addr × Nat} {cs : List Value} {R L0 : Jm}
  (hg : Kg l ops ⟨some i, .call ⟨.builtin .append, #[x, y], #[t, t]⟩, ty, ps, af, gd⟩ = some true) (hi : Nat.ble (i + 1) c.n = true) (hx : JZ l x = some (.slice (some ⟨r, 0, none⟩) 0 0)) (hk : L[k]? = some (r, .cells #[] e (0, 0))) (hL : L.eraseIdx k = L0)
  (hy : JZ l y = some (KP n (some q))) (hs : Seg R n cs (some q)) (hR : ∀ q ∈ R, known c L q.1 q.2) (ht : Kk c.P t = some e) (hz : Qu c.P e = some z) (hsz : KN c.P e = some sz) (hb : Jb1 c.P e = some b) (hzs : z.cells.size = sz) (h0 : 0 < sz)
  (hcs : cs.length = n * sz) (hone : cs.all Q6 = true) (h63 : n ≤ 9223372036854775807) (h47 : n * b ≤ 140737488355328)
  (h : ∀ row, rowOk sz n cs row → HL c d ((i, JE n row) :: l) (JR e cs row ++ L0) X ops rest Q) : HL c d l L X ops (⟨some i, .call ⟨.builtin .append, #[x, y], #[t, t]⟩, ty, ps, af, gd⟩ :: rest) Q := by
 obtain ⟨⟨r2, o2, s2⟩, cap⟩ := q
 obtain ⟨hs1, hs2⟩ := hs
 by_cases hn : n = 0
 ·subst hn
  have hc0 : cs = [] := List.length_eq_zero_iff.1 (by rw [hcs, Nat.zero_mul])
  subst hc0
  refine Jfz hg hi hx hy ht hsz (Nat.le_refl _) ?_
  refine JY ?_ (h (some (r, 0, [])) ⟨by simp, by simp⟩)
  have h1 := (List.getElem?_eq_some_iff.1 hk)
  have := jh h1.1 (r, Obj.cells #[] e (0, 0))
  rw [hL, ← h1.2, List.set_getElem_self, h1.2] at this
  exact this
 ·obtain ⟨h3, all, e', fr, h4, h5⟩ := hs2 (by omega)
  have h3 : s2 = none := h3
  subst h3
  rw [hcs] at h5
  refine VU hg hi hx hy (hR _ h4) ht hz hsz hb hzs h0 h5 hcs hone (by omega) (SlOwn.own (n := 0) (cap := 0) (xs := []) hk (by simp) (by simp) (by simp) hL) (by omega) (by rw [Nat.zero_add]; exact h47) fun r' cap' spare hsp => ?_
  have := h (some (r', cap', spare)) ⟨hcs, by rw [Nat.zero_add] at hsp; exact hsp⟩
  simpa [JE, JR] using this
end
def Yu {α : Type} (pr : α → Bool) (xs : List α) : Int := match xs.findIdx? pr with
 | some i => (i : Int)
 | none => -1
theorem Jc9 {α : Type} {pr : α → Bool} {xs : List α} (h : ∀ (j : Nat) x, xs[j]? = some x → pr x = false) : Yu pr xs = -1 := by
 unfold Yu
 have : xs.findIdx? pr = none := by
  rw [List.findIdx?_eq_none_iff]
  intro x hx
  obtain ⟨j, hj, rfl⟩ := List.mem_iff_getElem.1 hx
  simpa using h j _ (List.getElem?_eq_getElem hj)
 rw [this]
theorem Jda {α : Type} {pr : α → Bool} {xs : List α} {i : Nat} {x : α} (hx : xs[i]? = some x) (hp : pr x = true) (h : ∀ j, j < i → ∀ y, xs[j]? = some y → pr y = false) : Yu pr xs = (i : Int) := by
 unfold Yu
 obtain ⟨h1, h2⟩ := List.getElem?_eq_some_iff.1 hx
 have : xs.findIdx? pr = some i := by
  rw [List.findIdx?_eq_some_iff_getElem]
  exact ⟨h1, by rw [h2]; exact hp, fun j hj => by simpa using h j hj _ (List.getElem?_eq_getElem (by omega))⟩
 rw [this]
theorem Jt1 {α : Type} {pr : α → Bool} {xs : List α} : decide (Yu pr xs ≥ 0) = xs.any pr := by
 unfold Yu
 cases h : xs.findIdx? pr with
 | none =>
  rw [List.findIdx?_eq_none_iff] at h
  have : xs.any pr = false := by rw [List.any_eq_false]; intro x hx; simpa using h x hx
  rw [this]; rfl
 | some i =>
  rw [List.findIdx?_eq_some_iff_getElem] at h
  obtain ⟨h1, h2, _⟩ := h
  have : xs.any pr = true := List.any_eq_true.2 ⟨xs[i], List.getElem_mem _, h2⟩
  rw [this]; simp
theorem wm {α : Type} {pr : α → Bool} {xs : List α} : (Yu pr xs < 0 ∧ xs.find? pr = none) ∨ ∃ (i : Nat) (x : α), Yu pr xs = (i : Int) ∧ xs[i]? = some x ∧ xs.find? pr = some x := by
 unfold Yu
 cases h : xs.findIdx? pr with
 | none =>
  rw [List.findIdx?_eq_none_iff] at h
  exact .inl ⟨by simp, by rw [List.find?_eq_none]; intro x hx; simpa using h x hx⟩
 | some i =>
  rw [List.findIdx?_eq_some_iff_getElem] at h
  obtain ⟨h1, h2, h3⟩ := h
  refine .inr ⟨i, xs[i], rfl, List.getElem?_eq_getElem h1, ?_⟩
  rw [List.find?_eq_some_iff_getElem]
  exact ⟨h2, i, h1, rfl, fun j hj => by simpa using h3 j hj⟩
theorem Jh8 {α : Type} {pr : α → Bool} {xs : List α} (h : 0 ≤ Yu pr xs) : ∃ (i : Nat) (x : α), Yu pr xs = (i : Int) ∧ xs[i]? = some x ∧ xs.find? pr = some x := by
 rcases wm (pr := pr) (xs := xs) with ⟨h1, _⟩ | h1
 ·omega
 ·exact h1
theorem wn {α : Type} {pr : α → Bool} {xs : List α} (h : Yu pr xs < 0) : xs.find? pr = none := by
 rcases wm (pr := pr) (xs := xs) with ⟨_, h1⟩ | ⟨i, x, h1, _⟩
 ·exact h1
 ·omega
section
variable {α : Type} {kf : α → BS}
def XZ (a b : BS) : Int := if Op.bytesLess a b then -1 else if Op.bytesLess b a then 1 else 0
theorem vt (a b : BS) : decide (XZ a b < 0) = Op.bytesLess a b := by
 unfold XZ
 cases Op.bytesLess a b
 ·cases Op.bytesLess b a <;> rfl
 ·rfl
theorem Jdb (a b : BS) : (XZ a b == 0) = decide (a = b) := by
 unfold XZ
 rcases W7 a b with h | h | h
 ·subst h; rw [Vu]; simp
 ·rw [h]; simp [Y5 h]
 ·rw [h, WQ h]; simp [(Y5 h).symm]
def ZU (kf : α → BS) (k : BS) (xs : List α) : Nat := (xs.takeWhile fun x => Op.bytesLess (kf x) k).length
def VB (kf : α → BS) (k : BS) (xs : List α) : Bool := match xs[ZU kf k xs]? with
 | some x => decide (kf x = k)
 | none => false
theorem Joi (k : BS) (xs : List α) : ZU kf k xs ≤ xs.length := by
 unfold ZU
 have := (List.takeWhile_prefix (p := fun x => Op.bytesLess (kf x) k) (l := xs)).length_le
 exact this
theorem Joj {k : BS} : ∀ {xs : List α} {i : Nat}, i ≤ xs.length → (∀ q y, q < i → xs[q]? = some y → Op.bytesLess (kf y) k = true) → (∀ y, xs[i]? = some y → Op.bytesLess (kf y) k = false) → i = ZU kf k xs
 | [], i, h, _, _ => by simp [ZU] at h ⊢; exact h
 | x :: xs, 0, _, _, h2 => by
  have := h2 x rfl
  simp [ZU, List.takeWhile_cons, this]
 | x :: xs, i + 1, h, h1, h2 => by
  have h0 := h1 0 x (by omega) rfl
  have := Joj (xs := xs) (i := i) (by simpa using h) (fun q y hq hy => h1 (q + 1) y (by omega) hy) (fun y hy => h2 y hy)
  unfold ZU at this ⊢
  rw [List.takeWhile_cons, h0]
  simp only [if_true, List.length_cons]
  omega
theorem Jw9 {k : BS} : ∀ {xs : List α} {q : Nat} {y : α}, q < ZU kf k xs → xs[q]? = some y → Op.bytesLess (kf y) k = true
  | [], q, y, h, _ => by simp [ZU] at h
  | x :: xs, q, y, h, hy => by
    unfold ZU at h
    rw [List.takeWhile_cons] at h
    split at h
    · rename_i hx
      cases q with
      | zero => obtain rfl : x = y := by simpa using hy
                exact hx
      | succ q => exact Jw9 (xs := xs) (q := q) (by simpa [ZU] using h) (by simpa using hy)
    · simp at h
theorem Jxa {k : BS} : ∀ {xs : List α} {q : Nat} {y : α}, Kx kf xs → ZU kf k xs ≤ q → xs[q]? = some y → Op.bytesLess (kf y) k = false
  | [], q, y, _, _, hy => by simp at hy
  | x :: xs, q, y, hs, h, hy => by
    obtain ⟨s1, s2⟩ := List.pairwise_cons.1 hs
    unfold ZU at h
    rw [List.takeWhile_cons] at h
    split at h
    · cases q with
      | zero => simp at h
      | succ q => exact Jxa (xs := xs) (q := q) s2 (by simpa [ZU] using h) (by simpa using hy)
    · rename_i hx
      have hx : Op.bytesLess (kf x) k = false := by simpa using hx
      cases q with
      | zero => obtain rfl : x = y := by simpa using hy
                exact hx
      | succ q =>
        have hm : y ∈ xs := List.mem_of_getElem? (by simpa using hy)
        cases hyk : Op.bytesLess (kf y) k
        · rfl
        · rw [Qt (s1 y hm) hyk] at hx; cases hx
theorem Jdc {k : BS} {xs : List α} (hs : Kx kf xs) {h : Nat} {x : α} (hx : xs[h]? = some x) (hb : Op.bytesLess (kf x) k = true) : ∀ q y, q < h + 1 → xs[q]? = some y → Op.bytesLess (kf y) k = true := fun q y hq hy => by
 rcases Nat.lt_succ_iff_lt_or_eq.1 hq with hq | rfl
 ·have hp := List.pairwise_iff_getElem.1 hs q h (List.getElem?_eq_some_iff.1 hy).1 (List.getElem?_eq_some_iff.1 hx).1 hq
  rw [(List.getElem?_eq_some_iff.1 hy).2, (List.getElem?_eq_some_iff.1 hx).2] at hp
  exact Qt hp hb
 ·rw [hx] at hy; cases hy; exact hb
theorem Jdd {k : BS} {xs : List α} (hs : Kx kf xs) {h : Nat} {x : α} (hx : xs[h]? = some x) (hb : Op.bytesLess (kf x) k = false) : ∀ q y, h ≤ q → xs[q]? = some y → Op.bytesLess (kf y) k = false := fun q y hq hy => by
 rcases Nat.lt_or_eq_of_le hq with hq | rfl
 ·have hp := List.pairwise_iff_getElem.1 hs h q (List.getElem?_eq_some_iff.1 hx).1 (List.getElem?_eq_some_iff.1 hy).1 hq
  rw [(List.getElem?_eq_some_iff.1 hy).2, (List.getElem?_eq_some_iff.1 hx).2] at hp
  cases hyk : Op.bytesLess (kf y) k
  ·rfl
  ·rw [Qt hp hyk] at hb; cases hb
 ·rw [hx] at hy; cases hy; exact hb
theorem Jde {k : BS} {xs : List α} {x : α} (h : xs[ZU kf k xs]? = some x) : VB kf k xs = decide (kf x = k) := by unfold VB; rw [h]
theorem ql {k : BS} {xs : List α} (h : xs.length ≤ ZU kf k xs) : VB kf k xs = false := by unfold VB; rw [List.getElem?_eq_none h]
theorem Jok {x : α} {xs : List α} (hs : Kx kf xs) : Qg kf x xs = if VB kf (kf x) xs = true then xs.set (ZU kf (kf x) xs) x else xs.take (ZU kf (kf x) xs) ++ x :: xs.drop (ZU kf (kf x) xs) := by
 obtain ⟨i, hi⟩ : ∃ i, i = ZU kf (kf x) xs := ⟨_, rfl⟩
 have hle : i ≤ xs.length := hi ▸ Joi _ _
 have h := Joa (kf := kf) (x := x) (p := xs.take i) (q := xs.drop i) (fun y hy => by
  obtain ⟨j, e⟩ := List.mem_iff_getElem?.1 hy
  have hj := (List.getElem?_eq_some_iff.1 e).1
  rw [List.length_take] at hj
  rw [List.getElem?_take, if_pos (by omega)] at e
  exact Jw9 (by omega) e) (fun y hy => by
  obtain ⟨j, e⟩ := List.mem_iff_getElem?.1 hy
  rw [List.getElem?_drop] at e
  exact Jxa hs (by omega) e)
 rw [List.take_append_drop] at h
 rw [h]
 unfold VB
 rw [← hi]
 by_cases hlt : i < xs.length
 ·rw [List.getElem?_eq_getElem hlt, List.drop_eq_getElem_cons hlt]
  simp only [decide_eq_true_eq]
  split
  ·rw [List.set_eq_take_append_cons_drop, if_pos hlt]
  ·rfl
 ·rw [List.getElem?_eq_none (by omega), List.drop_of_length_le (by omega)]
  simp
end
def fV (f : FuncId) : Value := .func (.func f) #[] #[]
theorem Zn {α : Type} {kf : α → BS} : ∀ {xs : List α}, (∀ (j : Nat) x y, xs[j]? = some x → xs[j + 1]? = some y → Op.bytesLess (kf x) (kf y) = true) → QN kf xs = true
 | [], _ => rfl
 | [_], _ => rfl
 | x :: y :: xs, h => by
  rw [QN, h 0 x y rfl rfl, Bool.true_and]
  exact Zn fun j u v hu hv => h (j + 1) u v (by simpa using hu) (by simpa using hv)
theorem j8 {α : Type} {kf : α → BS} : ∀ {xs : List α} {j : Nat} {x y : α}, xs[j]? = some x → xs[j + 1]? = some y → Op.bytesLess (kf x) (kf y) = false → QN kf xs = false
 | [], _, _, _, h, _, _ => by simp at h
 | [_], _, _, _, _, h, _ => by simp at h
 | a :: b :: xs, 0, x, y, hx, hy, h => by
  obtain rfl : a = x := by simpa using hx
  obtain rfl : b = y := by simpa using hy
  rw [QN, h, Bool.false_and]
 | a :: b :: xs, j + 1, x, y, hx, hy, h => by
  rw [QN, j8 (xs := b :: xs) (j := j) (by simpa using hx) (by simpa using hy) h, Bool.and_false]
theorem Yv {α : Type} {f : α → List Value} (h : ∀ x, (f x).all Q6 = true) : ∀ l : List α, (l.flatMap f).all Q6 = true
 | [] => rfl
 | x :: l => by rw [List.flatMap_cons, List.all_append, h, Yv h l]; rfl
theorem cut {l : List Value} {a : Nat} (h : a ≤ l.length) : ∃ x y, l = x ++ y ∧ x.length = a := ⟨l.take a, l.drop a, (List.take_append_drop ..).symm, by rw [List.length_take]; omega⟩
theorem Jdf {α : Type} {kf : α → BS} {k : BS} {xs : List α} (h : VB kf k xs = true) : ZU kf k xs < xs.length := by
 rcases Nat.lt_or_ge (ZU kf k xs) xs.length with h1 | h1
 ·exact h1
 ·rw [ql h1] at h; cases h
theorem row_some {sz n : Nat} {xs : List Value} {row : QV} (h : rowOk sz n xs row) (hn : 0 < n) : ∃ r cap sp, row = some (r, cap, sp) := by
 cases row with
 | none => have := h.1; omega
 | some q => obtain ⟨r, cap, sp⟩ := q; exact ⟨r, cap, sp, rfl⟩
theorem Xo {P M S V : List Value} {o n : Nat} (ho : P.length = o) (hn : M.length = n) : (P ++ (M ++ S)).take o ++ V ++ (P ++ (M ++ S)).drop (o + n) = P ++ (V ++ S) := by
 subst ho hn
 rw [List.take_left' rfl, ← List.drop_drop, List.drop_left' rfl, List.drop_left' rfl, List.append_assoc]
theorem xY {α : Type} {f : α → List Value} {m : Nat} (hf : ∀ x, (f x).length = m) {xs : List α} {j : Nat} (hj : j < xs.length) (y : α) (sp : List Value) :
  (xs.flatMap f ++ sp).take (j * m) ++ f y ++ (xs.flatMap f ++ sp).drop (j * m + m) = (xs.set j y).flatMap f ++ sp := by
 have e : xs = xs.take j ++ xs[j] :: xs.drop (j + 1) := by rw [← List.drop_eq_getElem_cons hj, List.take_append_drop]
 have e1 : xs.flatMap f ++ sp = (xs.take j).flatMap f ++ (f xs[j] ++ ((xs.drop (j + 1)).flatMap f ++ sp)) := by
  rw [show xs.flatMap f = (xs.take j ++ xs[j] :: xs.drop (j + 1)).flatMap f from congrArg (List.flatMap f) e, List.flatMap_append, List.flatMap_cons, List.append_assoc, List.append_assoc]
 have e2 : (xs.set j y).flatMap f ++ sp = (xs.take j).flatMap f ++ (f y ++ ((xs.drop (j + 1)).flatMap f ++ sp)) := by
  rw [List.set_eq_take_append_cons_drop, if_pos hj]
  simp [List.flatMap_append, List.flatMap_cons]
 rw [e1, e2]
 exact Xo (by rw [Ks hf, List.length_take]; congr 1; omega) (hf _)
theorem Pure.toR {P : Program} {f : FuncId} {args : Array Value} {v : Value} {R : Jm} (h : Pure P f args v) : PureR P f args v R := ⟨fun w _ => h.run w⟩
theorem Jld {α : Type} {f : α → List Value} {m : Nat} (hf : ∀ x, (f x).length = m) {xs : List α} {i : Nat} {x y : α} (hx : xs[i]? = some x) (hy : xs[i + 1]? = some y) : ((xs.flatMap f).drop (i * m)).take (2 * m) = [x, y].flatMap f := by
 have h1 := Wi hf hx
 have h2 := Wi hf hy
 rw [show 2 * m = m + m by omega, List.take_add, h1, List.drop_drop, show i * m + m = (i + 1) * m by rw [Nat.succ_mul], h2]
 simp
def Kt (s : StL) (k : BS) : AcL := (s.accts.find? fun a => decide (a.addr = k)).getD ac0L
def WA (s : StL) (k : BS) : Bool := (s.accts.find? fun a => decide (a.addr = k)).isSome
theorem Jdg {l : List AcL} {k : BS} : Q5 AcE.addr k (l.map AcL.er) = (l.find? fun a => decide (a.addr = k)).map AcL.er := by
 induction l with
 | nil => rfl
 | cons a l ih =>
  rw [List.map_cons, Kc, ih, List.find?_cons]
  by_cases h : a.addr = k
  ·rw [if_pos (show a.er.addr = k from h), decide_eq_true h]; rfl
  ·rw [if_neg (show ¬ a.er.addr = k from h), decide_eq_false h]
theorem Jol (s : StL) (k : BS) : WA s k = (Kj s.er k).isSome := by
 unfold WA Kj StL.er
 rw [Jdg]
 cases s.accts.find? fun a => decide (a.addr = k) <;> rfl
theorem j9 (s : StL) (k : BS) : (Kt s k).er = (Kj s.er k).getD ac0 := by
 unfold Kt Kj StL.er
 rw [Jdg]
 cases s.accts.find? fun a => decide (a.addr = k) <;> rfl
theorem jA {R : Jm} {s : StL} (h : s.In R) (k : BS) : (Kt s k).In R := by
 unfold Kt
 cases hx : s.accts.find? fun a => decide (a.addr = k) with
 | none => exact Jx6
 | some a => exact h.accts a (List.mem_of_find?_eq_some hx)
theorem Jdh {s : StL} {k : BS} {a : AcL} (h : (s.accts.find? fun a => decide (a.addr = k)) = some a) : Kt s k = a ∧ WA s k = true := by
 unfold Kt WA; rw [h]; exact ⟨rfl, rfl⟩
theorem zr {s : StL} {k : BS} (h : (s.accts.find? fun a => decide (a.addr = k)) = none) : Kt s k = ac0L ∧ WA s k = false := by
 unfold Kt WA; rw [h]; exact ⟨rfl, rfl⟩
theorem Jom {a : AcE} {k : BS} {x : BS × BS} (h : (a.slots.find? fun y => decide (y.1 = k)) = some x) : KM a k = x.2 := by
 unfold KM Q5
 rw [show (fun y : BS × BS => y.1 == k) = fun y => decide (y.1 = k) from funext fun y => by by_cases e : y.1 = k <;> simp [e], h]
theorem Jle {a : AcE} {k : BS} (h : (a.slots.find? fun y => decide (y.1 = k)) = none) : KM a k = Vc := by
 unfold KM Q5
 rw [show (fun y : BS × BS => y.1 == k) = fun y => decide (y.1 = k) from funext fun y => by by_cases e : y.1 = k <;> simp [e], h]
theorem Jf0 {α : Type} {kf : α → BS} (x y : α) : QN kf [x, y] = Op.bytesLess (kf x) (kf y) := by
 rw [QN, QN, Bool.and_true]
def Ya (l : List AcE) : Nat → Option BS
 | 0 => none
 | i + 1 => l[i]?.map AcE.addr
theorem Jt2 {l : List AcE} {i : Nat} {a : AcE} (h : l[i]? = some a) : goS (Ya l i) (l.drop i) = if VF (Ya l i) a ≠ 0 then VF (Ya l i) a else goS (Ya l (i + 1)) (l.drop (i + 1)) := by
 rw [ZB h, goS, show Ya l (i + 1) = some a.addr from by show Option.map AcE.addr l[i]? = _; rw [h]; rfl]
theorem Yw {s : StL} {i : Nat} {a : AcL} (h : s.accts[i]? = some a) : s.er[i]? = some a.er := by unfold StL.er; rw [List.getElem?_map, h]; rfl
theorem Seg.two {α : Type} {f : α → List Value} {m : Nat} (hf : ∀ x, (f x).length = m) {R : Jm} {xs : List α} {p : Pl} (h : Seg R xs.length (xs.flatMap f) p) {i j : Nat} {x y : α} (hx : xs[j]? = some x) (hy : xs[i]? = some y) (e : j + 1 = i) : Seg R [x, y].length ([x, y].flatMap f) (plS m j p) := by
 subst e
 have hlt := (List.getElem?_eq_some_iff.1 hy).1
 have h1 := h.slice (sz := m) (a := j) (b := j + 2) (Ks hf xs) (by omega) (by omega)
 rw [show j + 2 - j = 2 by omega, Jld hf hx hy] at h1
 exact h1
theorem Jt3 {last : Option BS} {a : AcE} {b : BS} (h : Wj a ≠ 2) (hl : last = some b) (hb : Op.bytesLess b a.addr = false) : VF last a = 11 := by unfold VF; rw [if_pos ⟨h, b, hl, hb⟩]
theorem Jt4 {last : Option BS} {a : AcE} (h : Wj a = 2 ∨ last = none ∨ ∃ b, last = some b ∧ Op.bytesLess b a.addr = true) : VF last a = Wj a := by
 unfold VF
 rw [if_neg]
 rintro ⟨h1, b, h2, h3⟩
 rcases h with h | h | ⟨c, h, h4⟩
 ·exact h1 h
 ·rw [h] at h2; cases h2
 ·rw [h] at h2; cases h2; rw [h3] at h4; cases h4
theorem Jt5 {s : StL} {i j : Nat} {x : AcL} (hx : s.accts[j]? = some x) (e : j + 1 = i) : Ya s.er i = some x.addr := by
 subst e; show Option.map AcE.addr s.er[j]? = _; rw [Yw hx]; rfl
theorem Jt6 (s : StL) : (32 < (s.accts.length : Int) → KR s.er = 5) ∧ (¬ 32 < (s.accts.length : Int) → KR s.er = goS none s.er) := by
 unfold KR
 rw [s.er_len]
 exact ⟨fun h => by rw [if_pos (by omega)], fun h => by rw [if_neg (by omega)]⟩
theorem PureR.mono {P : Program} {f : FuncId} {args : Array Value} {v : Value} {R R' : Jm} (h : PureR P f args v R) (hs : ∀ q ∈ R, q ∈ R') : PureR P f args v R' := ⟨fun w hw => h.run w fun p hp => hw p (hs p hp)⟩
def Vd : QV → Pl
 | none => none
 | some (r, cap, _) => some (⟨r, 0, none⟩, cap)
theorem Xp (n : Nat) (row : QV) (h : row = none → n = 0) : KP n (Vd row) = JE n row := by
 cases row with
 | none => rw [h rfl]; rfl
 | some q => rfl
theorem KJ {sz n e : Nat} {cs : List Value} {row : QV} (h : rowOk sz n cs row) (h0 : 0 < sz) : Seg (JR e cs row) n cs (Vd row) := by
 cases row with
 | none => exact h.1
 | some q =>
  obtain ⟨r, cap, sp⟩ := q
  obtain ⟨h1, h2⟩ := h
  exact ⟨Nat.le_of_mul_le_mul_right (by omega : n * sz ≤ cap * sz) h0, fun _ => ⟨rfl, _, e, (0, 0), List.mem_cons_self, by simp⟩⟩
theorem Jt7 {α : Type} {pr : α → Bool} {xs : List α} {i : Nat} (h : Yu pr xs = (i : Int)) : i < xs.length ∧ (xs.take (i + 1)).filter (fun x => !pr x) = xs.take i := by
 unfold Yu at h
 split at h
 ·rename_i j hj
  obtain rfl : j = i := by omega
  rw [List.findIdx?_eq_some_iff_getElem] at hj
  obtain ⟨h1, h2, h3⟩ := hj
  refine ⟨h1, ?_⟩
  rw [List.take_succ_eq_append_getElem h1, List.filter_append, List.filter_eq_self.2, List.filter_eq_nil_iff.2, List.append_nil]
  ·intro x hx
   rw [List.mem_singleton.1 hx]; simp [h2]
  ·intro x hx
   obtain ⟨q, hq, rfl⟩ := List.mem_iff_getElem.1 hx
   rw [List.getElem_take]
   simp only [List.length_take] at hq
   simpa using h3 q (by omega)
 ·omega
theorem Jt8 {α : Type} {pr : α → Bool} {xs : List α} (h : Yu pr xs < 0) : xs.filter (fun x => !pr x) = xs := by
 rw [List.filter_eq_self]
 intro x hx
 have := wn h
 rw [List.find?_eq_none] at this
 simpa using this x hx
theorem Yb {α : Type} {pr : α → Bool} {xs : List α} {j : Nat} {x : α} (hx : xs[j]? = some x) : (xs.take (j + 1)).filter pr = (xs.take j).filter pr ++ (if pr x then [x] else []) := by
 obtain ⟨h1, h2⟩ := List.getElem?_eq_some_iff.1 hx
 rw [List.take_succ_eq_append_getElem h1, List.filter_append, h2]
 congr 1
 by_cases h : pr x = true <;> simp [h]
theorem Jdi {α : Type} {f : α → List Value} {xs : List α} {j : Nat} {x : α} (hx : xs[j]? = some x) : (xs.drop j).flatMap f = f x ++ (xs.drop (j + 1)).flatMap f := by rw [ZB hx, List.flatMap_cons]
structure AcRes (R : Jm) (e : AcE × Int) : Type where
  a : AcL
  err : Int
  L : Jm
  ok : a.In (L ++ R)
  eq : (a.er, err) = e
structure StRes (R : Jm) (e : List AcE × Int) : Type where
  s : StL
  err : Int
  L : Jm
  ok : s.In (L ++ R)
  eq : (s.er, err) = e
def AcRes.val {R : Jm} {e : AcE × Int} (x : AcRes R e) : Value := .tuple #[x.a.val, .int .i64 x.err]
def StRes.val {R : Jm} {e : List AcE × Int} (x : StRes R e) : Value := .tuple #[x.s.val, .int .i64 x.err]
theorem YK (n : Nat) (row : QV) : Q6 (JE n row) = true := by cases row <;> rfl
theorem Jf1 {k v : BS} {l : List (BS × BS)} : (Qg Prod.fst (k, v) l).filter (fun x => !decide (x.1 = k)) = qg Prod.fst k l := by
 rw [← Jhz (kf := Prod.fst) (x := (k, v)) (l := l)]
 unfold qg
 refine List.filter_congr fun x _ => ?_
 by_cases h : x.1 = k <;> simp [h]
theorem Jf2 (a : AcL) : ∀ l : List AcL, (Qg AcL.addr a l).map AcL.er = Qg AcE.addr a.er (l.map AcL.er)
 | [] => rfl
 | x :: l => by
  rw [List.map_cons, Qg, Qg]
  show _ = if Op.bytesLess x.addr a.addr then _ else if x.addr = a.addr then _ else _
  split
  ·rw [List.map_cons, Jf2 a l]
  ·split <;> rfl
theorem Jlf (s : StL) : Kx AcL.addr s.accts ↔ Kx AcE.addr s.er := by
 unfold StL.er Kx
 rw [List.pairwise_map]
 exact Iff.rfl
theorem ZN {R L : Jm} {a : AcL} (ha : a.In R) {k v : BS} (hk : k.length = 32) (hv : v.length = 32) (hlen : (KI a.slots k v).length ≤ 9223372036854775807) {p : Pl} (hp : Seg L (KI a.slots k v).length (Jtt (KI a.slots k v)) p) : AcL.In (L ++ R) ⟨a.addr, a.nonce, a.bal, a.code, KI a.slots k v, p⟩ :=
 ⟨ha.addr, ha.nonce, ha.bal, ha.code, hlen, hp.mono fun q hq => List.mem_append_left _ hq, fun x hx => by
  rcases wh hx with ⟨rfl, _⟩ | hx
  ·exact ⟨by show k.length ≤ _; rw [hk]; decide, by show v.length ≤ _; rw [hv]; decide⟩
  ·exact ha.slots x hx⟩
inductive EqF (P : Program) (xs ys : List Value) : List Field → Bool → Prop
  | nil : EqF P xs ys [] true
  | scal {f : Field} {fs : List Field} {a b : Value} {r : Bool} (hn : (f.name == "_") = false) (he : VI P f.type = some false) (ga : WW xs f.offset = some a) (gb : WW ys f.offset = some b) (ha : Wq P f.type a = true) (hb : Wq P f.type b = true) (h : EqF P xs ys fs r) : EqF P xs ys (f :: fs) (eqS a b && r)
  | arr {f : Field} {fs : List Field} {n e : Nat} {va vb : List Value} {r : Bool} (hn : (f.name == "_") = false) (ht : qx P f.type = some (n, e)) (hz : KN P f.type = some n) (he : VI P e = some false) (hs : KN P e = some 1) (ga : (xs.drop f.offset).take n = va) (gb : (ys.drop f.offset).take n = vb) (hla : va.length = n) (hlb : vb.length = n)
      (h1 : va.all (Wq P e) = true) (h2 : vb.all (Wq P e) = true) (h : EqF P xs ys fs r) : EqF P xs ys (f :: fs) (Q0 va vb && r)
theorem zt {P : Program} {t n : Nat} {cs va : List Value} {off : Nat} {e m : Nat} (ht : qx P t = some (m, e)) (hz : KN P t = some n) (ga : (cs.drop off).take n = va) (hl : va.length = n) (w : World) : (part t cs.toArray off).run P w = .ok (.agg va.toArray) w := by
 have e1 : (cs.toArray.extract off (off + n)) = va.toArray := by
  apply Array.toList_inj.1
  rw [← ga, List.extract_toArray, List.extract_eq_take_drop, Nat.add_sub_cancel_left]
 unfold part
 simp only [Sem.run_bind, jc (show VI P t = some true from by unfold VI; rw [vf ht]), Result.andThen, QS hz, if_true, e1]
 rfl
theorem xZ {P : Program} {xs ys : List Value} {d : Nat} {w : World} : ∀ {fs : List Field} {b : Bool}, EqF P xs ys fs b → (Op.eqFields (d + 2) xs.toArray ys.toArray fs).run P w = .ok b w := by
 intro fs b h
 induction h with
 | nil => simp [Op.eqFields]
 | @scal f fs a b r hn he ga gb ha hb h ih =>
  have hn' : f.name ≠ "_" := by intro e; rw [e] at hn; simp at hn
  simp only [Op.eqFields, Sem.run_ite, if_pos hn', Sem.run_bind, Zd he (show xs.toArray[f.offset]? = some a from by rw [List.getElem?_toArray, ← W6]; exact ga), Zd he (show ys.toArray[f.offset]? = some b from by rw [List.getElem?_toArray, ← W6]; exact gb), Result.andThen, xx ha hb]
  cases hab : eqS a b
  ·simp
  ·simpa using ih
 | @arr f fs n e va vb r hn ht hz he hs ga gb hla hlb h1 h2 h ih =>
  have hn' : f.name ≠ "_" := by intro e; rw [e] at hn; simp at hn
  simp only [Op.eqFields, Sem.run_ite, if_pos hn', Sem.run_bind, zt ht hz ga hla, zt ht hz gb hlb, Result.andThen, yX ht he hs hla hlb h1 h2]
  cases hab : Q0 va vb
  ·simp
  ·simpa using ih
section
variable {c : Cx} {l : Kv} {L : Jm} {X : XP} {d : List Deferred}
variable {i : Nat} {t : TypeId} {ps : String} {af : Array Edge} {gd : Option (Nat × Bool)} {ty t2 : TypeId}
theorem Jh9 {x y : Operand} {xs ys : List Value} {b : Bool} (hx : JZ l x = some (.agg xs.toArray)) (hy : JZ l y = some (.agg ys.toArray)) (ht : c.P.underlying t = some (.struct (c.P.fieldsOf t))) (hp : c.P.stoodInHeld t = false) (hgt : c.P.eqGuardType c.P.depth t = false) (hE : EqF c.P xs ys (c.P.fieldsOf t).toList b) :
  J6 c d l L X ⟨some i, .binOp .neq t x y t2, ty, ps, af, gd⟩ (.bool (!b)) := fun a' w hf _ => by
 have hr := run_equalIn_struct (P := c.P) w 9999 t xs.toArray ys.toArray ht hp
 rw [xZ hE] at hr
 have h0 := run_neq_struct (P := c.P) w t xs.toArray ys.toArray
 rw [hr] at h0
 simp only [execOp]
 rw [hf.eval hx, hf.eval hy]
 simp only [Sem.run_bind, run_eqGuard_agg w .neq t x y _ _ hgt, Result.andThen, h0]
 rfl
end
theorem Jia (a b : BS) : eqS (J5 a) (J5 b) = decide (a = b) := xw a b
theorem Jt9 (x y : BS × BS) : (eqS (J5 x.1) (J5 y.1) && (eqS (J5 x.2) (J5 y.2) && true)) = decide (x = y) := by
 rw [Jia, Jia]
 obtain ⟨a, b⟩ := x
 obtain ⟨c, d⟩ := y
 by_cases h1 : a = c <;> by_cases h2 : b = d <;> simp [h1, h2]
theorem Jyg {α : Type} {xs ys : List α} {i : Nat} (hl : xs.length = ys.length) (hi : xs.length ≤ i) (h : ∀ j, j < i → xs[j]? = ys[j]?) : xs = ys := by
 apply List.ext_getElem?
 intro j
 by_cases hj : j < i
 ·exact h j hj
 ·rw [List.getElem?_eq_none (by omega), List.getElem?_eq_none (by omega)]
theorem Jyh {α : Type} {xs ys : List α} {i : Nat} {x y : α} (hx : xs[i]? = some x) (hy : ys[i]? = some y) (h : ¬ x = y) : ¬ xs = ys := by
 rintro rfl; rw [hx] at hy; exact h (Option.some.inj hy)
theorem eqU (a b : Nat) : eqS (uV a) (uV b) = decide (a = b) := by
 show ((a : Int) == (b : Int)) = _
 by_cases h : a = b
 ·subst h; simp
 ·have : ¬ (a : Int) = b := by omega
  simp [h, this]
theorem eqW (x y : W4) : Q0 [uV x.a, uV x.b, uV x.c, uV x.d] [uV y.a, uV y.b, uV y.c, uV y.d] = decide (x = y) := by
 simp only [Q0, eqU]
 obtain ⟨a, b, c, d⟩ := x
 obtain ⟨a', b', c', d'⟩ := y
 by_cases h1 : a = a' <;> by_cases h2 : b = b' <;> by_cases h3 : c = c' <;> by_cases h4 : d = d' <;> simp [h1, h2, h3, h4]
theorem YL {ι : Type} {P : Program} {f : FuncId} {fn : Func} {code : Code} {caps : List Value} {Rl : Jm} {p0 : ι} {nx : ι → List Value → Jm → ι → Prop} {fin : ι → Prop} (hf : P.funcs[f]? = some fn) (hb : fn.body = some code) (hlen : Nat.ble (caps.length + 1) fn.ntmps = true)
  (h : ∀ (q : Nat) (xids : List Nat) (w2 : World) (XI : ι → XP) (XF : XP),
   (∀ i v B i', nx i v B i' → ∀ xs w, (∀ k ∈ xs, k < w.heap.size ∧ (k ∈ xids ∨ w2.heap.size ≤ k)) → Keep ([] ++ xids) w2 w → qR xs (XI i) w → Has B w → (∀ p ∈ B, p.1 ∉ xs ∧ p.1 ∉ xids) → YS P q v.toArray xs w (XI i') XF) →
   HC ⟨P, none, w2, [], xids, Rl, fn.ntmps⟩ [] (V9 0 (.func (.yield q) #[] #[] :: caps)) [] (XI p0) code
    (bodyPostM (FW none) 0 P fn (fun e w' => (∃ v, e = .returned v) ∧ Keep ([] ++ xids) w2 w' ∧ ((∃ i xs, fin i ∧ XI i xs w') ∨ ∃ xs, XF xs w')))) : Jb2 P f caps Rl p0 nx fin :=
 fun q xids w2 XI XF hR hlt h0 hY =>
  Qy ⟨P, none, w2, [], xids, Rl, fn.ntmps⟩ hf hb rfl rfl rfl hlen
   ⟨Keep.refl _ _, by simp, by simp, fun p hp => ⟨by simp, (hR p hp).1, (hR p hp).2⟩, hlt, xids, fun k hk => ⟨.inl hk, hlt k hk, by simp⟩, h0⟩ (h q xids w2 XI XF hY)
section
variable {c : Cx} {d : List Deferred} {l : Kv} {E : Jm} {X : XP} {S : Jm} {ops : Array Oper} {tb : ZT} {rest : List Nat} {T : Jm → Act → Prop} {k i : Nat}
theorem KT {α : Type} {x0 : α} {V : α → Value} {LL : α → Jm} {Rl : Jm} {f : Operand} {args : Array Operand} {at_ : Array TypeId} {g : FuncId} {vs : List Value} {ty : TypeId} {ps : String} {af : Array Edge} {gd : Option (Nat × Bool)}
  (hk : WW ops.toList k = some ⟨some i, .call ⟨.value f, args, at_⟩, ty, ps, af, gd⟩) (hg : Kg l ops ⟨some i, .call ⟨.value f, args, at_⟩, ty, ps, af, gd⟩ = some true) (hi : Nat.ble (i + 1) c.n = true) (hA : tb k = .grow (Qf x0 V LL)) (hca : Km l f args = some (g, vs)) (eg : Enters c.P g)
  (hp : PureT c.P g vs.toArray V [] LL Rl) (hR : ∀ p ∈ Rl, p ∈ S ∨ p ∈ c.R) (h : ∀ x, HB c d ((i, V x) :: l) (LL x ++ E) X S ops tb rest T) : HB c d l E X S ops tb (k :: rest) T :=
 xM (e := Qf x0 V LL) hk hg rfl hi hA (fun E' hE a w hf hs => Wr hf hca eg ((hp.run w (fun p hp => by cases hp) (fun p hp => (hR p hp).elim (fun h => (hs.own _ (hE p h)).2.2) hs.readR) List.Pairwise.nil (fun p _ q hq => by cases hq)).mono fun _ _ ⟨x, he, hk, h1, h2⟩ => ⟨V x, he, x, rfl, hk, (fun p hp => ⟨((h1 p hp).1).elim (fun h => by cases h) id, (h1 p hp).2⟩), h2⟩)) h
end
theorem Jib {c : Cx} {d : List Deferred} {l : Kv} {L L' : Jm} {X : XP} {code : Code} {Q : Exit → Act → World → Prop} (hp : L.Perm L') (h : HC c d l L' X code Q) : HC c d l L X code Q := fun a w hf hs => h a w hf (hs.perm hp)
theorem QD {α : Type} (A B C : List α) : (A ++ (B ++ C)).Perm (B ++ (A ++ C)) := by
 rw [← List.append_assoc, ← List.append_assoc]
 exact List.perm_append_comm.append_right C
theorem Jon {R : Jm} {a : AcL} (ha : a.In R) (k v : BS) : Nonempty (AcRes R (Wb a.er k v)) := by
 by_cases h : (Wb a.er k v).2 = 0
 ·obtain ⟨h1, h2, h3, h4, h5⟩ := Jod h
  rw [h5]
  have hw : (KI a.slots k v).length ≤ 16 := h4
  exact ⟨⟨⟨a.addr, a.nonce, a.bal, a.code, KI a.slots k v, some (⟨0, 0, none⟩, (KI a.slots k v).length)⟩, 0, [(0, .cells (Jtt (KI a.slots k v)).toArray 0 (0, 0))], ZN ha h2 h3 (by omega) ⟨Nat.le_refl _, fun _ => ⟨rfl, _, 0, (0, 0), List.mem_cons_self, by simp⟩⟩, rfl⟩⟩
 ·have e : (Wb a.er k v) = (a.er, (Wb a.er k v).2) := by
   unfold Wb at h ⊢
   split
   ·rfl
   ·rename_i h1
    rw [if_neg h1] at h
    split
    ·rfl
    ·rename_i h2
     rw [if_neg h2] at h
     split
     ·rfl
     ·rename_i h3
      rw [if_neg h3] at h
      exact absurd rfl h
  exact ⟨⟨a, (Wb a.er k v).2, [], ha, e.symm⟩⟩
structure AcSt (R : Jm) : Type where
  a : AcL
  L : Jm
  ok : a.In (L ++ R)
structure StSt (R : Jm) : Type where
  s : StL
  L : Jm
  ok : s.In (L ++ R)
def AcSt.next {R : Jm} (s : AcSt R) {e : AcE × Int} (x : AcRes (s.L ++ R) e) : AcSt R := ⟨x.a, x.L ++ s.L, by rw [List.append_assoc]; exact x.ok⟩
def StSt.next {R : Jm} (s : StSt R) {L' : Jm} {e : List AcE × Int} (x : StRes (L' ++ (s.L ++ R)) e) : StSt R := ⟨x.s, x.L ++ (L' ++ s.L), by rw [List.append_assoc, List.append_assoc]; exact x.ok⟩
theorem Jaa (a : AcE) (x : BS × BS) (l : List (BS × BS)) : QA a (x :: l) = if (Wb a x.1 x.2).2 ≠ 0 then Wb a x.1 x.2 else QA (Wb a x.1 x.2).1 l := rfl
theorem map_drop {α : Type} (f : Nat → α) {i : Nat} (h : i < 7) : (tab.map f).drop i = f i :: (tab.map f).drop (i + 1) := by
 have : i = 0 ∨ i = 1 ∨ i = 2 ∨ i = 3 ∨ i = 4 ∨ i = 5 ∨ i = 6 := by omega
 rcases this with rfl | rfl | rfl | rfl | rfl | rfl | rfl <;> rfl
theorem Joo {a : AcE} {k v : BS} (h : (Wb a k v).2 ≠ 0) : Wb a k v = (a, (Wb a k v).2) := by
 unfold Wb at h ⊢
 split
 ·rfl
 ·rename_i h1
  rw [if_neg h1] at h
  split
  ·rfl
  ·rename_i h2
   rw [if_neg h2] at h
   split
   ·rfl
   ·rename_i h3
    rw [if_neg h3] at h
    exact absurd rfl h
theorem Jdj {i : Nat} (hi : i < 2) : ([0, 1] : List Int).drop i = (i : Int) :: ([0, 1] : List Int).drop (i + 1) := by
 have : i = 0 ∨ i = 1 := by omega
 rcases this with rfl | rfl <;> rfl
theorem Jab (f : Int) (s0 : List AcE) (go : Int → AcE → AcE × Int) (w : Int) (ws : List Int) (t : List AcE) : VO f s0 go (w :: ws) t = if (KE f w).2 = false then VO f s0 go ws t else
   if (go w (QQ t w)).2 ≠ 0 then (s0, (go w (QQ t w)).2) else if (qh t (go w (QQ t w)).1).2 ≠ 0 then (s0, (qh t (go w (QQ t w)).1).2) else VO f s0 go ws (qh t (go w (QQ t w)).1).1 := rfl
theorem Jop (s : StL) (w : Int) : AcL.er { Kt s (Qn w) with addr := Qn w } = QQ s.er w := by
 unfold QQ
 rw [← j9]
 rfl
theorem Joq (w : Int) : (Qn w).length ≤ 512 := by
 unfold Qn
 split
 ·decide
 ·simp
def z32 : List UInt8 := List.replicate 32 0
def pairUp : List (List UInt8) → List (List UInt8)
 | a :: b :: l => W5 (a ++ b) :: pairUp l
 | _ => []
def Qo (l : List (List UInt8)) (z : List UInt8) : List (List UInt8) := if l.length % 2 = 1 then l ++ [z] else l
def V4 : Nat → List (List UInt8) → List UInt8 → List UInt8
 | 0, l, z => l.headD z
 | k + 1, l, z => V4 k (pairUp (Qo l z)) (W5 (z ++ z))
def zu : Nat → List (List UInt8) → List UInt8
 | 0, l => l.headD []
 | k + 1, l => zu k (pairUp l)
theorem We : ∀ l : List (List UInt8), (pairUp l).length = l.length / 2
 | [] => by simp [pairUp]
 | [_] => by simp [pairUp]
 | a :: b :: l => by rw [pairUp, List.length_cons, We l, List.length_cons, List.length_cons]; omega
theorem wo : ∀ {l m : List (List UInt8)}, l.length % 2 = 0 → pairUp (l ++ m) = pairUp l ++ pairUp m
 | [], m, _ => rfl
 | [_], _, h => by simp at h
 | a :: b :: l, m, h => by
  have h2 : l.length % 2 = 0 := by simp only [List.length_cons] at h; omega
  rw [List.cons_append, List.cons_append, pairUp, pairUp, wo h2, List.cons_append]
theorem wp (z : List UInt8) : ∀ m : Nat, pairUp (List.replicate (2 * m) z) = List.replicate m (W5 (z ++ z))
 | 0 => rfl
 | m + 1 => by rw [show 2 * (m + 1) = 2 * m + 1 + 1 by omega, List.replicate_succ, List.replicate_succ, pairUp, wp z m, List.replicate_succ]
theorem Xq (l : List (List UInt8)) (z : List UInt8) : (Qo l z).length = l.length + l.length % 2 := by
 unfold Qo
 split
 ·rename_i h; rw [List.length_append, h]; rfl
 ·omega
theorem Jf3 {l : List (List UInt8)} {z : List UInt8} {n : Nat} (h : l.length ≤ 2 * n) : Qo l z ++ List.replicate (2 * n - (Qo l z).length) z = l ++ List.replicate (2 * n - l.length) z := by
 rw [Xq]
 unfold Qo
 split
 ·rename_i h1
  rw [List.append_assoc, h1]
  congr 1
  rw [show 2 * n - l.length = (2 * n - (l.length + 1)) + 1 by omega, List.replicate_succ]; rfl
 ·rename_i h1
  rw [show l.length % 2 = 0 by omega]; rfl
theorem Jic : ∀ (k : Nat) {l : List (List UInt8)} (z : List UInt8), l.length ≤ 2 ^ k → V4 k l z = zu k (l ++ List.replicate (2 ^ k - l.length) z)
 | 0, [], z, _ => rfl
 | 0, [a], z, _ => rfl
 | 0, _ :: _ :: _, z, h => by simp at h
 | k + 1, l, z, h => by
  rw [Nat.pow_succ, Nat.mul_comm] at h
  have h2 := Xq l z
  have hp : (Qo l z).length % 2 = 0 := by rw [h2]; omega
  rw [V4, zu, Nat.pow_succ, Nat.mul_comm, ← Jf3 h, wo hp, show 2 * 2 ^ k - (Qo l z).length = 2 * (2 ^ k - (Qo l z).length / 2) by omega, wp]
  rw [Jic k (W5 (z ++ z)) (by rw [We]; omega), We]
theorem ZO (l : List (List UInt8)) : ∀ x ∈ pairUp l, x.length = 32 := by
 induction l using pairUp.induct with
 | case1 a b l ih =>
  intro x hx
  rw [pairUp] at hx
  rcases List.mem_cons.1 hx with hx | hx
  ·rw [hx]; exact Zi _
  ·exact ih x hx
 | case2 l h =>
  intro x hx
  rw [pairUp.eq_2 l h] at hx
  cases hx
theorem Jlh (k : Nat) : ∀ {l : List (List UInt8)}, l.length = 2 ^ k → (∀ x ∈ l, x.length = 32) → (zu k l).length = 32 := by
 induction k with
 | zero =>
  intro l h1 h2
  match l, h1 with
  | [a], _ => exact h2 a List.mem_cons_self
 | succ k ih =>
  intro l h1 _
  rw [Nat.pow_succ, Nat.mul_comm] at h1
  rw [zu]
  exact ih (by rw [We, h1]; omega) (ZO l)
def lg (m : Nat) : Nat := if m ≤ 1 then 0 else Nat.log2 (m - 1) + 1
theorem Jid (m : Nat) : m ≤ 2 ^ lg m := by
 unfold lg
 split
 ·simpa using ‹m ≤ 1›
 ·have := @Nat.lt_log2_self (m - 1)
  omega
theorem Jxb {m j : Nat} (h : j < lg m) : 2 ^ j < m := by
 unfold lg at h
 split at h
 ·cases h
 ·have h1 : 2 ^ j ≤ 2 ^ Nat.log2 (m - 1) := Nat.pow_le_pow_right (by decide) (by omega)
  have h2 := Nat.log2_self_le (n := m - 1) (by omega)
  omega
theorem J0v {m d : Nat} (h : m ≤ 2 ^ d) : lg m ≤ d := by
 rcases Nat.lt_or_ge d (lg m) with h1 | h1
 ·have := Jxb h1; omega
 ·exact h1
def Jua (n : Nat) (l : List (List UInt8)) : List (List UInt8) := l ++ List.replicate (n - l.length) z32
def Ve (l : List (List UInt8)) (m : Nat) : List UInt8 := zu (lg m) (Jua (2 ^ lg m) l)
theorem jB {l : List (List UInt8)} {m : Nat} (h : l.length ≤ m) : V4 (lg m) l z32 = Ve l m := Jic _ _ (Nat.le_trans h (Jid m))
theorem Jor {n : Nat} {l : List (List UInt8)} (h : l.length ≤ n) : (Jua n l).length = n := by
 unfold Jua; rw [List.length_append, List.length_replicate]; omega
theorem Jos {n : Nat} {l : List (List UInt8)} (h : ∀ x ∈ l, x.length = 32) : ∀ x ∈ Jua n l, x.length = 32 := by
 intro x hx
 rcases List.mem_append.1 hx with hx | hx
 ·exact h x hx
 ·rw [(List.mem_replicate.1 hx).2]; rfl
theorem VH {l : List (List UInt8)} {m : Nat} (h : l.length ≤ m) (h2 : ∀ x ∈ l, x.length = 32) : (Ve l m).length = 32 := Jlh _ (Jor (Nat.le_trans h (Jid m))) (Jos h2)
section
variable {c : Cx} {l : Kv} {L : Jm} {X : XP} {Q : Exit → Act → World → Prop} {d : List Deferred}
theorem Jub {L' : Jm} {code : Code} (hL : L'.Sublist L) (h : HC c d l L' X code Q) : HC c d l L X code Q := fun a w hf hs => h a w hf (hs.weakL hL)
theorem vu {L' : Jm} {K : Act → World → Prop} (hL : L'.Sublist L) (h : HQ c d l L' X K) : HQ c d l L X K := fun a w hf hs => h a w hf (hs.weakL hL)
def Jot {σ : Type} (c : Cx) (DD : σ → List Deferred) (I : σ → Prop) (lI : σ → Kv) (LI : σ → Jm) (XI : σ → XP) (μ : σ → Nat) (s : σ) : Act → World → Prop := fun a w =>
 ∃ s', I s' ∧ μ s' < μ s ∧ Fr c.n (DD s') (lI s') a ∧ St c (LI s') (XI s') w
theorem Jou {σ : Type} {body : Code} (DD : σ → List Deferred) (I : σ → Prop) (lI : σ → Kv) (LI : σ → Jm) (XI : σ → XP) (μ : σ → Nat) (s0 : σ) (hd : DD s0 = d) (h0 : I s0) (hl : LookAll l (lI s0)) (hL : (LI s0).Sublist L) (hX : ∀ xs w, X xs w → XI s0 xs w)
  (hr : ∀ s, I s → HC c (DD s) (lI s) (LI s) (XI s) body (Exit.then (Jot c DD I lI LI XI μ s) Q)) : HC c d l L X (.loop body) Q := fun a w hf hs => by
 have least : ∀ p : Nat → Prop, (∃ m, p m) → ∃ m, p m ∧ ∀ k, p k → m ≤ k := by
  intro p ⟨m, hm⟩
  induction m using Nat.strongRecOn with
  | _ m ih =>
   by_cases hx : ∃ k, k < m ∧ p k
   obtain ⟨k, hk, hp⟩ := hx; exact ih k hk hp
   exact ⟨m, hm, fun k hp => Nat.le_of_not_lt fun hlt => hx ⟨k, hlt, hp⟩⟩
 let p : Act → World → Nat → Prop := fun a w m => ∃ s, I s ∧ Fr c.n (DD s) (lI s) a ∧ St c (LI s) (XI s) w ∧ μ s = m
 have meas : ∃ f : Act → World → Nat, ∀ a w, (∃ m, p a w m) → p a w (f a w) ∧ ∀ k, p a w k → f a w ≤ k := by
  have h1 : ∀ a w, ∃ m, (∃ m, p a w m) → p a w m ∧ ∀ k, p a w k → m ≤ k := fun a w => by
   by_cases hx : ∃ m, p a w m
   obtain ⟨m, hm⟩ := least _ hx; exact ⟨m, fun _ => hm⟩
   exact ⟨0, fun hy => absurd hy hx⟩
  exact ⟨fun a w => Classical.choose (h1 a w), fun a w => Classical.choose_spec (h1 a w)⟩
 obtain ⟨f, hfm⟩ := meas
 refine wpIn_loop (fun a w => ∃ m, p a w m) f ⟨μ s0, s0, h0, hd ▸ hf.weak hl.get, (hs.weakL hL).weakX hX, rfl⟩ ?_
 intro a w hp
 obtain ⟨⟨s, h1, h2, h3, h4⟩, _⟩ := hfm a w hp
 refine wpIn_mono (hr s h1 a w h2 h3) ?_
 intro e a' w' hq
 cases e with
 | normal =>
  obtain ⟨s', g1, g2, g3, g4⟩ := hq
  have hp' : p a' w' (μ s') := ⟨s', g1, g3, g4, rfl⟩
  refine ⟨⟨_, hp'⟩, ?_⟩
  have := (hfm a' w' ⟨_, hp'⟩).2 _ hp'
  omega
 | _ => exact hq
theorem zv {σ : Type} {DD : σ → List Deferred} {I : σ → Prop} {lI : σ → Kv} {LI : σ → Jm} {XI : σ → XP} {μ : σ → Nat} {s : σ} (s' : σ) (hd : DD s' = d) (h1 : I s') (h2 : μ s' < μ s) (h3 : LookAll l (lI s')) (h4 : (LI s').Sublist L) (h5 : ∀ xs w, X xs w → XI s' xs w) :
  HQ c d l L X (Jot c DD I lI LI XI μ s) := fun _ _ hf hs => ⟨s', h1, h2, hd ▸ hf.weak h3.get, (hs.weakL h4).weakX h5⟩
def WB (Ds : List Nat) : Jm := Ds.map fun D => (D, .deferred (some []))
theorem wq {fn : Func} {R : Ending → World → Prop} {P : Program} : ∀ (Ds : List Nat) (h : HQ c d l L X (bodyPostM (FW none) 0 P fn R .ret)), HQ c (Ds.map VV ++ d) l (WB Ds ++ L) X (bodyPostM (FW none) 0 P fn R .ret)
 | [], h => h
 | D :: Ds, h => Kq (k := 0) rfl rfl (vu (List.sublist_cons_self _ _) (wq Ds h))
end
end Go.SL
