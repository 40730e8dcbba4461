import Derived.Test.YtfaagelglpgpkaaGreatDoorZtClaimsa
import Derived.ProofKit
import Derived.OpenShut
import Derived.ShutString
import Derived.ChangeOld
import Derived.Below
import Derived.Laws.Small
import Derived.Laws.IdiomStrings
import Derived.Carry
import Derived.ChangeArms
import Derived.Lib.Overlaps
import Derived.Lib.AppendZerosOnto
import Derived.Laws.StructEq
import Derived.Lib.AppendStr
import Derived.Lib.UnsafeStr
import Derived.Lib.Builder
import Derived.RecoverIn
set_option maxRecDepth 100000
namespace Go.SL
set_option linter.all false
open Go Go.RowKit Go.Shelf
variable {a a' : Act} {K K' : Act → World → Prop} {af : Array Edge} {fs : Array Field} {es : Array MapEntry} {ops : Array Oper} {args : Array Operand} {at_ : Array TypeId} {cs' cs2 : Array Value} {op : BinOp} {b : Bool} {body code : Code} {τ : Type} {E : Code → τ → Prop} {c : Cx} {Q Q' : Exit → Act → World → Prop} {fn : Func} {g : FuncId} {B E' L' L0 R R' Rl : Jx} {T : Jx → Array Bool → Act → Prop} {l' : KQ} {qs : List (Nat × Nat)} {pa : List (Nat × Operand)} {d : List Deferred} {ts : List Nat} {rest tail : List Oper} {caps sp vs ys zs : List Value} {α : Type} {xs : List α} {c2 cap clock fuel h i id j m off off' off2 q r r2 sz : Nat} {fr fr2 : Nat × Nat} {o' ob : Obj} {o oi : Oper} {f x y : Operand} {gd : Option (Nat × Bool)} {dst ro : Option Nat} {P : Program} {row : QC} {ps : String} {ι σ : Type} {e e1 e2 kt src t tt ty : TypeId} {v v' z : Value} {dom : Value → Prop} {eq : Value → Value → Bool} {w w' : World} {X : XP} {x0 : α} {pr : α → Bool} {LL : α → Jx} {V : α → Value} {X' : α → XP} {p0 : ι} {nx : ι → List Value → ι → Prop} {fin : ι → Prop} {LI : σ → Jx} {lI : σ → KQ} {μ : σ → Nat} {I : σ → Prop} {XI : σ → XP}
inductive Fm where
  | sq (y : Code)
  | bl (id : Nat)
  | kk (K : Act → World → Prop)
def QF (c : Cx) : List Fm → (Exit → Act → World → Prop) → Exit → Act → World → Prop
 | [], Q => Q
 | .sq y :: fs, Q => Exit.then (y.wpIn (FW c.ro) 0 c.P (QF c fs Q)) (QF c fs Q)
 | .bl id :: fs, Q => Exit.inBlock id (QF c fs Q)
 | .kk K :: fs, Q => Exit.then K (QF c fs Q)
inductive Pt where
  | cd (x : Code)
  | ex (e : Exit)
  | op (ops : Array Oper) (rest : List Oper)
def PtH (c : Cx) (d : List Deferred) (l : KQ) (L : Jx) (X : XP) (fs : List Fm) (Q : Exit → Act → World → Prop) : Pt → Prop
 | .cd x => HC c d l L X x (QF c fs Q)
 | .ex e => HQ c d l L X (QF c fs Q e)
 | .op ops rest => HL c d l L X ops rest (QF c fs Q)
abbrev CtR := Option (KQ × List Fm × Pt × List (Nat × Nat))
def Yf (P : Program) (L : Jx) (N : Nat) : Nat → List Nat → KQ → List Fm → Pt → CtR
 | 0, _, l, fs, p => some (l, fs, p, [])
 | n + 1, ks, l, fs, .cd x => match x with
  | .seq x y => Yf P L N n ks l (.sq y :: fs) (.cd x)
  | .block id b => Yf P L N n ks l (.bl id :: fs) (.cd b)
  | .region _ ops false => Yf P L N n ks l fs (.op ops ops.toList)
  | .skip => Yf P L N n ks l fs (.ex .normal)
  | .ret => Yf P L N n ks l fs (.ex .ret)
  | .exit id => Yf P L N n ks l fs (.ex (.exit id))
  | .cond x t e => match Kx l x with
   | some (.bool true) => Yf P L N n ks l fs (.cd t)
   | some (.bool false) => Yf P L N n ks l fs (.cd e)
   | _ => none
  | _ => none
 | n + 1, ks, l, .sq y :: fs, .ex e => match e with
  | .normal => Yf P L N n ks l fs (.cd y)
  | .ret => Yf P L N n ks l fs (.ex .ret)
  | .exit j => Yf P L N n ks l fs (.ex (.exit j))
  | _ => none
 | n + 1, ks, l, .bl id :: fs, .ex e => match e with
  | .normal => Yf P L N n ks l fs (.ex .normal)
  | .ret => Yf P L N n ks l fs (.ex .ret)
  | .exit j => match Nat.beq j id with
   | true => Yf P L N n ks l fs (.ex .normal)
   | false => Yf P L N n ks l fs (.ex (.exit j))
  | _ => none
 | n + 1, ks, l, .kk K :: fs, .ex e => match e with
  | .ret => Yf P L N n ks l fs (.ex .ret)
  | .exit j => Yf P L N n ks l fs (.ex (.exit j))
  | _ => none
 | _ + 1, _, _, [], .ex _ => none
 | n + 1, ks, l, fs, .op ops [] => Yf P L N n ks l fs (.ex .normal)
 | n + 1, ks, l, fs, .op ops (o :: rest) => match Jaf P L ops N ks l o with
  | some (i, v, ks', q) => match Yf P L N n ks' ((i, v) :: l) fs (.op ops rest) with
   | some (l', fs', p', qs) => some (l', fs', p', q ++ qs)
   | none => none
  | none => none
section
variable {c : Cx} {L : Jx} {X : XP} {Q : Exit → Act → World → Prop} {d : List Deferred}
theorem Jw2 {l : KQ} {x y : Code} (h : HC c d l L X x (Exit.then (y.wpIn (FW c.ro) 0 c.P Q) Q)) : HC c d l L X (x.seq y) Q :=
 fun a w hf hs => wpIn_seq (h a w hf hs)
theorem VB : ∀ (n : Nat) {ks : List Nat} {l : KQ} {fs : List Fm} {p : Pt} {l' : KQ} {fs' : List Fm} {p' : Pt} {qs : List (Nat × Nat)},
  Yf c.P L c.n n ks l fs p = some (l', fs', p', qs) → (∀ q ∈ qs, q.1 = q.2) → PtH c d l' L X fs' Q p' → PtH c d l L X fs Q p := by
 intro n
 induction n with
 | zero => intro ks l fs p l' fs' p' qs h _ hk; simp only [Yf, Option.some.injEq, Prod.mk.injEq] at h; obtain ⟨rfl, rfl, rfl, _⟩ := h; exact hk
 | succ n ih =>
  intro ks l fs p l' fs' p' qs h hq hk
  cases p with
  | cd x =>
   simp only [Yf] at h
   split at h
   exact Jw2 (ih h hq hk)
   exact Jes (ih h hq hk)
   rename_i ops; obtain ⟨ops⟩ := ops; exact Jab (ih h hq hk)
   exact Jwr (ih h hq hk)
   exact J1c (ih h hq hk)
   exact Jwq (ih h hq hk)
   split at h
   rename_i e; exact Jp8 e (ih h hq hk)
   rename_i e; exact Jp9 e (ih h hq hk)
   cases h
   cases h
  | ex e =>
   match fs, h with
   | [], h => simp only [Yf] at h; cases h
   | .sq y :: fs, h =>
    simp only [Yf] at h
    split at h
    have hy := ih (p := .cd y) h hq hk; exact hy
    exact Jet (ih h hq hk)
    exact Jeu (ih h hq hk)
    cases h
   | .bl id :: fs, h =>
    simp only [Yf] at h
    split at h
    exact Jno (ih h hq hk)
    exact Jnp (ih h hq hk)
    split at h
    rename_i e; have e := Nat.eq_of_beq_eq_true e; subst e; exact Jnq (ih h hq hk)
    rename_i e; exact Jh7 e (ih h hq hk)
    cases h
   | .kk K :: fs, h =>
    simp only [Yf] at h
    split at h
    exact Jet (ih h hq hk)
    exact Jeu (ih h hq hk)
    cases h
  | op ops rest =>
   cases rest with
   | nil => simp only [Yf] at h; exact Jp7 (ih h hq hk)
   | cons o rest =>
    simp only [Yf] at h
    split at h
    rename_i i v ks' q e
    split at h
    rename_i e2
    cases h
    exact qp e (fun p hp => hq p (List.mem_append_left _ hp)) (ih (p := .op ops rest) e2 (fun p hp => hq p (List.mem_append_right _ hp)) hk)
    cases h
    ·cases h
variable {l l' : KQ} {fs fs' : List Fm} {qs : List (Nat × Nat)} {x x' : Code} {e e' : Exit} {ops ops' : Array Oper} {rest rest' : List Oper} {K : Act → World → Prop}
theorem Gcc (n : Nat) (ks : List Nat) (h : Yf c.P L c.n n ks l fs (.cd x) = some (l', fs', .cd x', qs)) (hq : qs.map Prod.fst = qs.map Prod.snd) (k : HC c d l' L X x' (QF c fs' Q)) : HC c d l L X x (QF c fs Q) := VB n h (Yv hq) k
theorem Qy (n : Nat) (ks : List Nat) (h : Yf c.P L c.n n ks l fs (.cd x) = some (l', fs', .op ops' rest', qs)) (hq : qs.map Prod.fst = qs.map Prod.snd) (k : HL c d l' L X ops' rest' (QF c fs' Q)) : HC c d l L X x (QF c fs Q) := VB n h (Yv hq) k
theorem Gcq (n : Nat) (ks : List Nat) (h : Yf c.P L c.n n ks l fs (.cd x) = some (l', fs', .ex e', qs)) (hq : qs.map Prod.fst = qs.map Prod.snd) (k : HQ c d l' L X (QF c fs' Q e')) : HC c d l L X x (QF c fs Q) := VB n h (Yv hq) k
theorem Goc (n : Nat) (ks : List Nat) (h : Yf c.P L c.n n ks l fs (.op ops rest) = some (l', fs', .cd x', qs)) (hq : qs.map Prod.fst = qs.map Prod.snd) (k : HC c d l' L X x' (QF c fs' Q)) : HL c d l L X ops rest (QF c fs Q) := VB (p := .op ops rest) n h (Yv hq) k
theorem XG (n : Nat) (ks : List Nat) (h : Yf c.P L c.n n ks l fs (.op ops rest) = some (l', fs', .op ops' rest', qs)) (hq : qs.map Prod.fst = qs.map Prod.snd) (k : HL c d l' L X ops' rest' (QF c fs' Q)) : HL c d l L X ops rest (QF c fs Q) := VB (p := .op ops rest) n h (Yv hq) k
theorem Goq (n : Nat) (ks : List Nat) (h : Yf c.P L c.n n ks l fs (.op ops rest) = some (l', fs', .ex e', qs)) (hq : qs.map Prod.fst = qs.map Prod.snd) (k : HQ c d l' L X (QF c fs' Q e')) : HL c d l L X ops rest (QF c fs Q) := VB (p := .op ops rest) n h (Yv hq) k
theorem Gqc (n : Nat) (ks : List Nat) (h : Yf c.P L c.n n ks l fs (.ex e) = some (l', fs', .cd x', qs)) (hq : qs.map Prod.fst = qs.map Prod.snd) (k : HC c d l' L X x' (QF c fs' Q)) : HQ c d l L X (QF c fs Q e) := VB (p := .ex e) n h (Yv hq) k
theorem Gqq (n : Nat) (ks : List Nat) (h : Yf c.P L c.n n ks l fs (.ex e) = some (l', fs', .ex e', qs)) (hq : qs.map Prod.fst = qs.map Prod.snd) (k : HQ c d l' L X (QF c fs' Q e')) : HQ c d l L X (QF c fs Q e) := VB (p := .ex e) n h (Yv hq) k
theorem cD {r s p : Prop} (a : r) (b : s) (k : r → s → p := by
 intro za zb
 refine J7 O (fun g => ?_) (fun g => ?_) <;> try simp only [ZZ] at g
 ·revert g; exact za
 ·revert g; exact zb) : p := k a b
theorem JJ (h : HC c d l L X x (QF c [] Q)) : HC c d l L X x Q := h
theorem inR (h : HC c d l L X x (QF c [.kk K] Q)) : HC c d l L X x (Exit.then K Q) := h
theorem inK (h : HC c d l L X x (QF c (.kk K :: fs) Q)) : HC c d l L X x (Exit.then K (QF c fs Q)) := h
theorem JC (n : Nat) (h : Yf c.P L c.n n [] l fs (.cd x) = some (l', fs', .cd x', [])) (k : HC c d l' L X x' (QF c fs' Q)) : HC c d l L X x (QF c fs Q) := VB n h (fun _ h => nomatch h) k
theorem Jt (n : Nat) (h : Yf c.P L c.n n [] l fs (.cd x) = some (l', fs', .op ops' rest', [])) (k : HL c d l' L X ops' rest' (QF c fs' Q)) : HC c d l L X x (QF c fs Q) := VB n h (fun _ h => nomatch h) k
theorem Kk (n : Nat) (h : Yf c.P L c.n n [] l fs (.cd x) = some (l', fs', .ex e', [])) (k : HQ c d l' L X (QF c fs' Q e')) : HC c d l L X x (QF c fs Q) := VB n h (fun _ h => nomatch h) k
theorem JN (n : Nat) (h : Yf c.P L c.n n [] l fs (.op ops rest) = some (l', fs', .cd x', [])) (k : HC c d l' L X x' (QF c fs' Q)) : HL c d l L X ops rest (QF c fs Q) := VB (p := .op ops rest) n h (fun _ h => nomatch h) k
theorem JH (n : Nat) (h : Yf c.P L c.n n [] l fs (.op ops rest) = some (l', fs', .op ops' rest', [])) (k : HL c d l' L X ops' rest' (QF c fs' Q)) : HL c d l L X ops rest (QF c fs Q) := VB (p := .op ops rest) n h (fun _ h => nomatch h) k
theorem J1 (n : Nat) (h : Yf c.P L c.n n [] l fs (.op ops rest) = some (l', fs', .ex e', [])) (k : HQ c d l' L X (QF c fs' Q e')) : HL c d l L X ops rest (QF c fs Q) := VB (p := .op ops rest) n h (fun _ h => nomatch h) k
theorem XC (n : Nat) (h : Yf c.P L c.n n [] l fs (.ex e) = some (l', fs', .cd x', [])) (k : HC c d l' L X x' (QF c fs' Q)) : HQ c d l L X (QF c fs Q e) := VB (p := .ex e) n h (fun _ h => nomatch h) k
theorem gqo (n : Nat) (h : Yf c.P L c.n n [] l fs (.ex e) = some (l', fs', .op ops' rest', [])) (k : HL c d l' L X ops' rest' (QF c fs' Q)) : HQ c d l L X (QF c fs Q e) := VB (p := .ex e) n h (fun _ h => nomatch h) k
theorem Xk (n : Nat) (h : Yf c.P L c.n n [] l fs (.ex e) = some (l', fs', .ex e', [])) (k : HQ c d l' L X (QF c fs' Q e')) : HQ c d l L X (QF c fs Q e) := VB (p := .ex e) n h (fun _ h => nomatch h) k
theorem Jw (I : σ → Prop) (lI : σ → KQ) (LI : σ → Jx) (XI : σ → XP) (μ : σ → Nat) (s0 : σ) (h0 : I s0) (hl : LookAll l (lI s0)) (hL : (LI s0).Sublist L) (hX : ∀ xs w, X xs w → XI s0 xs w)
  (hr : ∀ s, I s → HC c d (lI s) (LI s) (XI s) body (QF c (.kk (Jqf c d I lI LI XI μ s) :: fs) Q)) : HC c d l L X (.loop body) (QF c fs Q) := Jwu I lI LI XI μ s0 h0 hl hL hX hr
end
open Go.RowKit Go.Shelf
open Go.Proofs (Enters enters_of)
def uV (n : Nat) : Value := .int .u64 (n : Int)
def wV (l : List Nat) : Value := .agg (l.map uV).toArray
def WOk (l : List Nat) : Prop := l.length = 4 ∧ ∀ x ∈ l, x < 18446744073709551616
def dg (l : List Nat) (i : Nat) : Nat := l.getD (i / 8) 0 / 2 ^ (i % 8 * 8) % 256
theorem Jks (l : List Nat) (i : Nat) : dg l i < 256 := Nat.mod_lt _ m7
theorem Kt {l : List Nat} (h : j < l.length) : (l.map uV)[j]? = some (.int .u64 ((l.getD j 0 : Nat) : Int)) := by
 simp [h, uV, List.getD_eq_getElem?_getD]
theorem WOk.get {l : List Nat} (h : WOk l) (j : Nat) : l.getD j 0 < 18446744073709551616 := by
 by_cases hj : j < l.length
 ·have : l.getD j 0 ∈ l := by simp [List.getD_eq_getElem?_getD, hj]
  exact h.2 _ this
 ·simp [List.getD_eq_getElem?_getD, List.getElem?_eq_none (Nat.le_of_not_lt hj)]
def pw (f : Nat → Nat) (j : Nat) : Nat → Nat
 | 0 => 0
 | m + 1 => pw f j m + f (8 * j + m) * 2 ^ (m * 8)
theorem J0e {f : Nat → Nat} (hf : ∀ i, f i < 256) (j : Nat) : ∀ m, pw f j m < 2 ^ (m * 8)
 | 0 => by simp [pw]
 | m + 1 => by
  have h1 := J0e hf j m
  have h2 := hf (8 * j + m)
  have e : 2 ^ ((m + 1) * 8) = 256 * 2 ^ (m * 8) := by rw [Nat.add_mul, Nat.pow_add, Nat.mul_comm]
  rw [e]
  unfold pw
  have h3 : f (8 * j + m) * 2 ^ (m * 8) ≤ 255 * 2 ^ (m * 8) := Nat.mul_le_mul_right _ m5
  omega
def stW (f : Nat → Nat) (i : Nat) : List Nat := [pw f 0 (min 8 i), pw f 1 (min 8 (i - 8)), pw f 2 (min 8 (i - 16)), pw f 3 (min 8 (i - 24))]
theorem J1i {f : Nat → Nat} (hf : ∀ i, f i < 256) (i : Nat) : WOk (stW f i) := by
 refine ⟨rfl, fun x hx => ?_⟩
 have hb : ∀ j m, m ≤ 8 → pw f j m < 18446744073709551616 := fun j m hm =>
  Nat.lt_of_lt_of_le (J0e hf j m) (show 2 ^ (m * 8) ≤ 2 ^ 64 from Nat.pow_le_pow_right m7 m5)
 simp only [stW, List.mem_cons, List.not_mem_nil, or_false] at hx
 rcases hx with rfl | rfl | rfl | rfl <;> exact hb _ _ (Nat.min_le_left _ _)
theorem Jn2 {f g : Nat → Nat} (h : ∀ i, i < 32 → f i = g i) : stW f 32 = stW g 32 := by
 have key : ∀ j, j < 4 → ∀ m, m ≤ 8 → pw f j m = pw g j m := by
  intro j hj m
  induction m with
  | zero => intro _; rfl
  | succ m ih =>
   intro hm
   simp only [pw]
   rw [ih m5, h (8 * j + m) m5]
 simp only [stW]
 rw [key 0 m7 _ (Nat.min_le_left _ _), key 1 m7 _ (Nat.min_le_left _ _), key 2 m7 _ (Nat.min_le_left _ _), key 3 m7 _ (Nat.min_le_left _ _)]
def Yw (l : List Nat) : Nat → List UInt8
 | 0 => []
 | m + 1 => UInt8.ofNat (dg l m) :: Yw l m
theorem Q2 (l : List Nat) : ∀ n, (Yw l n).length = n
 | 0 => rfl
 | n + 1 => by simp [Yw, Q2 l n]
theorem wY (l : List Nat) : ∀ {n m : Nat}, m < n → (Yw l n)[m]? = some (UInt8.ofNat (dg l (n - 1 - m)))
 | 0, m, h => by omega
 | n + 1, 0, h => by simp [Yw]
 | n + 1, m + 1, h => by
  have := wY l (n := n) (m := m) m5
  simp only [Yw, List.getElem?_cons_succ, this]
  congr 3; omega
theorem Jqw (l : List Nat) {n : Nat} (h : m < n) : (Yw l n).take (m + 1) = (Yw l n).take m ++ [UInt8.ofNat (dg l (n - 1 - m))] := by
 rw [List.take_add_one, wY l h]; rfl
theorem Jw4 (z v : α) (t : List α) (m : Nat) : (List.replicate (m + 1) z ++ t).set m v = List.replicate m z ++ v :: t := by
 induction m with
 | zero => rfl
 | succ m ih => rw [List.replicate_succ, List.cons_append, List.set_cons_succ, ih]; rfl
theorem Je8 {a n : Nat} (h : a < 256) (hn : n ≤ 56) : a * 2 ^ n < 18446744073709551616 := by
 have h1 : 2 ^ n ≤ 2 ^ 56 := Nat.pow_le_pow_right m7 hn
 have h2 : a * 2 ^ n ≤ 255 * 2 ^ 56 := Nat.mul_le_mul m5 h1
 exact Nat.lt_of_le_of_lt h2 m7
theorem Jcb {a n : Nat} (h : a * 2 ^ n < 18446744073709551616) : IntKind.u64.wrap ((a : Int) * ((2 ^ n : Nat) : Int)) = ((a * 2 ^ n : Nat) : Int) := by
 rw [← Int.natCast_mul]; exact wrap_u64 m5 m5
theorem KT (a b : Nat) : Int.tmod (a : Int) (b : Int) = ((a % b : Nat) : Int) := rfl
theorem Za (a n : Nat) : (a : Int) / ((2 ^ n : Nat) : Int) = ((a / 2 ^ n : Nat) : Int) := rfl
def iV (n : Nat) : Value := .int .i64 (n : Int)
theorem Jqx {l : List Nat} (h : j < l.length) : (l.map iV)[j]? = some (.int .i64 ((l.getD j 0 : Nat) : Int)) := by
 simp [h, iV, List.getD_eq_getElem?_getD]
theorem QU {l m : List Nat} {x : Nat} (h : l.set j x = m) : (l.map uV).set j (uV x) = m.map uV := by rw [← h, List.map_set]
theorem Jcc {n : Nat} (h : n < 256) : Value.int .u8 (IntKind.u8.wrap (n : Int)) = bV (UInt8.ofNat n) := by
 rw [YX m5 m5, yN h]
theorem yT (q : Nat) : Value.int .u8 (IntKind.u8.wrap (q : Int)) = bV (UInt8.ofNat (q % 256)) := by
 rw [← yN (Nat.mod_lt _ m7)]
 congr 1
def Jw5 (s : List UInt8) : List Nat := stW (fun t => (s.getD (31 - t) 0).toNat) 32
theorem Xl (b : UInt8) : b.toNat < 256 := b.toNat_lt
theorem Jw6 (s : List UInt8) : WOk (Jw5 s) := J1i (fun _ => Xl _) 32
def zW : List Nat := [0, 0, 0, 0]
def Jqy (s : List UInt8) : List Nat × Int := if s.length = 32 then (Jw5 s, 0) else (zW, 2)
def J3l (p : List Nat × Int) : Value := .tuple #[wV p.1, .int .i64 p.2]
def xP (F G : Nat → Nat → Nat → Nat) (a b : List Nat) : Nat → List Nat × Nat
 | 0 => (zW, 0)
 | i + 1 => ((xP F G a b i).1.set i (F (a.getD i 0) (b.getD i 0) (xP F G a b i).2), G (a.getD i 0) (b.getD i 0) (xP F G a b i).2)
theorem jm (F G : Nat → Nat → Nat → Nat) (a b : List Nat) : ∀ i, (xP F G a b i).1.length = 4
 | 0 => rfl
 | i + 1 => by simp [xP, jm F G a b i]
def crR (F G : Nat → Nat → Nat → Nat) (a b : List Nat) : List Nat × Int := if (xP F G a b 4).2 = 0 then ((xP F G a b 4).1, 0) else (zW, 6)
structure Car (P : Program) (g : FuncId) (F G : Nat → Nat → Nat → Nat) : Prop where
  run : ∀ x y c w, c ≤ 1 → (callFunc g [uV x, uV y, uV c].toArray).run P w = .ok (.value (.tuple #[uV (F x y c), uV (G x y c)])) w
  lt : ∀ x y c, F x y c < 18446744073709551616
  le : ∀ x y c, x < 18446744073709551616 → y < 18446744073709551616 → c ≤ 1 → G x y c ≤ 1
theorem Jqz {P : Program} {g : FuncId} {F G : Nat → Nat → Nat → Nat} (C : Car P g F G) {a b : List Nat} (ha : WOk a) (hb : WOk b) : ∀ i, WOk (xP F G a b i).1 ∧ (xP F G a b i).2 ≤ 1
 | 0 => ⟨⟨rfl, by simp [xP, zW]⟩, by simp [xP]⟩
 | i + 1 => by
  obtain ⟨⟨h1, h2⟩, h3⟩ := Jqz C ha hb i
  refine ⟨⟨jm F G a b _, fun x hx => ?_⟩, C.le _ _ _ (ha.get i) (hb.get i) h3⟩
  rcases List.mem_or_eq_of_mem_set hx with h | h
  ·exact h2 x h
  ·rw [h]; exact C.lt _ _ _
theorem Jag (h : P.underlying e = some (.int .u64)) (l : List Nat) : (l.map uV).all (W8 P e) = true := by
 simp [List.all_map, List.all_eq_true, uV, W8, h]
theorem Jcd : ∀ {a b : List Nat}, a.length = b.length → QM (a.map uV) (b.map uV) = decide (a = b)
 | [], [], _ => by simp [QM]
 | x :: a, y :: b, h => by
  have ih := Jcd (a := a) (b := b) Mh
  simp only [List.map_cons, QM, ih, uV, eqS]
  by_cases h1 : x = y <;> by_cases h2 : a = b <;> simp [h1, h2]
  all_goals omega
def wN (l : List Nat) : Nat := l.getD 0 0 + 18446744073709551616 * (l.getD 1 0 + 18446744073709551616 * (l.getD 2 0 + 18446744073709551616 * l.getD 3 0))
theorem WOk.four {l : List Nat} (h : WOk l) : ∃ a b c d, l = [a, b, c, d] ∧ a < 18446744073709551616 ∧ b < 18446744073709551616 ∧ c < 18446744073709551616 ∧ d < 18446744073709551616 := by
 obtain ⟨h1, h2⟩ := h
 match l, h1 with
 | [a, b, c, d], _ => exact ⟨a, b, c, d, rfl, h2 a ml, h2 b ml, h2 c ml, h2 d ml⟩
theorem J0f {l : List Nat} (h : WOk l) : wN l < 115792089237316195423570985008687907853269984665640564039457584007913129639936 := by
 obtain ⟨a, b, c, d, rfl, h1, h2, h3, h4⟩ := h.four
 simp only [wN, List.getD_cons_zero, List.getD_cons_succ]
 omega
theorem Jq0 {l m : List Nat} (h : WOk l) (k : WOk m) (e : wN l = wN m) : l = m := by
 obtain ⟨a, b, c, d, rfl, h1, h2, h3, h4⟩ := h.four
 obtain ⟨a', b', c', d', rfl, k1, k2, k3, k4⟩ := k.four
 simp only [wN, List.getD_cons_zero, List.getD_cons_succ] at e
 have e1 : a = a' := by omega
 have e2 : b = b' := by omega
 have e3 : c = c' := by omega
 have e4 : d = d' := by omega
 rw [e1, e2, e3, e4]
theorem J5f {x : Nat} (h : x < 18446744073709551616) : x / 1 % 256 * 1 + x / 256 % 256 * 256 + x / 65536 % 256 * 65536 + x / 16777216 % 256 * 16777216 + x / 4294967296 % 256 * 4294967296 + x / 1099511627776 % 256 * 1099511627776 + x / 281474976710656 % 256 * 281474976710656 + x / 72057594037927936 % 256 * 72057594037927936 = x := by omega
theorem Je9 {l : List Nat} (h : WOk l) (hj : j < 4) : pw (dg l) j 8 = l.getD j 0 := by
 have hx := J5f (h.get j)
 simp only [pw, dg]
 have e : ∀ u, u < 8 → (8 * j + u) / 8 = j ∧ (8 * j + u) % 8 = u := fun u hu => ⟨by omega, by omega⟩
 rw [(e 0 m7).1, (e 0 m7).2, (e 1 m7).1, (e 1 m7).2, (e 2 m7).1, (e 2 m7).2, (e 3 m7).1, (e 3 m7).2, (e 4 m7).1, (e 4 m7).2, (e 5 m7).1, (e 5 m7).2, (e 6 m7).1, (e 6 m7).2, (e 7 m7).1, (e 7 m7).2]
 simp only [Nat.reduceMul, Nat.reducePow, Nat.zero_add]
 exact hx
theorem J3m {l : List Nat} (h : WOk l) : stW (dg l) 32 = l := by
 obtain ⟨a, b, c, d, rfl, h1, h2, h3, h4⟩ := h.four
 have e : stW (dg [a, b, c, d]) 32 = [pw (dg [a, b, c, d]) 0 8, pw (dg [a, b, c, d]) 1 8, pw (dg [a, b, c, d]) 2 8, pw (dg [a, b, c, d]) 3 8] := rfl
 rw [e, Je9 h m7, Je9 h m7, Je9 h m7, Je9 h m7]
 rfl
def qr (x y c : Nat) : Nat := (x + 18446744073709551616 - y - c) % 18446744073709551616
def jB (x y c : Nat) : Nat := if x < y + c then 1 else 0
def xQ (a b : List Nat) : List Nat × Int := crR qr jB a b
theorem Jce {F G : Nat → Nat → Nat → Nat} {a b : List Nat} : (crR F G a b).1.length = 4 := by
 unfold crR; split
 ·exact jm _ _ _ _ _
 ·rfl
theorem VC (l : List Nat) : (l.map uV).all QE = true := by simp [uV, QE, List.all_map, List.all_eq_true]
theorem Jcf (x y c : Nat) : jB x y c ≤ 1 := by unfold jB; split <;> omega
theorem wZ {x y c : Nat} (hx : x < 18446744073709551616) (hy : y < 18446744073709551616) (hc : c ≤ 1) : qr x y c + y + c = x + 18446744073709551616 * jB x y c ∧ qr x y c < 18446744073709551616 := by
 unfold qr jB
 split <;> omega
theorem Jq1 {a b : List Nat} (ha : WOk a) (hb : WOk b) : wN (xP qr jB a b 4).1 + wN b = wN a + (xP qr jB a b 4).2 * 115792089237316195423570985008687907853269984665640564039457584007913129639936 := by
 obtain ⟨a0, a1, a2, a3, rfl, h1, h2, h3, h4⟩ := ha.four
 obtain ⟨b0, b1, b2, b3, rfl, k1, k2, k3, k4⟩ := hb.four
 simp only [xP, zW, List.set_cons_zero, List.set_cons_succ, wN, List.getD_cons_zero, List.getD_cons_succ]
 have e0 := wZ h1 k1 (c := 0) m5
 have c0 := Jcf a0 b0 0
 generalize qr a0 b0 0 = r0 at *
 generalize jB a0 b0 0 = g0 at *
 have e1 := wZ h2 k2 (c := g0) c0
 have c1 := Jcf a1 b1 g0
 generalize qr a1 b1 g0 = r1 at *
 generalize jB a1 b1 g0 = g1 at *
 have e2 := wZ h3 k3 (c := g1) c1
 have c2 := Jcf a2 b2 g1
 generalize qr a2 b2 g1 = r2 at *
 generalize jB a2 b2 g1 = g2 at *
 have e3 := wZ h4 k4 (c := g2) c2
 generalize qr a3 b3 g2 = r3 at *
 generalize jB a3 b3 g2 = g3 at *
 omega
theorem Jkt {F G : Nat → Nat → Nat → Nat} (hF : ∀ x y c, F x y c < 18446744073709551616) (a b : List Nat) : ∀ i, WOk (xP F G a b i).1
 | 0 => ⟨rfl, by simp [xP, zW]⟩
 | i + 1 => ⟨jm F G a b _, fun x hx => by
  rcases List.mem_or_eq_of_mem_set hx with h | h
  ·exact (Jkt hF a b i).2 x h
  ·rw [h]; exact hF _ _ _⟩
theorem J3n : WOk zW := ⟨rfl, by simp [zW]⟩
theorem Jn3 {a b : List Nat} (ha : WOk a) (hb : WOk b) : if wN b ≤ wN a then (xQ a b).2 = 0 ∧ wN (xQ a b).1 + wN b = wN a else xQ a b = (zW, 6) := by
 have h := Jq1 ha hb
 have hlt := J0f (Jkt (G := jB) (F := qr) (fun _ _ _ => Nat.mod_lt _ m7) a b 4)
 have hb1 := J0f hb
 unfold xQ crR
 split
 ·rename_i hs
  have hc : (xP qr jB a b 4).2 = 0 := by omega
  rw [if_pos hc]
  rw [hc] at h
  exact ⟨rfl, by simpa using h⟩
 ·rename_i hs
  have hc : (xP qr jB a b 4).2 ≠ 0 := fun hc => by rw [hc] at h; omega
  rw [if_neg hc]
def Jah (a b : List Nat) : Bool := !decide (a = b) && ((xQ a b).2 != 0)
theorem Jq2 {a b : List Nat} (ha : WOk a) (hb : WOk b) : Jah a b = decide (wN a < wN b) := by
 have h := Jn3 ha hb
 unfold Jah
 by_cases hab : a = b
 ·subst hab; simp
 ·split at h
  ·rename_i hle
   rw [h.1]
   have : ¬ wN a < wN b := by omega
   simp [this]
  ·rename_i hle
   rw [h]
   have : wN a < wN b := by omega
   simp [this, hab]
def Jcg (l : List Nat) : Bool := decide (l = [l.getD 0 0, 0, 0, 0])
open Go Go.ChangeShapes Go.WideShapes Go.RowKit
section
variable {H : Type} {enc : TypeId × Value → H} {P : Program} {w : World} {base : Nat} {sp : Nat → Bool} {held : Bool}
theorem Jfa : ∀ (cs : List Value), (List.range cs.length).map (fun i => (cs.drop (i * 1)).take 1) = cs.map fun c => [c] := fun cs => by
 apply List.ext_getElem
 ·simp
 ·intro i h1 h2
  simp only [List.length_map, List.length_range] at h1
  simp only [List.getElem_map, List.getElem_range, Nat.mul_one]
  rw [List.drop_eq_getElem_cons h1]; rfl
theorem Zb {α β γ : Type} (f : α → β) (g : β → Option γ) : ∀ l : List α, (l.map f).mapM g = l.mapM fun a => g (f a)
 | [] => rfl
 | a :: l => by simp [List.mapM_cons, Zb f g l]
theorem Jq3 {t e n : Nat} {cs : List Value} {x : DataW H × List MemPlace} (ht : P.underlying t = some (.array n e)) (hc : P.cellsOf t = n) (he : P.cellsOf e = 1) :
  DataW.trod enc P w base sp held (fuel + 1) t cs = some x ↔ cs.length = n ∧ ∃ xs, (cs.map fun c => [c]).mapM (DataW.trod enc P w base sp held fuel e) = some xs ∧ x = (.agg (xs.map (·.1)), xs.flatMap (·.2)) := by
 simp only [DataW.trod, ht, hc, he]
 constructor
 ·intro h
  split at h
  ·rename_i hl
   refine ⟨hl, ?_⟩
   rw [← Zb (fun i => (cs.drop (i * 1)).take 1), ← hl, Jfa, Option.map_eq_some_iff] at h
   obtain ⟨xs, h1, h2⟩ := h
   exact ⟨xs, h1, h2.symm⟩
  ·cases h
 ·rintro ⟨hl, xs, h1, rfl⟩
  rw [if_pos hl, ← Zb (fun i => (cs.drop (i * 1)).take 1), ← hl, Jfa, h1]; rfl
theorem Jai {α : Type} {V : α → Value} {D : α → DataW H} {ok : α → Prop} {g : List Value → Option (DataW H × List MemPlace)} (hg : ∀ c x, g [c] = some x → ∃ z, c = V z ∧ x = (D z, []) ∧ ok z) : ∀ (cs : List Value) (xs : List (DataW H × List MemPlace)), (cs.map fun c => [c]).mapM g = some xs →
  ∃ zs : List α, cs = zs.map V ∧ xs = zs.map (fun z => (D z, [])) ∧ ∀ z ∈ zs, ok z
 | [], xs, h => by simp at h; exact ⟨[], rfl, by simp [h], by simp⟩
 | c :: cs, xs, h => by
  simp only [List.map_cons, List.mapM_cons] at h
  cases h1 : g [c] with
  | none => simp [h1] at h
  | some x =>
   cases h2 : (cs.map fun c => [c]).mapM g with
   | none => simp [h1, h2] at h
   | some ys =>
    simp [h1, h2] at h
    subst h
    obtain ⟨z, e1, e2, e3⟩ := hg c x h1
    obtain ⟨zs, f1, f2, f3⟩ := Jai hg cs ys h2
    exact ⟨z :: zs, by simp [e1, f1], by simp [e2, f2], by simpa using ⟨e3, f3⟩⟩
end
open Go
theorem vb {a : Bool} (h : a = b) : Value.bool a = Value.bool b := by rw [h]
theorem J1j {x y : Int} (h : x = y) : (x == y) = true := by simpa using h
theorem J5g {x y : Int} (h : ¬ x = y) : (x == y) = false := by simpa using h
def Y2 (n : Nat) : Nat → List UInt8
 | 0 => []
 | w + 1 => UInt8.ofNat (n % 256) :: Y2 (n / 256) w
def leV : List UInt8 → Nat
 | [] => 0
 | b :: s => b.toNat + 256 * leV s
theorem Qk : ∀ (w n : Nat), (Y2 n w).length = w
 | 0, _ => rfl
 | w + 1, n => by simp [Y2, Qk w]
theorem Jku : ∀ {w n i : Nat}, i < w → (Y2 n w)[i]? = some (UInt8.ofNat (n / 256 ^ i % 256))
 | w + 1, n, 0, _ => by simp [Y2]
 | w + 1, n, i + 1, h => by
  rw [Y2, List.getElem?_cons_succ, Jku m5, Nat.pow_succ, Nat.mul_comm, Nat.div_div_eq_div_mul]
theorem yU : ∀ (w n : Nat), Y2 n (w + 1) = Y2 n w ++ [UInt8.ofNat (n / 256 ^ w % 256)]
 | 0, n => by simp [Y2]
 | w + 1, n => by
  rw [Y2, yU w (n / 256), Y2, List.cons_append, Nat.pow_succ, Nat.mul_comm, Nat.div_div_eq_div_mul]
section
variable {c : Cx} {l : KQ} {L : Jx} {X : XP} {d : List Deferred}
variable {i : Nat} {v : Value} {t : TypeId} {ps : String} {af : Array Edge} {gd : Option (Nat × Bool)} {ty t2 : TypeId}
theorem Jig {k k' : IntKind} {a b r : Int} {ats : Array TypeId} (hx : Kx l x = some (.int k a)) (hy : Kx l y = some (.int k' b)) (hr : (if b < a then b else a) = r) :
  JM c d l L X ⟨some i, .call ⟨.builtin .min, #[x, y], ats⟩, ty, ps, af, gd⟩ (.int k r) := fun a' w hf _ => by
 subst hr
 simp only [execOp, Sem.run_bind, resolve]
 have h1 := hf.eval hx
 have h2 := hf.eval hy
 have h3 := run_min_int2 (P := c.P) (w := w) ats ty k k' a b
 simp [h1, h2, invoke, builtin, Result.andThen, h3]
theorem Jch  {n : Nat} {f : Nat → Nat → Nat} {b : Int} (hf : Jb4 op = some f) (hx : Kx l x = some (.int .u8 (m : Int))) (hy : Kx l y = some (.int .u8 (n : Int))) (hm : m < 256) (hn : n < 256) (hb : ((f m n : Nat) : Int) = b) :
  JM c d l L X ⟨some i, .binOp op t x y t2, ty, ps, af, gd⟩ (.int .u8 b) := fun a' w hfr _ => by
 subst hb
 have e1 : (BitVec.ofInt 8 (m : Int)).toNat = m := by simp [BitVec.toNat_ofInt]; omega
 have e2 : (BitVec.ofInt 8 (n : Int)).toNat = n := by simp [BitVec.toNat_ofInt]; omega
 have hm' : m < 2 ^ 8 := hm
 have hn' : n < 2 ^ 8 := hn
 have wr : ∀ q : Nat, q < 2 ^ 8 → IntKind.u8.wrap (q : Int) = q := fun q hq => YX m5 m5
 simp only [execOp]
 rw [hfr.eval hx, hfr.eval hy]
 cases op <;> simp only [Jb4, Option.some.injEq, reduceCtorEq] at hf
 all_goals subst hf
 ·have := wr (m &&& n) (Nat.lt_of_le_of_lt Nat.and_le_left hm')
  have e3 : (BitVec.ofInt 8 (m : Int) &&& BitVec.ofInt 8 (n : Int)).toNat = m &&& n := by rw [BitVec.toNat_and, e1, e2]
  show Sem.run c.P (pure (Next.value (Value.int .u8 (IntKind.u8.wrap (((BitVec.ofInt 8 (m : Int) &&& BitVec.ofInt 8 (n : Int)).toNat : Nat) : Int))))) w = _
  rw [e3, this]; rfl
 ·have := wr (m ||| n) (Nat.or_lt_two_pow hm' hn')
  have e3 : (BitVec.ofInt 8 (m : Int) ||| BitVec.ofInt 8 (n : Int)).toNat = m ||| n := by rw [BitVec.toNat_or, e1, e2]
  show Sem.run c.P (pure (Next.value (Value.int .u8 (IntKind.u8.wrap (((BitVec.ofInt 8 (m : Int) ||| BitVec.ofInt 8 (n : Int)).toNat : Nat) : Int))))) w = _
  rw [e3, this]; rfl
 ·have := wr (m ^^^ n) (Nat.xor_lt_two_pow hm' hn')
  have e3 : (BitVec.ofInt 8 (m : Int) ^^^ BitVec.ofInt 8 (n : Int)).toNat = m ^^^ n := by rw [BitVec.toNat_xor, e1, e2]
  show Sem.run c.P (pure (Next.value (Value.int .u8 (IntKind.u8.wrap (((BitVec.ofInt 8 (m : Int) ^^^ BitVec.ofInt 8 (n : Int)).toNat : Nat) : Int))))) w = _
  rw [e3, this]; rfl
end
theorem J5h {x d : Nat} (h : x < 18446744073709551616) : IntKind.u64.wrap (Int.tdiv (x : Int) (d : Int)) = ((x / d : Nat) : Int) := by
 have h2 := Nat.div_le_self x d
 rw [← Int.ofNat_tdiv]
 generalize x / d = q at *
 exact wrap_u64 m5 m5
theorem J0g (m : Nat) : IntKind.u64.wrap (m : Int) = ((m % 18446744073709551616 : Nat) : Int) := by
 have h : IntKind.u64.wrap (m : Int) = (m : Int) % 18446744073709551616 := by rw [IntKind.wrap_u64]
 rw [h]; rfl
structure PureM (P : Program) (f : FuncId) (args : Array Value) (v : Value) (r : Nat) (o o' : Obj) : Prop where
  run : ∀ w, w.heap[r]? = some o → Calls P f args w fun e w' => e = .returned v ∧ Keep [r] w w' ∧ w'.heap[r]? = some o'
def cxM (P : Program) (w : World) (r n : Nat) : Cx := ⟨P, none, w, [r], [], [], n⟩
theorem St.startM  {n : Nat} {o : Obj} (h : w.heap[r]? = some o) : St (cxM P w r n) [(r, o)] (fun _ _ => True) w :=
 ⟨Keep.refl _ _, fun p hp => by rw [List.mem_singleton.1 hp]; exact ⟨.inl List.mem_cons_self, by simp [cxM], h⟩, List.pairwise_singleton _ _, by simp [cxM], by simp [cxM], ⟨[], by simp, fun _ _ => trivial⟩⟩
theorem wi {f : FuncId} {o : Obj} (hf : P.funcs[f]? = some fn) (hb : fn.body = some code) (hlen : Nat.ble vs.length fn.ntmps = true)
  (h : ∀ w, HC (cxM P w r fn.ntmps) [] (Wj 0 vs) [(r, o)] (fun _ _ => True) code (bodyPostM (FW none) 0 P fn (fun e w' => e = .returned v ∧ ∃ L, (r, o') ∈ L ∧ St (cxM P w r fn.ntmps) L (fun _ _ => True) w'))) : PureM P f vs.toArray v r o o' := ⟨fun w hr =>
 (QR (cxM P w r fn.ntmps) hf hb rfl rfl rfl hlen (St.startM hr) (h w)).mono fun _ _ ⟨he, L, hm, hs⟩ => ⟨he, by have := hs.keep; simpa [cxM] using this, (hs.own _ hm).2.2⟩⟩
section
variable {c : Cx} {l : KQ} {L : Jx} {X : XP} {Q : Exit → Act → World → Prop} {d : List Deferred}
variable {ops : Array Oper} {rest : List Oper} {i : Nat} {v : Value} {t : TypeId} {ps : String} {af : Array Edge} {gd : Option (Nat × Bool)} {ty t2 : TypeId}
theorem Jfb {k : Nat} {o : Obj}
  (hg : Kz l ops ⟨some i, .call ⟨.value f, args, at_⟩, ty, ps, af, gd⟩ = some true) (hi : Nat.ble (i + 1) c.n = true) (hca : KM l f args = some (g, vs)) (eg : Enters c.P g) (hk : L[k]? = some (r, o))
  (hp : PureM c.P g vs.toArray v r o o') (hL : L.set k (r, o') = L') (h : HL c d ((i, v) :: l) L' X ops rest Q) : HL c d l L X ops (⟨some i, .call ⟨.value f, args, at_⟩, ty, ps, af, gd⟩ :: rest) Q :=
 XK (α := Unit) (V := fun _ => v) (L' := fun _ => L') (X' := fun _ => X) hg hi hca eg (fun w hs => (hp.run w (hs.get hk)).mono fun _ _ ⟨he, hkp, ho⟩ => ⟨(), he, hL ▸ hs.set hk hkp ho⟩) (fun _ => h)
theorem Jw7 (hx : Kx l x = some (.int .u64 (m : Int))) (hm : m < 18446744073709551616) :
  JM c d l L X ⟨some i, .unOp .xor t x, ty, ps, af, gd⟩ (.int .u64 ((18446744073709551615 ^^^ m : Nat) : Int)) := fun a' w hfr _ => by
 have e1 : (BitVec.ofInt 64 (m : Int)).toNat = m := by simp [BitVec.toNat_ofInt]; omega
 have e2 : (BitVec.ofInt 64 (IntKind.u64.max)).toNat = 18446744073709551615 := by decide
 have hx' : 18446744073709551615 ^^^ m < 2 ^ 64 := Nat.xor_lt_two_pow m7 hm
 have e3 : (BitVec.ofInt 64 (IntKind.u64.max) ^^^ BitVec.ofInt 64 (m : Int)).toNat = 18446744073709551615 ^^^ m := by rw [BitVec.toNat_xor, e1, e2]
 have e4 : IntKind.u64.wrap ((18446744073709551615 ^^^ m : Nat) : Int) = ((18446744073709551615 ^^^ m : Nat) : Int) := wrap_u64 m5 m5
 simp only [execOp]
 rw [hfr.eval hx]
 show Sem.run c.P (pure (Next.value (Value.int .u64 (IntKind.u64.wrap (((BitVec.ofInt 64 (IntKind.u64.max) ^^^ BitVec.ofInt 64 (m : Int)).toNat : Nat) : Int))))) w = _
 rw [e3, e4]; rfl
theorem Jfc (a : List UInt8) (cap : Nat) : bytesRow (bs a) cap = (a.map bV ++ List.replicate (cap - a.length) (Value.int .u8 0)).toArray := by
 simp only [bytesRow, YZ]
 apply Array.toList_inj.1
 simp [bs, bV]
theorem Yo {a : List UInt8} {dst : TypeId} (hg : Kz l ops ⟨some i, .convert src dst x, ty, ps, af, gd⟩ = some true) (hi : Nat.ble (i + 1) c.n = true) (hx : Kx l x = some (.string (bs a)))
  (hs : yJ c.P src = true) (hd : KH c.P dst = some e) (he : c.P.underlying e = some (.int .u8))
  (h : ∀ r k, HL c d ((i, .slice (some ⟨r, 0, none⟩) a.length (a.length + k)) :: l) ((r, .cells (a.map bV ++ List.replicate k (Value.int .u8 0)).toArray e (a.length + k, a.length + k + 1)) :: L) X ops rest Q) : HL c d l L X ops (⟨some i, .convert src dst x, ty, ps, af, gd⟩ :: rest) Q :=
 Wi (α := Nat × Nat) (V := fun p => .slice (some ⟨p.1, 0, none⟩) a.length (a.length + p.2)) (L' := fun p => (p.1, .cells (a.map bV ++ List.replicate p.2 (Value.int .u8 0)).toArray e (a.length + p.2, a.length + p.2 + 1)) :: L) (X' := fun _ => X) hg rfl rfl hi (fun aa w hf hst => by
  have hr := Go.run_bytes_of_string (P := c.P) w src dst e (bs a) (Vr hs) (Ky hd) he
  have hge := grownCap_ge w (bs a).size 0 e
  rw [Jfc] at hr
  rw [YZ] at hr hge
  obtain ⟨k, hk⟩ : ∃ k, grownCap w a.length 0 e = a.length + k := ⟨grownCap w a.length 0 e - a.length, by omega⟩
  rw [hk, show a.length + k - a.length = k from by omega] at hr
  have hsz : (a.map bV ++ List.replicate k (Value.int .u8 0)).toArray.size = a.length + k := by simp
  rw [hsz] at hr
  refine ⟨(w.heap.size, k), _, ?_, hst.drew.alloc _⟩
  simp only [execOp]
  rw [hf.eval hx]
  simp [Sem.run_bind, hr, Result.andThen]) (fun p => h p.1 p.2)
def Jkv (l : KQ) : Option Operand → Option Nat → Prop
 | none, none => True
 | some x, some n => ∃ k, Kx l x = some (.int k (n : Int))
 | _, _ => False
theorem Ke {lo hi mx : Option Operand} {kl kh km : Option Nat} {n e z : Nat} (hx : Kx l x = some (.slice (some ⟨r, off, none⟩) n cap)) (ht : KH c.P t = some e) (hsz : Qg c.P e = some sz)
  (hl : Jkv l lo kl) (hh : Jkv l hi kh) (hm : Jkv l mx km) (e1 : kl.getD 0 = m) (e2 : kh.getD n = q) (e3 : km.getD cap = z) (h1 : m ≤ q) (h2 : q ≤ z) (h3 : z ≤ cap) (h4 : kh = none → km = none) (ho : (if z = m then off else off + m * sz) = off') :
  JM c d l L X ⟨some i, .slice t x lo hi mx, ty, ps, af, gd⟩ (.slice (some ⟨r, off', none⟩) (q - m) (z - m)) := fun a' w hf _ => by
 have ex := hf.eval hx
 subst e1 e2 e3 ho
 have low : ∀ {o : Option Operand} {k : Option Nat}, Jkv l o k → (o.map a'.eval = none ∧ k = none) ∨ (∃ y n, o.map a'.eval = some (.int y ((n : Nat) : Int)) ∧ k = some n) := by
  intro o k h
  cases o with
  | none => cases k with
   | none => exact .inl ⟨rfl, rfl⟩
   | some k => exact h.elim
  | some o => cases k with
   | none => exact h.elim
   | some k => obtain ⟨y, hy⟩ := h; exact .inr ⟨y, k, by simp [hf.eval hy], rfl⟩
 simp only [execOp, ex]
 have hadd : ∀ k : Nat, Addr.add ⟨r, off, none⟩ k = ⟨r, off + k, none⟩ := fun k => XL r off k
 rcases low hl with ⟨f1, rfl⟩ | ⟨y1, n1, f1, rfl⟩ <;> rcases low hh with ⟨f2, rfl⟩ | ⟨y2, n2, f2, rfl⟩ <;> rcases low hm with ⟨f3, rfl⟩ | ⟨y3, n3, f3, rfl⟩ <;> simp only [Option.getD_none, Option.getD_some] at h1 h2 h3 ⊢ <;>
  (try (have := h4 rfl; cases this)) <;> rw [f1, f2, f3] <;>
  simp [Instr.sliceAt, Instr.slice, Sem.run_bind, Qe (Ky ht), Vy hsz, Result.andThen, Instr.sliceBounds, Instr.sliceBound, asIntOf, h1, h2, h3, hadd]
 all_goals split <;> simp_all
end
open Go Go.RowKit Go.Shelf Go.ChangeShapes Go.WideShapes
abbrev Pl : Type := Option (Addr × Nat)
def plA : Pl → Option Addr
 | none => none
 | some (a, _) => some a
def plC : Pl → Nat
 | none => 0
 | some (_, cap) => cap
def KA (n : Nat) (p : Pl) : Value := .slice (plA p) n (plC p)
def plB : Pl → Nat
 | none => 0
 | some (a, _) => a.block
def Xe : Pl → Nat
 | none => 0
 | some (a, _) => a.off
def Seg (R : Jx) (n : Nat) (cs : List Value) : Pl → Prop
 | none => n = 0
 | some (a, cap) => n ≤ cap ∧ (0 < n → a.spot = none ∧ ∃ all e fr, (a.block, Obj.cells all e fr) ∈ R ∧ (all.toList.drop a.off).take cs.length = cs)
theorem Seg.nil : Seg R 0 [] none := rfl
theorem Seg.mono {n : Nat} {cs : List Value} {p : Pl} (h : Seg R n cs p) (hs : ∀ q ∈ R, q ∈ R') : Seg R' n cs p := by
 cases p with
 | none => exact h
 | some q => obtain ⟨a, cap⟩ := q; exact ⟨h.1, fun h0 => by obtain ⟨h1, all, e, fr, h2, h3⟩ := h.2 h0; exact ⟨h1, all, e, fr, hs _ h2, h3⟩⟩
theorem Jq5 {all cs : List α} {o : Nat} {v : α} (h : (all.drop o).take cs.length = cs) (hv : cs[j]? = some v) : all[o + j]? = some v := by
 rw [← h, List.getElem?_take] at hv
 split at hv
 ·rwa [List.getElem?_drop] at hv
 ·cases hv
theorem Jfd {all cs vs : List α} {o : Nat} (h : (all.drop o).take cs.length = cs) (hv : (cs.drop j).take m = vs) (hm : vs.length = m) : (all.drop (o + j)).take m = vs := by
 have h1 : j + m ≤ cs.length ∨ m = 0 := by
  have := congrArg List.length hv
  rw [List.length_take, List.length_drop, hm] at this
  omega
 rcases h1 with h1 | h1
 ·rw [← hv, ← h, List.drop_take, List.drop_drop, List.take_take, Nat.min_eq_left m5]
 ·subst h1; rw [List.take_zero] at hv ⊢; exact hv
theorem Xf {α : Type} {f : α → List Value} {m : Nat} (hf : ∀ x, (f x).length = m) : ∀ {l : List α} {j : Nat} {x : α}, l[j]? = some x → ((l.flatMap f).drop (j * m)).take m = f x
 | [], _, _, h => by simp at h
 | y :: l, 0, x, h => by
  obtain rfl : y = x := by simpa using h
  rw [Nat.zero_mul, List.drop_zero, List.flatMap_cons, List.take_left' (hf y)]
 | y :: l, j + 1, x, h => by
  have e : (j + 1) * m = (f y).length + j * m := by rw [hf, Nat.succ_mul, Nat.add_comm]
  rw [e, List.flatMap_cons, ← List.drop_drop, List.drop_left' rfl]
  exact Xf hf Mh
theorem KO {α : Type} {f : α → List Value} {m : Nat} (hf : ∀ x, (f x).length = m) : ∀ l : List α, (l.flatMap f).length = l.length * m
 | [] => by simp
 | y :: l => by rw [List.flatMap_cons, List.length_append, hf, KO hf l, List.length_cons, Nat.succ_mul, Nat.add_comm]
section
variable {c : Cx} {l : KQ} {L : Jx} {X : XP} {Q : Exit → Act → World → Prop} {d : List Deferred}
variable {ops : Array Oper} {rest : List Oper} {i : Nat} {v : Value} {t : TypeId} {ps : String} {af : Array Edge} {gd : Option (Nat × Bool)} {ty : TypeId}
theorem Jy {p : Pl} {n : Nat} {cs : List Value} (hx : Kx l x = some (KA n p)) (hs : Seg R n cs p) (ht : KH c.P t = some e) :
  JM c d l L X ⟨some i, .call ⟨.builtin .len, #[x], #[t]⟩, ty, ps, af, gd⟩ (.int .i64 n) := by
 cases p with
 | none => have h : n = 0 := hs; subst h; exact Kc hx ht
 | some q => obtain ⟨a, cap⟩ := q; exact Kc hx ht
theorem Jk {p : Pl} {cs : List Value} {n e : Nat} {k : IntKind} {z : Int} (hx : Kx l x = some (KA n p)) (hs : Seg R n cs p) (hy : Kx l y = some (.int k z)) (ha : KH c.P t = some e) (hm : Qg c.P e = some m) (hz : z = (j : Int)) (hj : j < n) :
  JM c d l L X ⟨some i, .indexAddr t x y, ty, ps, af, gd⟩ (.pointer (some ⟨plB p, Xe p + j * m, none⟩)) := by
 cases p with
 | none => have h : n = 0 := hs; omega
 | some q =>
  obtain ⟨⟨b, o, s⟩, cap⟩ := q
  have h1 : s = none := (hs.2 m5).1
  subst h1
  exact JO hx hy ha hm hz hj O
theorem qt {p : Pl} {cs : List Value} {n : Nat} (hR : ∀ q ∈ R, known c L q.1 q.2) (hx : Kx l x = some (.pointer (some ⟨plB p, Xe p + j, none⟩))) (hs : Seg R n cs p) (hn : 0 < n) (ht : Wy c.P t = some false) (hv : cs[j]? = some v) :
  JM c d l L X ⟨some i, .load t x, ty, ps, af, gd⟩ v := by
 cases p with
 | none => have h : n = 0 := hs; omega
 | some q =>
  obtain ⟨⟨b, o, s⟩, cap⟩ := q
  obtain ⟨_, all, e, fr, h1, h2⟩ := hs.2 hn
  exact Je hx (hR _ h1) ht (by rw [Xw]; exact Jq5 h2 hv)
theorem vu {p : Pl} {cs : List Value} {n : Nat} (hR : ∀ q ∈ R, known c L q.1 q.2) (hx : Kx l x = some (.pointer (some ⟨plB p, Xe p + j, none⟩))) (hs : Seg R n cs p) (hn : 0 < n) (ht : Wy c.P t = some true) (hm : Qg c.P t = some m) (hv : (cs.drop j).take m = vs) (hl : vs.length = m) :
  JM c d l L X ⟨some i, .load t x, ty, ps, af, gd⟩ (.agg vs.toArray) := by
 cases p with
 | none => have h : n = 0 := hs; omega
 | some q =>
  obtain ⟨⟨b, o, s⟩, cap⟩ := q
  obtain ⟨_, all, e, fr, h1, h2⟩ := hs.2 hn
  exact Jz hx (hR _ h1) ht hm (Jfd h2 hv hl) hl
end
theorem JL (z : Array Value) (n : Nat) : (madeCells z n).toList = (List.range n).map (fun i => z.toList.getD (i % z.size) default) := by
 unfold madeCells
 simp
 intro a _
 rw [getElem!_def]
 cases z[a % z.size]? <;> rfl
def ZI (z : Int) : Prop := -9223372036854775808 ≤ z ∧ z ≤ 9223372036854775807
inductive Ty : Type
  | mk (k n : Int) (p : Pl) (ins : List Ty)
def Ty.k : Ty → Int
 | .mk k _ _ _ => k
def Ty.n : Ty → Int
 | .mk _ n _ _ => n
def Ty.p : Ty → Pl
 | .mk _ _ p _ => p
def Ty.ins : Ty → List Ty
 | .mk _ _ _ ins => ins
def Ty.cells : Ty → List Value
 | .mk k n p ins => [.int .i64 k, .int .i64 n, KA ins.length p]
def Ty.val (t : Ty) : Value := .agg t.cells.toArray
def Jci (l : List Ty) : List Value := l.flatMap Ty.cells
theorem Ty.one (t : Ty) : t.cells.all QE = true := by cases t; rfl
theorem Ty.len (t : Ty) : t.cells.length = 3 := by cases t; rfl
inductive Ty.In (R : Jx) : Ty → Prop
  | mk {k n : Int} {p : Pl} {ins : List Ty} (hk : ZI k) (hn : ZI n) (hl : ins.length ≤ 9223372036854775807) (hs : Seg R ins.length (Jci ins) p) (hi : ∀ x ∈ ins, Ty.In R x) : Ty.In R (.mk k n p ins)
theorem Ty.In.mono (hs : ∀ q ∈ R, q ∈ R') {t : Ty} (h : Ty.In R t) : Ty.In R' t := by
 induction h with
 | mk hk hn hl hg hi ih => exact .mk hk hn hl (hg.mono hs) ih
theorem Ty.In.sub {k n : Int} {p : Pl} {ins : List Ty} (h : Ty.In R (.mk k n p ins)) : ∀ x ∈ ins, Ty.In R x := by
 cases h; assumption
inductive Vl : Type
  | mk (a b c d : Nat) (bits : List Bool) (pb : Pl) (items : List Vl) (pi : Pl) (pick : Int)
def Vl.num : Vl → List Nat
 | .mk a b c d _ _ _ _ _ => [a, b, c, d]
def Vl.bits : Vl → List Bool
 | .mk _ _ _ _ l _ _ _ _ => l
def Vl.items : Vl → List Vl
 | .mk _ _ _ _ _ _ l _ _ => l
def Vl.pick : Vl → Int
 | .mk _ _ _ _ _ _ _ _ k => k
def Vl.cells : Vl → List Value
 | .mk a b c d bits pb items pi pick => [uV a, uV b, uV c, uV d, KA bits.length pb, KA items.length pi, .int .i64 pick]
def Vl.val (t : Vl) : Value := .agg t.cells.toArray
def Ql (l : List Vl) : List Value := l.flatMap Vl.cells
def W9 (l : List Bool) : List Value := l.map .bool
theorem Vl.one (t : Vl) : t.cells.all QE = true := by cases t; rfl
theorem Vl.len (t : Vl) : t.cells.length = 7 := by cases t; rfl
def Wr (n : Nat) : Prop := n < 18446744073709551616
inductive Vl.In (R : Jx) : Vl → Prop
  | mk {a b c d : Nat} {bits : List Bool} {pb : Pl} {items : List Vl} {pi : Pl} {pick : Int} (ha : Wr a) (hb : Wr b) (hc : Wr c) (hd : Wr d) (hlb : bits.length ≤ 9223372036854775807) (hsb : Seg R bits.length (W9 bits) pb)
      (hl : items.length ≤ 9223372036854775807) (hs : Seg R items.length (Ql items) pi) (hp : ZI pick) (hi : ∀ x ∈ items, Vl.In R x) : Vl.In R (.mk a b c d bits pb items pi pick)
theorem Vl.In.mono (hs : ∀ q ∈ R, q ∈ R') {t : Vl} (h : Vl.In R t) : Vl.In R' t := by
 induction h with
 | mk ha hb hc hd hlb hsb hl hg hp hi ih => exact .mk ha hb hc hd hlb (hsb.mono hs) hl (hg.mono hs) hp ih
theorem Vl.In.sub {a b c d : Nat} {bits : List Bool} {pb : Pl} {items : List Vl} {pi : Pl} {pick : Int} (h : Vl.In R (.mk a b c d bits pb items pi pick)) : ∀ x ∈ items, Vl.In R x := by
 cases h; assumption
section
variable {c : Cx} {l : KQ} {L : Jx} {X : XP} {d : List Deferred} {i : Nat} {t : TypeId} {ps : String} {af : Array Edge} {gd : Option (Nat × Bool)} {ty : TypeId}
theorem qu {l : List α} {y : α} (h : l[j]? = some y) : 0 < l.length := by
 have := (List.getElem?_eq_some_iff.1 h).1; omega
theorem KC {p : Pl} {ins : List Ty} {y : Ty} (hR : ∀ q ∈ R, known c L q.1 q.2) (hx : Kx l x = some (.pointer (some ⟨plB p, Xe p + j * 3, none⟩))) (hs : Seg R ins.length (Jci ins) p) (hy : ins[j]? = some y) (ht : Wy c.P t = some true) (hm : Qg c.P t = some 3) :
  JM c d l L X ⟨some i, .load t x, ty, ps, af, gd⟩ y.val :=
 vu hR hx hs (qu hy) ht hm (Xf Ty.len hy) y.len
theorem QV {p : Pl} {ins : List Vl} {y : Vl} (hR : ∀ q ∈ R, known c L q.1 q.2) (hx : Kx l x = some (.pointer (some ⟨plB p, Xe p + j * 7, none⟩))) (hs : Seg R ins.length (Ql ins) p) (hy : ins[j]? = some y) (ht : Wy c.P t = some true) (hm : Qg c.P t = some 7) :
  JM c d l L X ⟨some i, .load t x, ty, ps, af, gd⟩ y.val :=
 vu hR hx hs (qu hy) ht hm (Xf Vl.len hy) y.len
theorem Qz {p : Pl} {cs : List Value} {n : Nat} (hR : ∀ q ∈ R, known c L q.1 q.2) (hx : Kx l x = some (.pointer (some ⟨plB p, Xe p + j * 1, none⟩))) (hs : Seg R n cs p) (hn : j < n) (ht : Wy c.P t = some false) (hv : cs[j]? = some v) :
  JM c d l L X ⟨some i, .load t x, ty, ps, af, gd⟩ v :=
 qt hR (by rw [Nat.mul_one] at hx; exact hx) hs m5 ht hv
theorem WV {p : Pl} {bits : List Bool} {y : Bool} (hR : ∀ q ∈ R, known c L q.1 q.2) (hx : Kx l x = some (.pointer (some ⟨plB p, Xe p + j * 1, none⟩))) (hs : Seg R bits.length (W9 bits) p) (hy : bits[j]? = some y) (ht : Wy c.P t = some false) :
  JM c d l L X ⟨some i, .load t x, ty, ps, af, gd⟩ (.bool y) :=
 qt hR (by rw [Nat.mul_one] at hx; exact hx) hs (qu hy) ht (by unfold W9; rw [List.getElem?_map, hy]; rfl)
end
section
variable {c : Cx} {l : KQ} {L : Jx} {X : XP} {d : List Deferred} {i : Nat} {v : Value} {ps : String} {af : Array Edge} {gd : Option (Nat × Bool)} {ty : TypeId}
theorem Vt {T : Act → Prop}
  (hg : Kz l ops ⟨some i, .call ⟨.value f, args, at_⟩, ty, ps, af, gd⟩ = some true) (hi : Nat.ble (i + 1) c.n = true) (hca : KM l f args = some (g, vs)) (eg : Enters c.P g)
  (hp : PureR c.P g vs.toArray v Rl) (hk : ∀ p ∈ Rl, known c L p.1 p.2) (h : HD c d ((i, v) :: l) L X ops rest T) : HD c d l L X ops (⟨some i, .call ⟨.value f, args, at_⟩, ty, ps, af, gd⟩ :: rest) T := fun a hf => by
 refine ⟨fun _ _ _ _ => trivial, ?_⟩
 rw [if_pos (JR hf hg)]
 refine ⟨v, fun w hs => ?_, h _ (hf.put (Nat.le_of_ble_eq_true hi))⟩
 unfold Oper.quietAtIn
 rw [X9 hf hca c.P w _ rfl eg]
 refine ⟨rfl, fun hdep => N7, ?_⟩
 have hc := callsIn_wide (n := 0) |>.2 (hp.run w fun p hp => hs.known (hk p hp))
 refine CallsIn.mono Me ?_
 rintro e w' ⟨rfl, hk⟩
 exact ⟨rfl, hs.more hk⟩
end
theorem QD {l : List α} (h : j < l.length) : ∃ y, l[j]? = some y ∧ y ∈ l := ⟨l[j], List.getElem?_eq_getElem h, List.getElem_mem h⟩
theorem VY {l : List α} {y : α} (h : l[j]? = some y) : l.drop j = y :: l.drop (j + 1) := by
 exact EN
def Jih (w : World) : Jx := w.heap.toList.zipIdx.map fun p => (p.2, p.1)
theorem has_allB (w : World) : Has (Jih w) w := by
 intro p hp
 obtain ⟨q, hq, rfl⟩ := List.mem_map.1 hp
 have := List.mem_zipIdx_iff_getElem?.1 hq
 rw [Array.getElem?_toList] at this
 exact this
theorem Jq6 {o : Obj} (h : w.heap[r]? = some o) : (r, o) ∈ Jih w :=
 List.mem_map.2 ⟨(o, r), List.mem_zipIdx_iff_getElem?.2 (by rw [Array.getElem?_toList]; exact h), rfl⟩
def Km (k n : Int) (m : Nat) : Bool :=
 if k = 1 then decide (m = 0) && (decide (n = 1) || decide (n = 2) || decide (n = 4) || decide (n = 8) || decide (n = 32))
 else if k = 2 then decide (m = 0) && decide (n = 0)
 else if k = 3 ∨ k = 4 then decide (m = 1) && decide (1 ≤ n) && decide (n ≤ 512)
 else if k = 5 ∨ k = 6 then decide (m = 0) && decide (1 ≤ n) && decide (n ≤ 512)
 else if k = 7 then decide (n = 0) && decide (1 ≤ m) && decide (m ≤ 16)
 else decide (n = 0) && decide (1 ≤ m) && decide (m ≤ 8)
mutual
def chk : Ty → Int → Int
 | .mk k n _ ins, d => if k < 1 ∨ 8 < k then 9 else if Km k n ins.length = false then 2 else if 6 ≤ d then 7 else Xx ins (d + 1)
def Xx : List Ty → Int → Int
 | [], _ => 0
 | x :: xs, d => if chk x d = 0 then Xx xs d else chk x d
end
mutual
def WA : Ty → Bool
 | .mk k _ _ ins => !(decide (k = 4) || decide (k = 6) || decide (k = 8)) && ZN ins
def ZN : List Ty → Bool
 | [] => true
 | x :: xs => WA x && ZN xs
end
mutual
def KX : Ty → Int
 | .mk k n _ ins => if k = 1 then n else if k = 2 then 1 else if k = 5 then (n + 7) / 8 else if k = 3 then n * V7 ins else V7 ins
def V7 : List Ty → Int
 | [] => 0
 | x :: xs => KX x + V7 xs
end
def VD (t : Ty) : Bool := decide (chk t 0 = 0) && WA t
def ZA (t : Ty) : Int := if VD t then KX t else 0
mutual
def XQ : Vl → Vl → Bool
 | .mk a b c d bits _ items _ pick, v => decide ([a, b, c, d] = v.num) && decide (pick = v.pick) && decide (bits = v.bits) && Ws items v.items
def Ws : List Vl → List Vl → Bool
 | [], [] => true
 | x :: xs, y :: ys => XQ x y && Ws xs ys
 | _, _ => false
end
theorem Ty.ind {M : Ty → Prop} (h : ∀ k n p ins, (∀ x ∈ ins, M x) → M (.mk k n p ins)) : ∀ t, M t
 | .mk k n p ins => h k n p ins fun x hx => Ty.ind h x
theorem Vl.ind {M : Vl → Prop} (h : ∀ a b c d bits pb items pi pick, (∀ x ∈ items, M x) → M (.mk a b c d bits pb items pi pick)) : ∀ t, M t
 | .mk a b c d bits pb items pi pick => h a b c d bits pb items pi pick fun x hx => Vl.ind h x
theorem chkL_mem : ∀ {l : List Ty} {d : Int}, Xx l d = 0 → ∀ x ∈ l, chk x d = 0
 | [], _, _, x, hx => by simp at hx
 | y :: l, d, h, x, hx => by
  rw [Xx] at h
  split at h
  ·rename_i h0
   rcases List.mem_cons.1 hx with rfl | hx
   ·exact h0
   ·exact chkL_mem h x hx
  ·rename_i h0; exact absurd h h0
theorem ZO : ∀ {l : List Ty}, ZN l = true ↔ ∀ x ∈ l, WA x = true
 | [] => by simp [ZN]
 | y :: l => by rw [ZN, Bool.and_eq_true, ZO]; simp
theorem QZ {k n : Int} {p : Pl} {ins : List Ty} {d : Int} (h : chk (.mk k n p ins) d = 0) : (1 ≤ k ∧ k ≤ 8) ∧ Km k n ins.length = true ∧ d < 6 ∧ ∀ x ∈ ins, chk x (d + 1) = 0 := by
 rw [chk] at h
 split at h
 ·cases h
 ·split at h
  ·cases h
  ·split at h
   ·cases h
   ·rename_i h1 h2 h3
    exact ⟨by omega, by simpa using h2, by omega, chkL_mem h⟩
def bnd : Nat → Int
 | 0 => 64
 | m + 1 => 512 * bnd m
theorem yf : ∀ m, 64 ≤ bnd m
 | 0 => by decide
 | m + 1 => by have := yf m; rw [bnd]; omega
theorem Jcj (h : m ≤ 5) : bnd m ≤ 2251799813685248 := by
 have : ∀ m : Nat, m < 6 → bnd m ≤ 2251799813685248 := by decide
 exact this m m5
theorem yg {B : Int} : ∀ {l : List Ty}, (∀ x ∈ l, 1 ≤ KX x ∧ KX x ≤ B) → (l.length : Int) ≤ V7 l ∧ V7 l ≤ l.length * B
 | [], _ => by simp [V7]
 | y :: l, h => by
  have h1 := h y ml
  have h2 := yg (l := l) fun x hx => h x (by simp [hx])
  rw [V7, List.length_cons]
  have e : ((l.length + 1 : Nat) : Int) * B = l.length * B + B := by rw [Int.natCast_add, Int.add_mul]; simp
  omega
theorem vv (t : Ty) : ∀ d : Int, 0 ≤ d → chk t d = 0 → WA t = true → 1 ≤ KX t ∧ KX t ≤ bnd (5 - d).toNat := by
 induction t using Ty.ind with
 | h k n p ins ih =>
  intro d hd hc hf
  obtain ⟨hk, ho, h6, hi⟩ := QZ hc
  rw [WA, Bool.and_eq_true] at hf
  have hb := yf (5 - d).toNat
  have hfix := ZO.1 hf.2
  have hne : (k ≠ 4 ∧ k ≠ 6) ∧ k ≠ 8 := by simpa using hf.1
  unfold Km at ho
  rw [KX]
  by_cases h1 : k = 1
  ·subst h1; simp at ho ⊢; omega
  by_cases h2 : k = 2
  ·subst h2; simp; omega
  by_cases h5 : k = 5
  ·subst h5; simp at ho ⊢; omega
  have hne0 : 1 ≤ ins.length ∧ ins.length ≤ 16 := by
   by_cases h3 : k = 3
   ·subst h3; simp at ho; omega
   ·have : k = 7 := by omega
    subst this; simp at ho; omega
  have hd5 : d < 5 := by
   obtain ⟨x, hx⟩ : ∃ x, x ∈ ins := ⟨ins[0], List.getElem_mem m5⟩
   cases x with
   | mk a b c e => have := (QZ (hi _ hx)).2.2.1; omega
  have hs := yg (B := bnd (5 - (d + 1)).toNat) fun x hx => ih x hx (d + 1) m5 (hi x hx) (hfix x hx)
  have e : (5 - d).toNat = (5 - (d + 1)).toNat + 1 := by omega
  rw [e, bnd]
  have hb2 := yf (5 - (d + 1)).toNat
  generalize bnd (5 - (d + 1)).toNat = B at *
  rw [if_neg h1, if_neg h2, if_neg h5]
  by_cases h3 : k = 3
  ·subst h3
   simp at ho
   have hl : (ins.length : Int) = 1 := by omega
   rw [hl] at hs
   rw [if_pos rfl]
   generalize V7 ins = z at *
   constructor
   ·exact Int.le_trans m5 (Int.mul_le_mul ho.1.2 hs.1 m5 m5)
   ·exact Int.le_trans (Int.mul_le_mul ho.2 hs.2 m5 m5) m5
  ·rw [if_neg h3]
   generalize V7 ins = z at *
   exact EY
theorem WW : ∀ {xs ys : List Vl}, Ws xs ys = true ↔ xs.length = ys.length ∧ ∀ (i : Nat) (x y : Vl), xs[i]? = some x → ys[i]? = some y → XQ x y = true
 | [], [] => by simp [Ws]
 | [], y :: ys => by simp [Ws]
 | x :: xs, [] => by simp [Ws]
 | x :: xs, y :: ys => by
  rw [Ws, Bool.and_eq_true, WW]
  constructor
  ·rintro ⟨h1, h2, h3⟩
   refine ⟨by simp [h2], fun i a b ha hb => ?_⟩
   cases i with
   | zero => simp at ha hb; subst ha; subst hb; exact h1
   | succ i => exact h3 i a b (by simpa using ha) Nb
  ·rintro ⟨h1, h2⟩
   exact ⟨h2 0 x y O O, by simpa using h1, fun i a b ha hb => h2 (i + 1) a b (by simpa using ha) Nb⟩
theorem Jii (v : Vl) : XQ v v = true := by
 induction v using Vl.ind with
 | h a b c d bits pb items pi pick ih =>
  rw [XQ]
  have : Ws items items = true := WW.2 ⟨rfl, fun i x y hx hy => by rw [hx] at hy; cases hy; exact ih x (List.mem_of_getElem? hx)⟩
  simp [Vl.num, Vl.pick, Vl.bits, Vl.items, this]
structure PureMR (P : Program) (f : FuncId) (args : Array Value) (v : Value) (r : Nat) (o o' : Obj) (Rl : Jx) : Prop where
  run : ∀ w, w.heap[r]? = some o → Has Rl w → Calls P f args w fun e w' => e = .returned v ∧ Keep [r] w w' ∧ w'.heap[r]? = some o'
def Jck (P : Program) (w : World) (r : Nat) (Rl : Jx) (n : Nat) : Cx := ⟨P, none, w, [r], [], Rl, n⟩
theorem St.startMR  {n : Nat} {o : Obj} (h : w.heap[r]? = some o) (hR : Has Rl w) (hne : ∀ p ∈ Rl, p.1 ≠ r) : St (Jck P w r Rl n) [(r, o)] (fun _ _ => True) w :=
 ⟨Keep.refl _ _, fun p hp => by rw [List.mem_singleton.1 hp]; exact ⟨.inl List.mem_cons_self, by simp [Jck], h⟩, List.pairwise_singleton _ _, fun p hp => ⟨by simp [Jck]; exact hne p hp, by simp [Jck], hR p hp⟩, by simp [Jck], ⟨[], by simp, fun _ _ => trivial⟩⟩
theorem XD {f : FuncId} {o : Obj} (hne : ∀ p ∈ Rl, p.1 ≠ r) (hf : P.funcs[f]? = some fn) (hb : fn.body = some code) (hlen : Nat.ble vs.length fn.ntmps = true)
  (h : ∀ w, HC (Jck P w r Rl fn.ntmps) [] (Wj 0 vs) [(r, o)] (fun _ _ => True) code (bodyPostM (FW none) 0 P fn (fun e w' => e = .returned v ∧ ∃ L, (r, o') ∈ L ∧ St (Jck P w r Rl fn.ntmps) L (fun _ _ => True) w'))) : PureMR P f vs.toArray v r o o' Rl := ⟨fun w hr hR =>
 (QR (Jck P w r Rl fn.ntmps) hf hb rfl rfl rfl hlen (St.startMR hr hR hne) (h w)).mono fun _ _ ⟨he, L, hm, hs⟩ => ⟨he, by have := hs.keep; simpa [Jck] using this, (hs.own _ hm).2.2⟩⟩
section
variable {c : Cx} {l : KQ} {L : Jx} {X : XP} {Q : Exit → Act → World → Prop} {d : List Deferred}
variable {ops : Array Oper} {rest : List Oper} {i : Nat} {v : Value} {t : TypeId} {ps : String} {af : Array Edge} {gd : Option (Nat × Bool)} {ty t2 : TypeId}
theorem St.apart (hs : St c L X w) {k : Nat} {o : Obj} (hk : L[k]? = some (r, o)) : ∀ p ∈ c.R, p.1 ≠ r := by
 rintro p hp rfl
 have h1 := (hs.own _ (List.mem_of_getElem? hk)).1
 obtain ⟨h2, _, h3⟩ := hs.ext p hp
 rcases h1 with h1 | h1
 ·exact h2 h1
 ·have := JP h3
  exact absurd this (Nat.not_lt.2 h1)
theorem Jn4 {k : Nat} {o : Obj}
  (hg : Kz l ops ⟨some i, .call ⟨.value f, args, at_⟩, ty, ps, af, gd⟩ = some true) (hi : Nat.ble (i + 1) c.n = true) (hca : KM l f args = some (g, vs)) (eg : Enters c.P g) (hk : L[k]? = some (r, o))
  (hp : (∀ p ∈ Rl, p.1 ≠ r) → PureMR c.P g vs.toArray v r o o' Rl) (hR : ∀ p ∈ Rl, p ∈ c.R) (hL : L.set k (r, o') = L') (h : HL c d ((i, v) :: l) L' X ops rest Q) : HL c d l L X ops (⟨some i, .call ⟨.value f, args, at_⟩, ty, ps, af, gd⟩ :: rest) Q :=
 XK (α := Unit) (V := fun _ => v) (L' := fun _ => L') (X' := fun _ => X) hg hi hca eg (fun w hs => ((hp fun p hq => hs.apart hk p (hR p hq)).run w (hs.get hk) (fun p hq => hs.readR (hR p hq))).mono fun _ _ ⟨he, hkp, ho⟩ => ⟨(), he, hL ▸ hs.set hk hkp ho⟩) (fun _ => h)
theorem yV (hg : Kz l ops ⟨some i, .makeMap t none, ty, ps, af, gd⟩ = some true) (hi : Nat.ble (i + 1) c.n = true)
  (h : ∀ r, HL c d ((i, .map (some r)) :: l) ((r, .map #[] 0) :: L) X ops rest Q) : HL c d l L X ops (⟨some i, .makeMap t none, ty, ps, af, gd⟩ :: rest) Q :=
 Wi (α := Nat) (V := fun r => .map (some r)) (L' := fun r => (r, .map #[] 0) :: L) (X' := fun _ => X) hg rfl rfl hi (fun a w _ hs => ⟨w.heap.size, w.alloc (.map #[] 0), by simp only [execOp, Sem.run_bind, Option.map]; rfl, hs.alloc _⟩) h
theorem Qs {m : Operand} {kt et : Nat} {key val : Value} (K : KeyL c.P kt dom eq) (hg : Kz l ops ⟨none, .insert t m x y, ty, ps, af, gd⟩ = some true)
  (hm : Kx l m = some (.map (some r))) (hx : Kx l x = some key) (hy : Kx l y = some val) (hq : L[q]? = some (r, .map es clock)) (ht : wf c.P t = some (kt, et)) (hk : dom key) (he : ∀ e ∈ es.toList, dom e.key) (hn : KW eq key (es.toList.map V9) = none)
  (hL : L.set q (r, .map (es.push { key := key, val := val, born := clock }) (clock + 1)) = L') (h : HL c d l L' X ops rest Q) : HL c d l L X ops (⟨none, .insert t m x y, ty, ps, af, gd⟩ :: rest) Q :=
 Jbx hg rfl rfl (fun a w hf hs => ⟨_, by
  simp only [execOp, Sem.run_bind]
  rw [hf.eval hm, hf.eval hx, hf.eval hy, yH K ht (hs.get hq) hk he hn]; rfl, hL ▸ hs.set hq (Keep.putObj r _) (World.putObj_heap_same (JP (hs.get hq)))⟩) h
end
def isI (v : Value) : Prop := ∃ n, v = .int .i64 n
def ZB (x y : Value) : Bool := eqS x y
theorem yW (ht : P.underlying t = some (.int .i64)) (b : Bool) (n : Nat) (x : Int) (w : World) : (Instr.checkKey b (n + 1) t (.int .i64 x)).run P w = .ok () w := by
 simp [Instr.checkKey, Sem.run_bind, Qe ht, Result.andThen]
theorem Yg (ht : P.underlying t = some (.int .i64)) : KeyL P t isI ZB where
 now := ⟨_, ht, fun a b ⟨a1, ha⟩ ⟨b1, hb⟩ => by subst ha hb; exact .inr (by simp [Instr.sameNow, ZB, eqS])⟩
 equal := by
  rintro _ _ w ⟨a, rfl⟩ ⟨b, rfl⟩
  exact Jb5 (by simp [W8, ht]) (by simp [W8, ht]) 9999 w
 check := by
  rintro _ b w ⟨x, rfl⟩
  exact yW ht b 9999 x w
theorem Jq7 (a b : Int) : ZB (.int .i64 a) (.int .i64 b) = (a == b) := rfl
structure GE where
  α : Type
  V : α → Value
  LL : α → Jx
  x0 : α
inductive Kb
  | quiet
  | pure
  | grow (e : GE)
  | turn
  | dep (ts : List Nat) (e : List Value → GE)
abbrev jX := Nat → Kb
variable {tb : jX}
def Kb.isGrow : Kb → Bool
 | .grow _ => true
 | .dep _ _ => true
 | _ => false
def XR (a : Act) (ts : List Nat) : List Value := ts.map fun t => a.eval (.tmp t)
def Kb.ge : Kb → Act → Option GE
 | .grow e, _ => some e
 | .dep ts e, a => some (e (XR a ts))
 | _, _ => none
def Jn5 (ops : Array Oper) (tb : jX) (m : Nat) : Prop :=
 ∀ j, j < m → ∀ o, ops[j]? = some o → ∀ ts e, tb j = .dep ts e → ∀ t ∈ ts, t ∈ o.looksAt ops
theorem Jn6 {dst : Option Tmp} (h : ∀ d, dst = some d → d ∉ o.looksAt ops) (ht : ∀ t ∈ ts, t ∈ o.looksAt ops) : XR (a.put dst v) ts = XR a ts :=
 List.map_congr_left fun t hm => Act.eval_put fun d hd e => by cases e; exact h t hd (ht t hm)
theorem yX {dst : Option Tmp} (hd : Jn5 ops tb m) (hj : j < m) (ho : ops[j]? = some o) (h : ∀ d, dst = some d → d ∉ o.looksAt ops) : (tb j).ge (a.put dst v) = (tb j).ge a := by
 cases ht : tb j with
 | dep ts e => show some (e (XR (a.put dst v) ts)) = some (e (XR a ts)); rw [Jn6 h (hd j hj o ho ts e ht)]
 | _ => rfl
theorem Jaj {k : Kb} (a : Act) (h : k.isGrow = true) : ∃ e, k.ge a = some e := by
 cases k with
 | grow e => exact ⟨e, rfl⟩
 | dep ts e => exact ⟨_, rfl⟩
 | _ => cases h
def Kb.isTurn : Kb → Bool
 | .turn => true
 | _ => false
def Kb.isQuiet : Kb → Bool
 | .quiet => true
 | _ => false
section
variable {c : Cx} {X : XP} {S : Jx} {ops : Array Oper} {md : Region.Mode}
def Jq8 (LL : Jx) (w w' : World) : Prop := Keep [] w w' ∧ (∀ p ∈ LL, w.heap.size ≤ p.1 ∧ w'.heap[p.1]? = some p.2) ∧ LL.Pairwise fun p q => p.1 ≠ q.1
def YG (c : Cx) (X : XP) (S : Jx) (ops : Array Oper) (o : Oper) (e : GE) (a : Act) : Prop :=
 Region.wanted o (yielded ops a.tmps) = true ∧ ∀ E, SubS S E → ∀ w, St c E X w → actAt c o a w fun u w' => ∃ x, u = e.V x ∧ Jq8 (e.LL x) w w'
theorem YG.same {e : GE} (hy : YG c X S ops o e a) (he : execOp a'.eval o = execOp a.eval o) (hw : Region.wanted o (yielded ops a'.tmps) = Region.wanted o (yielded ops a.tmps)) : YG c X S ops o e a' :=
 ⟨hw.trans hy.1, fun E hE w hs => (hy.2 E hE w hs).same he⟩
def YT (c : Cx) (E : Jx) (X : XP) (ops : Array Oper) (o : Oper) {α : Type} (V : α → Value) (G : α → Jx) (a : Act) : Prop :=
 Region.wanted o (yielded ops a.tmps) = true ∧ ∀ w, St c E X w → actAt c o a w fun u w' => ∃ x, u = V x ∧ St c (G x) X w'
def stB (c : Cx) (X : XP) (S : Jx) (ops : Array Oper) (tb : jX) (i : Nat) (K : Jx → Act → Prop) (E : Jx) (a : Act) : Prop :=
 ∃ o, ops[i]? = some o ∧ match tb i with
  | .quiet => ∃ v, YQ c E X ops o v a ∧ K E (a.put o.dst v)
  | .pure => ∃ v, YP c X S ops o v a ∧ K E (a.put o.dst v)
  | .grow e => (YG c X S ops o e a ∧ ∀ x, K (e.LL x ++ E) (a.put o.dst (e.V x))) ∨ (Region.wanted o (yielded ops a.tmps) = false ∧ K E (a.put o.dst undef))
  | .turn => (∃ (α : Type) (V : α → Value) (G : α → Jx), YT c E X ops o V G a ∧ ∀ x, SubS S (G x) ∧ K (G x) (a.put o.dst (V x))) ∨ (Region.wanted o (yielded ops a.tmps) = false ∧ K E (a.put o.dst undef))
  | .dep ts e => (YG c X S ops o (e (XR a ts)) a ∧ ∀ x, K ((e (XR a ts)).LL x ++ E) (a.put o.dst ((e (XR a ts)).V x))) ∨ (Region.wanted o (yielded ops a.tmps) = false ∧ K E (a.put o.dst undef))
theorem vw {K : Jx → Act → Prop} {E : Jx} {e : GE} (h : (tb i).ge a = some e) :
  stB c X S ops tb i K E a ↔ ∃ o, ops[i]? = some o ∧ ((YG c X S ops o e a ∧ ∀ x, K (e.LL x ++ E) (a.put o.dst (e.V x))) ∨ (Region.wanted o (yielded ops a.tmps) = false ∧ K E (a.put o.dst undef))) := by
 unfold stB
 cases ht : tb i with
 | grow e' => rw [ht] at h; cases h; exact Iff.rfl
 | dep ts e' => rw [ht] at h; cases h; exact Iff.rfl
 | _ => rw [ht] at h; cases h
def Yx (c : Cx) (X : XP) (S : Jx) (ops : Array Oper) (md : Region.Mode) (tb : jX) (m : Nat) (T : Jx → Array Bool → Act → Prop) : Nat → Array Bool → Jx → Act → Prop
 | 0, listed, E, a => T E listed a
 | f + 1, listed, E, a => Region.ready md ops listed ≠ [] ∧ ∀ i ∈ Region.ready md ops listed, i < m ∧ stB c X S ops tb i (fun E' a' => Yx c X S ops md tb m T f (listed.setIfInBounds i true) E' a') E a
theorem SubS.grow {E LL : Jx} (h : SubS S E) : SubS S (LL ++ E) := fun p hp => List.mem_append_right _ (h p hp)
theorem YQ.perm {E : Jx} (hy : YQ c E X ops o v a) (hp : E.Perm E') : YQ c E' X ops o v a := by
 rcases hy with ⟨h1, h2⟩ | h
 ·exact .inl ⟨h1, fun w hs => h2 w (hs.perm hp.symm)⟩
 ·exact .inr h
theorem Wt {tb : jX} {m : Nat} {T : Jx → Array Bool → Act → Prop} (hTp : ∀ E E' listed a, E.Perm E' → T E listed a → T E' listed a) :
  ∀ (f : Nat) (listed : Array Bool) (E E' : Jx) (a : Act), E.Perm E' → Yx c X S ops md tb m T f listed E a → Yx c X S ops md tb m T f listed E' a
 | 0, listed, E, E', a, hp, h => hTp _ _ _ _ hp h
 | f + 1, listed, E, E', a, hp, h => by
  refine ⟨h.1, fun i hi => ⟨(h.2 i hi).1, ?_⟩⟩
  obtain ⟨o, ho, hm⟩ := (h.2 i hi).2
  refine ⟨o, ho, ?_⟩
  cases ha : tb i with
  | quiet => rw [ha] at hm; obtain ⟨v, h1, h2⟩ := hm; exact ⟨v, h1.perm hp, Wt hTp f _ _ _ _ hp h2⟩
  | pure => rw [ha] at hm; obtain ⟨v, h1, h2⟩ := hm; exact ⟨v, h1, Wt hTp f _ _ _ _ hp h2⟩
  | grow e =>
   rw [ha] at hm
   rcases hm with ⟨h1, h2⟩ | ⟨h1, h2⟩
   ·exact .inl ⟨h1, fun x => Wt hTp f _ _ _ _ (hp.append_left _) (h2 x)⟩
   ·exact .inr ⟨h1, Wt hTp f _ _ _ _ hp h2⟩
  | turn =>
   rw [ha] at hm
   rcases hm with ⟨α, V, G, ⟨h1, h2⟩, h3⟩ | ⟨h1, h2⟩
   ·exact .inl ⟨α, V, G, ⟨h1, fun w hs => h2 w (hs.perm hp.symm)⟩, h3⟩
   ·exact .inr ⟨h1, Wt hTp f _ _ _ _ hp h2⟩
  | dep ts e =>
   rw [ha] at hm
   rcases hm with ⟨h1, h2⟩ | ⟨h1, h2⟩
   ·exact .inl ⟨h1, fun x => Wt hTp f _ _ _ _ (hp.append_left _) (h2 x)⟩
   ·exact .inr ⟨h1, Wt hTp f _ _ _ _ hp h2⟩
theorem J1k {K : Jx → Act → Prop} {E : Jx} (hnd : ∀ (j : Nat) (o : Oper), ops[j]? = some o → KR o.op = true)
  (hs : St c E X w) (hE : SubS S E) (h : ∀ E a w', SubS S E → St c E X w' → K E a → K' a w') (hh : stB c X S ops tb i K E a) : wpOpIn (FW c.ro) 0 c.P ops Q' i K' a w := by
 obtain ⟨o, ho, hm⟩ := hh
 have no : Region.wanted o (yielded ops a.tmps) = false → K E (a.put o.dst undef) → wpOpIn (FW c.ro) 0 c.P ops Q' i K' a w := fun hw hk => by
  exact EA
 have yes : ∀ v, YQ c E X ops o v a → K E (a.put o.dst v) → wpOpIn (FW c.ro) 0 c.P ops Q' i K' a w := fun v hy hk => by
  rcases hy with ⟨hw, hq⟩ | ⟨hw, rfl⟩
  ·exact Ep
  ·exact no hw hk
 cases ha : tb i with
 | quiet => rw [ha] at hm; obtain ⟨v, h1, h2⟩ := hm; exact yes v h1 h2
 | pure => rw [ha] at hm; obtain ⟨v, h1, h2⟩ := hm; exact yes v (h1.quiet hE) h2
 | grow e =>
  rw [ha] at hm
  rcases hm with ⟨⟨hw, hr⟩, h2⟩ | ⟨hw, h2⟩
  ·exact Dj
  ·exact no hw h2
 | turn =>
  rw [ha] at hm
  rcases hm with ⟨α, V, G, ⟨hw, hr⟩, h2⟩ | ⟨hw, h2⟩
  ·exact E8
  ·exact no hw h2
 | dep ts e =>
  rw [ha] at hm
  rcases hm with ⟨⟨hw, hr⟩, h2⟩ | ⟨hw, h2⟩
  ·exact Dj
  ·exact no hw h2
theorem Jkw {tb : jX} {m g : Nat} {T : Jx → Array Bool → Act → Prop} {Q' : Exit → Act → World → Prop} (hnd : ∀ (j : Nat) (o : Oper), ops[j]? = some o → KR o.op = true)
  (hT : ∀ E listed a w, SubS S E → St c E X w → T E listed a → wpAnyIn (FW c.ro) 0 c.P md ops Q' g listed a w) :
  ∀ (f : Nat) (listed : Array Bool) (E : Jx) (a : Act) (w : World), SubS S E → St c E X w → Yx c X S ops md tb m T f listed E a → wpAnyIn (FW c.ro) 0 c.P md ops Q' (f + g) listed a w
 | 0, listed, E, a, w, hE, hw, h => by rw [Nat.zero_add]; exact hT _ _ _ _ hE hw h
 | f + 1, listed, E, a, w, hE, hw, h => by
  rw [show f + 1 + g = (f + g) + 1 from by omega]
  exact ⟨fun h0 => absurd h0 h.1, fun i hi => J1k hnd hw hE (fun E' a' w' hE' hw' h' => Jkw hnd hT f _ E' a' w' hE' hw' h') (h.2 i hi).2⟩
def Jij (md : Region.Mode) (ops : Array Oper) (tb : jX) (m i : Nat) : Prop :=
 tb i = .quiet → ∀ j, j < m → tb j = .turn → ∀ listed, i ∈ Region.ready md ops listed → j ∈ Region.ready md ops listed → False
def okG (md : Region.Mode) (ops : Array Oper) (tb : jX) (i : Nat) : Nat → Array Bool → Bool
 | 0, listed => (Region.ready md ops listed).all fun j => j == i
 | f + 1, listed => (Region.ready md ops listed).all fun j => j == i || ((tb j).isGrow && okG md ops tb i f (listed.setIfInBounds j true))
theorem Jik (hi : ops[i]? = some oi) (hai : tb i = .quiet ∨ tb i = .pure) (hsel : ∀ (j : Nat) (o : Oper) cs b, ops[j]? = some o → o.op ≠ .select cs b)
  (hbd : Jij md ops tb m i) (hdep : Jn5 ops tb m)
  (hlt : ∀ listed, HeadInv md ops m listed → listed.getD i true = false → ∀ j ∈ Region.ready md ops listed, j < m)
  (hT : ∀ E listed a, T E listed a → ∀ j ∈ Region.ready md ops listed, m ≤ j) :
  ∀ (f : Nat) (listed : Array Bool) (E : Jx) (a : Act), HeadInv md ops m listed →
   (∀ j oj, ops[j]? = some oj → j ≠ i → listed.getD j true = false → (∀ e ∈ oj.after, Region.binds md e = true → e.on ≠ i) → oi.apart ops oj = true) →
   SubS S E → i ∈ Region.ready md ops listed → (YQ c E X ops oi v a ∧ (tb i = .pure → YP c X S ops oi v a)) →
   Yx c X S ops md tb m T f (listed.setIfInBounds i true) E (a.put oi.dst v) → Yx c X S ops md tb m T (f + 1) listed E a := by
 have self : ∀ {K : Jx → Act → Prop} {E : Jx} {a : Act}, (YQ c E X ops oi v a ∧ (tb i = .pure → YP c X S ops oi v a)) → K E (a.put oi.dst v) → stB c X S ops tb i K E a := by
  intro K E a hy H
  refine ⟨oi, hi, ?_⟩
  rcases hai with h | h <;> rw [h]
  ·exact ⟨v, hy.1, H⟩
  ·exact ⟨v, hy.2 h, H⟩
 intro f
 induction f with
 | zero =>
  intro listed E a inv _ hSE hr hy H
  refine ⟨fun h => nb, fun j hj => ⟨hlt _ inv (mem_ready.1 hr).1 j hj, ?_⟩⟩
  by_cases hji : j = i
  ·subst hji; exact self hy H
  ·exact Ev
 | succ f ih =>
  intro listed E a inv hfree hSE hr hy H
  refine ⟨fun h => nb, fun j hj => ?_⟩
  have hjm := hlt _ inv (mem_ready.1 hr).1 j hj
  refine ⟨hjm, ?_⟩
  by_cases hji : j = i
  ·subst hji; exact self hy H
  ·obtain ⟨oj, hoj, hm⟩ := (H.2 j (ready_mono hj hji)).2
   obtain ⟨hjun, oj', hoj', hall⟩ := mem_ready.1 hj
   rw [hoj] at hoj'
   cases hoj'
   have hnot : ∀ e ∈ oj.after, Region.binds md e = true → e.on ≠ i := fun e he hb heq => by
    have h2 := hall e he hb
    rw [heq, getD_both (mem_ready.1 hr).1] at h2
    cases h2
   obtain ⟨h1, h2, h3⟩ := Oper.apart_spec (hfree j oj hoj hji hjun hnot)
   have hfree' : ∀ k ok, ops[k]? = some ok → k ≠ i → (listed.setIfInBounds j true).getD k true = false →
     (∀ e ∈ ok.after, Region.binds md e = true → e.on ≠ i) → oi.apart ops ok = true := fun k ok hk hki hun hno => by
    refine hfree k ok hk hki ?_ hno
    by_cases hjk : j = k
    ·subst hjk; exact hjun
    ·exact Fg
   have back1 := fun u => (execOp_put oj (fun cs b => hsel j oj cs b hoj) a oi.dst u h1)
   have back2 := fun u => (wanted_put oj a oi.dst u h1)
   have forth1 := fun u => (execOp_put oi (fun cs b => hsel i oi cs b hi) a oj.dst u h3)
   have forth2 := fun u => (wanted_put oi a oj.dst u h3)
   have go : ∀ E' u, SubS S E' → (E.Sublist E' ∨ tb i = .pure) → Yx c X S ops md tb m T f ((listed.setIfInBounds i true).setIfInBounds j true) E' ((a.put oi.dst v).put oj.dst u) →
     Yx c X S ops md tb m T (f + 1) (listed.setIfInBounds j true) E' (a.put oj.dst u) := fun E' u hSE' hsub hK => by
    refine ih (listed.setIfInBounds j true) E' (a.put oj.dst u) (inv.set hj hjm) hfree' hSE' (ready_mono hr (Ne.symm hji)) ⟨?_, fun hp => (hy.2 hp).same (forth1 u) (forth2 u)⟩ ?_
    ·rcases hsub with hsub | hp
     ·exact (hy.1.weak hsub).same (forth1 u) (forth2 u)
     ·exact ((hy.2 hp).same (forth1 u) (forth2 u)).quiet hSE'
    ·rw [Array.setIfInBounds_comm _ _ hji, ← Act.put_comm a v u h2]
     exact hK
   refine ⟨oj, hoj, ?_⟩
   cases ha : tb j with
   | quiet => rw [ha] at hm; obtain ⟨u, g1, g2⟩ := hm; exact ⟨u, g1.same (back1 v).symm (back2 v).symm, go E u hSE (.inl (List.Sublist.refl _)) g2⟩
   | pure => rw [ha] at hm; obtain ⟨u, g1, g2⟩ := hm; exact ⟨u, g1.same (back1 v).symm (back2 v).symm, go E u hSE (.inl (List.Sublist.refl _)) g2⟩
   | grow e =>
    rw [ha] at hm
    rcases hm with ⟨g1, g2⟩ | ⟨g1, g2⟩
    ·exact Dp
    ·exact Hq
   | turn =>
    rw [ha] at hm
    rcases hm with ⟨α, V, G, ⟨g0, g1⟩, g2⟩ | ⟨g1, g2⟩
    ·refine .inl ⟨α, V, G, ⟨(back2 v).symm.trans g0, fun w hs => (g1 w hs).same (back1 v).symm⟩, fun x => ⟨(g2 x).1, go _ _ (g2 x).1 ?_ (g2 x).2⟩⟩
     rcases hai with hq | hp
     ·exact (hbd hq j hjm ha listed hr hj).elim
     ·exact .inr hp
    ·exact Hq
   | dep ts e =>
    obtain ⟨o', ho', hm'⟩ := (vw (e := e (XR a ts)) ((yX hdep hjm hoj h1).trans M5)).1 (H.2 j (ready_mono hj hji)).2
    rw [hoj] at ho'
    cases ho'
    rcases hm' with ⟨g1, g2⟩ | ⟨g1, g2⟩
    ·exact Dp
    ·exact Hq
theorem Jfe (hi : ops[i]? = some oi) (hai : (tb i).isGrow = true) (hdep : Jn5 ops tb m) (hsel : ∀ (j : Nat) (o : Oper) cs b, ops[j]? = some o → o.op ≠ .select cs b)
  (hlt : ∀ listed, HeadInv md ops m listed → listed.getD i true = false → ∀ j ∈ Region.ready md ops listed, j < m)
  (hT : ∀ E listed a, T E listed a → ∀ j ∈ Region.ready md ops listed, m ≤ j) :
  ∀ (f : Nat) (listed : Array Bool) (E : Jx) (a : Act), HeadInv md ops m listed →
   (∀ j oj, ops[j]? = some oj → j ≠ i → listed.getD j true = false → (∀ e ∈ oj.after, Region.binds md e = true → e.on ≠ i) → oi.apart ops oj = true) →
   SubS S E → i ∈ Region.ready md ops listed → Region.wanted oi (yielded ops a.tmps) = false →
   Yx c X S ops md tb m T f (listed.setIfInBounds i true) E (a.put oi.dst undef) → Yx c X S ops md tb m T (f + 1) listed E a := by
 have self : ∀ {K : Jx → Act → Prop} {E : Jx} {a : Act}, Region.wanted oi (yielded ops a.tmps) = false → K E (a.put oi.dst undef) → stB c X S ops tb i K E a := by
  intro K E a hy H
  obtain ⟨e, he⟩ := Jaj a hai
  exact (vw he).2 ⟨oi, hi, .inr ⟨hy, H⟩⟩
 intro f
 induction f with
 | zero =>
  intro listed E a inv _ hSE hr hy H
  refine ⟨fun h => nb, fun j hj => ⟨hlt _ inv (mem_ready.1 hr).1 j hj, ?_⟩⟩
  by_cases hji : j = i
  ·subst hji; exact self hy H
  ·exact Ev
 | succ f ih =>
  intro listed E a inv hfree hSE hr hy H
  refine ⟨fun h => nb, fun j hj => ?_⟩
  have hjm := hlt _ inv (mem_ready.1 hr).1 j hj
  refine ⟨hjm, ?_⟩
  by_cases hji : j = i
  ·subst hji; exact self hy H
  ·obtain ⟨oj, hoj, hm⟩ := (H.2 j (ready_mono hj hji)).2
   obtain ⟨hjun, oj', hoj', hall⟩ := mem_ready.1 hj
   rw [hoj] at hoj'
   cases hoj'
   have hnot : ∀ e ∈ oj.after, Region.binds md e = true → e.on ≠ i := fun e he hb heq => by
    have h2 := hall e he hb
    rw [heq, getD_both (mem_ready.1 hr).1] at h2
    cases h2
   obtain ⟨h1, h2, h3⟩ := Oper.apart_spec (hfree j oj hoj hji hjun hnot)
   have hfree' : ∀ k ok, ops[k]? = some ok → k ≠ i → (listed.setIfInBounds j true).getD k true = false →
     (∀ e ∈ ok.after, Region.binds md e = true → e.on ≠ i) → oi.apart ops ok = true := fun k ok hk hki hun hno => by
    refine hfree k ok hk hki ?_ hno
    by_cases hjk : j = k
    ·subst hjk; exact hjun
    ·exact Fg
   have back1 := fun u => (execOp_put oj (fun cs b => hsel j oj cs b hoj) a oi.dst u h1)
   have back2 := fun u => (wanted_put oj a oi.dst u h1)
   have forth1 := fun u => (execOp_put oi (fun cs b => hsel i oi cs b hi) a oj.dst u h3)
   have forth2 := fun u => (wanted_put oi a oj.dst u h3)
   have go : ∀ E' u, SubS S E' → Yx c X S ops md tb m T f ((listed.setIfInBounds i true).setIfInBounds j true) E' ((a.put oi.dst undef).put oj.dst u) →
     Yx c X S ops md tb m T (f + 1) (listed.setIfInBounds j true) E' (a.put oj.dst u) := fun E' u hSE' hK => by
    refine ih (listed.setIfInBounds j true) E' (a.put oj.dst u) (inv.set hj hjm) hfree' hSE' (ready_mono hr (Ne.symm hji)) ((forth2 u).trans hy) ?_
    rw [Array.setIfInBounds_comm _ _ hji, ← Act.put_comm a undef u h2]
    exact hK
   refine ⟨oj, hoj, ?_⟩
   cases ha : tb j with
   | quiet => rw [ha] at hm; obtain ⟨u, g1, g2⟩ := hm; exact ⟨u, g1.same (back1 undef).symm (back2 undef).symm, go E u hSE g2⟩
   | pure => rw [ha] at hm; obtain ⟨u, g1, g2⟩ := hm; exact ⟨u, g1.same (back1 undef).symm (back2 undef).symm, go E u hSE g2⟩
   | grow e =>
    rw [ha] at hm
    rcases hm with ⟨g1, g2⟩ | ⟨g1, g2⟩
    ·exact Ey
    ·exact DO
   | turn =>
    rw [ha] at hm
    rcases hm with ⟨α, V, G, ⟨g0, g1⟩, g2⟩ | ⟨g1, g2⟩
    ·exact .inl ⟨α, V, G, ⟨(back2 undef).symm.trans g0, fun w hs => (g1 w hs).same (back1 undef).symm⟩, fun x => ⟨(g2 x).1, go _ _ (g2 x).1 (g2 x).2⟩⟩
    ·exact DO
   | dep ts e =>
    obtain ⟨o', ho', hm'⟩ := (vw (e := e (XR a ts)) ((yX hdep hjm hoj h1).trans M5)).1 (H.2 j (ready_mono hj hji)).2
    rw [hoj] at ho'
    cases ho'
    rcases hm' with ⟨g1, g2⟩ | ⟨g1, g2⟩
    ·exact Ey
    ·exact DO
theorem Jak {ei : GE} (hi : ops[i]? = some oi) (him : i < m) (hdep : Jn5 ops tb m) (hsel : ∀ (j : Nat) (o : Oper) cs b, ops[j]? = some o → o.op ≠ .select cs b)
  (hTp : ∀ E E' listed a, E.Perm E' → T E listed a → T E' listed a)
  (hlt : ∀ listed, HeadInv md ops m listed → listed.getD i true = false → ∀ j ∈ Region.ready md ops listed, j < m)
  (hT : ∀ E listed a, T E listed a → ∀ j ∈ Region.ready md ops listed, m ≤ j) :
  ∀ (f : Nat) (listed : Array Bool) (E : Jx) (a : Act), HeadInv md ops m listed →
   (∀ j oj, ops[j]? = some oj → j ≠ i → listed.getD j true = false → (∀ e ∈ oj.after, Region.binds md e = true → e.on ≠ i) → oi.apart ops oj = true) →
   SubS S E → (tb i).ge a = some ei → i ∈ Region.ready md ops listed → okG md ops tb i f listed = true → YG c X S ops oi ei a →
   (∀ x, Yx c X S ops md tb m T f (listed.setIfInBounds i true) (ei.LL x ++ E) (a.put oi.dst (ei.V x))) → Yx c X S ops md tb m T (f + 1) listed E a := by
 have self : ∀ {K : Jx → Act → Prop} {E : Jx} {a : Act}, (tb i).ge a = some ei → YG c X S ops oi ei a → (∀ x, K (ei.LL x ++ E) (a.put oi.dst (ei.V x))) → stB c X S ops tb i K E a := by
  intro K E a hai hy H
  exact (vw hai).2 ⟨oi, hi, .inl ⟨hy, H⟩⟩
 intro f
 induction f with
 | zero =>
  intro listed E a inv _ hSE hai hr hok hy H
  refine ⟨fun h => nb, fun j hj => ⟨hlt _ inv (mem_ready.1 hr).1 j hj, ?_⟩⟩
  by_cases hji : j = i
  ·subst hji; exact self hai hy H
  ·have h1 := hT _ _ _ (H ei.x0) j (ready_mono hj hji)
   have h2 := hlt _ inv (mem_ready.1 hr).1 j hj
   omega
 | succ f ih =>
  intro listed E a inv hfree hSE hai hr hok hy H
  refine ⟨fun h => nb, fun j hj => ?_⟩
  have hjm := hlt _ inv (mem_ready.1 hr).1 j hj
  refine ⟨hjm, ?_⟩
  by_cases hji : j = i
  ·subst hji; exact self hai hy H
  ·unfold okG at hok
   have hokj := List.all_eq_true.1 hok j hj
   simp only [Bool.or_eq_true, beq_iff_eq, hji, false_or, Bool.and_eq_true] at hokj
   obtain ⟨hgj, hok'⟩ := hokj
   obtain ⟨ej, ha⟩ := Jaj a hgj
   obtain ⟨hjun, oj, hoj, hall⟩ := mem_ready.1 hj
   have hnot : ∀ e ∈ oj.after, Region.binds md e = true → e.on ≠ i := fun e he hb heq => by
    have h2 := hall e he hb
    rw [heq, getD_both (mem_ready.1 hr).1] at h2
    cases h2
   obtain ⟨h1, h2, h3⟩ := Oper.apart_spec (hfree j oj hoj hji hjun hnot)
   have hfree' : ∀ k ok, ops[k]? = some ok → k ≠ i → (listed.setIfInBounds j true).getD k true = false →
     (∀ e ∈ ok.after, Region.binds md e = true → e.on ≠ i) → oi.apart ops ok = true := fun k ok hk hki hun hno => by
    refine hfree k ok hk hki ?_ hno
    by_cases hjk : j = k
    ·subst hjk; exact hjun
    ·exact Fg
   have back1 := fun u => (execOp_put oj (fun cs b => hsel j oj cs b hoj) a oi.dst u h1)
   have back2 := fun u => (wanted_put oj a oi.dst u h1)
   have forth1 := fun u => (execOp_put oi (fun cs b => hsel i oi cs b hi) a oj.dst u h3)
   have forth2 := fun u => (wanted_put oi a oj.dst u h3)
   have hstep : ∀ x, (YG c X S ops oj ej (a.put oi.dst (ei.V x)) ∧ ∀ y, Yx c X S ops md tb m T f ((listed.setIfInBounds i true).setIfInBounds j true) (ej.LL y ++ (ei.LL x ++ E)) ((a.put oi.dst (ei.V x)).put oj.dst (ej.V y))) ∨
     (Region.wanted oj (yielded ops (a.put oi.dst (ei.V x)).tmps) = false ∧ Yx c X S ops md tb m T f ((listed.setIfInBounds i true).setIfInBounds j true) (ei.LL x ++ E) ((a.put oi.dst (ei.V x)).put oj.dst undef)) := fun x => by
    obtain ⟨o', ho', hm⟩ := (vw ((yX hdep hjm hoj h1).trans ha)).1 ((H x).2 j (ready_mono hj hji)).2
    rw [hoj] at ho'
    cases ho'
    exact hm
   refine (vw ha).2 ⟨oj, hoj, ?_⟩
   cases hw : Region.wanted oj (yielded ops a.tmps) with
   | true =>
    have hpos : ∀ x, YG c X S ops oj ej (a.put oi.dst (ei.V x)) ∧ ∀ y, Yx c X S ops md tb m T f ((listed.setIfInBounds i true).setIfInBounds j true) (ej.LL y ++ (ei.LL x ++ E)) ((a.put oi.dst (ei.V x)).put oj.dst (ej.V y)) := fun x => by
     rcases hstep x with h | h
     ·exact h
     ·have := (back2 (ei.V x)).symm.trans h.1; rw [hw] at this; cases this
    refine .inl ⟨(hpos ei.x0).1.same (back1 _).symm (back2 _).symm, fun y => ?_⟩
    refine ih (listed.setIfInBounds j true) (ej.LL y ++ E) (a.put oj.dst (ej.V y)) (inv.set hj hjm) hfree' hSE.grow ((yX hdep him hi h3).trans hai) (ready_mono hr (Ne.symm hji)) hok' (hy.same (forth1 _) (forth2 _)) fun x => ?_
    rw [Array.setIfInBounds_comm _ _ hji, ← Act.put_comm a _ _ h2]
    refine Wt hTp f _ _ _ _ ?_ ((hpos x).2 y)
    rw [← List.append_assoc, ← List.append_assoc]
    exact List.Perm.append_right _ List.perm_append_comm
   | false =>
    have hneg : ∀ x, Yx c X S ops md tb m T f ((listed.setIfInBounds i true).setIfInBounds j true) (ei.LL x ++ E) ((a.put oi.dst (ei.V x)).put oj.dst undef) := fun x => by
     rcases hstep x with h | h
     ·have := (back2 (ei.V x)).symm.trans h.1.1; rw [hw] at this; cases this
     ·exact h.2
    refine .inr ⟨rfl, ?_⟩
    refine ih (listed.setIfInBounds j true) E (a.put oj.dst undef) (inv.set hj hjm) hfree' hSE ((yX hdep him hi h3).trans hai) (ready_mono hr (Ne.symm hji)) hok' (hy.same (forth1 _) (forth2 _)) fun x => ?_
    rw [Array.setIfInBounds_comm _ _ hji, ← Act.put_comm a _ _ h2]
    exact hneg x
def Jil (c : Cx) (X : XP) (S : Jx) (ops : Array Oper) (tb : jX) (T : Jx → Act → Prop) : List Nat → Jx → Act → Prop
 | [], E, a => T E a
 | k :: rest, E, a => stB c X S ops tb k (fun E' a' => Jil c X S ops tb T rest E' a') E a
def Jq9 (md : Region.Mode) (ops : Array Oper) (tb : jX) (m g : Nat) : List Nat → Array Bool → Bool
  | [], listed => Region.seqB md ops g m listed
  | k :: r, listed => Nat.blt k m && (match (tb k).isTurn with
      | true => decide (Region.ready md ops listed = [k])
      | false => (Region.ready md ops listed).contains k && Region.free md ops listed k && (!(tb k).isGrow || okG md ops tb k r.length listed)) && Jq9 md ops tb m g r (listed.setIfInBounds k true)
theorem Jff {tb : jX} {m g : Nat} {T : Jx → Act → Prop} (hsel : Region.noSelect ops = true) (hTp : ∀ E E' a, E.Perm E' → T E a → T E' a) (hbd : ∀ i, i < m → Jij md ops tb m i) (hdep : Jn5 ops tb m) (hlt : ∀ i, i < m → ∀ listed, HeadInv md ops m listed → listed.getD i true = false → ∀ j ∈ Region.ready md ops listed, j < m)
  (hseq : ∀ listed, Region.seqB md ops g m listed = true → ∀ j ∈ Region.ready md ops listed, m ≤ j) :
  ∀ (l : List Nat) (listed : Array Bool) (E : Jx) (a : Act), HeadInv md ops m listed → SubS S E →
  Jq9 md ops tb m g l listed = true → Jil c X S ops tb T l E a →
  Yx c X S ops md tb m (fun E' listed' a' => Region.seqB md ops g m listed' = true ∧ T E' a') l.length listed E a
 | [], listed, E, a, _, _, hB, h => ⟨by simpa [Jq9] using hB, h⟩
 | k :: l, listed, E, a, inv, hSE, hB, h => by
  simp only [Jq9, Bool.and_eq_true] at hB
  obtain ⟨⟨hkm, hr⟩, hB'⟩ := hB
  have hkm : k < m := by
   have : k + 1 ≤ m := Nat.le_of_ble_eq_true hkm
   omega
  have hr' : k ∈ Region.ready md ops listed := by
   cases ht : (tb k).isTurn with
   | true => rw [ht] at hr; simp only [decide_eq_true_eq] at hr; rw [hr]; exact List.mem_cons_self
   | false => rw [ht] at hr; simp only [Bool.and_eq_true] at hr; simpa using hr.1.1
  have next : ∀ E' a', SubS S E' → Jil c X S ops tb T l E' a' → Yx c X S ops md tb m (fun E' listed' a' => Region.seqB md ops g m listed' = true ∧ T E' a') l.length (listed.setIfInBounds k true) E' a' := fun E' a' hSE' hw =>
   Jff hsel hTp hbd hdep hlt hseq l _ E' a' (inv.set hr' hkm) hSE' hB' hw
  obtain ⟨o, h0, hm⟩ := h
  have quiet : (tb k).isTurn = false → ∀ v, (tb k = .quiet ∨ tb k = .pure) → (YQ c E X ops o v a ∧ (tb k = .pure → YP c X S ops o v a)) → Jil c X S ops tb T l E (a.put o.dst v) →
    Yx c X S ops md tb m (fun E' listed' a' => Region.seqB md ops g m listed' = true ∧ T E' a') (l.length + 1) listed E a := fun hnt v hai hy hw => by
   rw [hnt] at hr
   simp only [Bool.and_eq_true] at hr
   exact Jik h0 hai (Region.noSelect_spec hsel) (hbd k hkm) hdep (hlt k hkm) (fun E' listed' a' hL => hseq _ hL.1) l.length listed E a inv (Region.free_spec h0 hr.1.2) hSE hr' hy (next _ _ hSE hw)
  cases ha : tb k with
  | quiet => rw [ha] at hm; obtain ⟨v, hy, hw⟩ := hm; exact quiet M5 v (.inl ha) ⟨hy, fun e => by rw [ha] at e; cases e⟩ hw
  | pure => rw [ha] at hm; obtain ⟨v, hy, hw⟩ := hm; exact quiet M5 v (.inr ha) ⟨hy.quiet hSE, fun _ => hy⟩ hw
  | grow e =>
   rw [ha] at hm hr
   simp only [Kb.isTurn, Kb.isGrow, Bool.not_true, Bool.false_or, Bool.and_eq_true] at hr
   rcases hm with ⟨h1, h2⟩ | ⟨h1, h2⟩
   ·exact Ga
   ·exact Hi
  | dep ts e =>
   rw [ha] at hm hr
   simp only [Kb.isTurn, Kb.isGrow, Bool.not_true, Bool.false_or, Bool.and_eq_true] at hr
   rcases hm with ⟨h1, h2⟩ | ⟨h1, h2⟩
   ·exact Ga
   ·exact Hi
  | turn =>
   rw [ha] at hm hr
   simp only [Kb.isTurn, decide_eq_true_eq] at hr
   refine ⟨fun e => (by rw [e] at hr'; cases hr'), fun i hi => ?_⟩
   rw [hr] at hi
   have hik : i = k := by simpa using hi
   subst hik
   refine ⟨hkm, o, h0, ?_⟩
   rw [ha]
   rcases hm with ⟨α, V, G, h1, h2⟩ | ⟨h1, h2⟩
   ·exact .inl ⟨α, V, G, h1, fun x => ⟨(h2 x).1, next _ _ (h2 x).1 (h2 x).2⟩⟩
   ·exact .inr ⟨h1, next _ _ hSE h2⟩
def Jim : List (Nat × Kb) → jX
 | [], _ => .quiet
 | (j, p) :: r, k => match Nat.beq k j with | true => p | false => Jim r k
def Jkx (md : Region.Mode) (ops : Array Oper) (tb : jX) (m : Nat) : Bool :=
 (List.range m).all fun j => if (tb j).isTurn then (List.range m).all fun i => !(tb i).isQuiet || onB md ops j i || onB md ops i j else true
theorem Jcl (h : Jkx md ops tb m = true) (hi : i < m) : Jij md ops tb m i := fun hq j hj he listed hir hjr => by
 have h1 := List.all_eq_true.1 h j (List.mem_range.2 hj)
 rw [he] at h1
 simp only [Kb.isTurn, if_true] at h1
 have h2 := List.all_eq_true.1 h1 i (List.mem_range.2 hi)
 rw [hq] at h2
 simp only [Kb.isQuiet, Bool.not_true, Bool.false_or, Bool.or_eq_true] at h2
 rcases h2 with h2 | h2
 ·exact Jb7 h2 hjr hir
 ·exact Jb7 h2 hir hjr
end
section
variable {c : Cx} {l : KQ} {L E : Jx} {X : XP} {Q : Exit → Act → World → Prop} {d : List Deferred}
variable {ops : Array Oper} {rest : List Nat} {i k : Nat} {v : Value} {o : Oper} {tb : jX} {S : Jx} {T : Jx → Act → Prop}
def HB (c : Cx) (d : List Deferred) (l : KQ) (E : Jx) (X : XP) (S : Jx) (ops : Array Oper) (tb : jX) (rest : List Nat) (T : Jx → Act → Prop) : Prop :=
 ∀ a, Fr c.n d l a → Jil c X S ops tb T rest E a
def J3o (ops : Array Oper) (tb : jX) (m : Nat) : Bool :=
 (List.range m).all fun j => match tb j with
  | .dep ts _ => match ops[j]? with
   | some o => ts.all fun t => (o.looksAt ops).contains t
   | none => true
  | _ => true
theorem Jn7 (h : J3o ops tb m = true) : Jn5 ops tb m := fun j hj o ho ts e ht t hm => by
 have h1 := List.all_eq_true.1 h j (List.mem_range.2 hj)
 rw [ht] at h1
 simp only [ho] at h1
 simpa using List.all_eq_true.1 h1 t hm
def Jra (ops : List Oper) (tb : jX) (m : Nat) (order : List Nat) : Bool :=
 (ops.all fun o => KR o.op) && Region.noSelect ops.toArray && Nat.ble m ops.length && Nat.beq order.length m &&
 (Nat.beq m ops.length || (Region.sinkB .any ops.toArray m && Region.chainB .any ops.toArray m)) && Jkx .any ops.toArray tb m && J3o ops.toArray tb m &&
 Jq9 .any ops.toArray tb m (ops.length - m) order (Array.replicate ops.length false)
theorem JI {ops : List Oper} (S : Jx) (tab : List (Nat × Kb)) (m : Nat) (order : List Nat) (hm : c.P.follows .mixedOrders = true) (hB : Jra ops (Jim tab) m order = true) (hSL : SubS S L)
  (h : HB c d l L X S ops.toArray (Jim tab) order (fun E a' => ∀ w, St c E X w → wpListIn (FW c.ro) 0 c.P ops.toArray Q (ops.drop m) a' w)) : HC c d l L X (.region id ops.toArray true) Q := fun a w hf hs => by
 simp only [Jra, Bool.and_eq_true, Bool.or_eq_true] at hB
 obtain ⟨⟨⟨⟨⟨⟨⟨h1, hsel⟩, hle⟩, hol⟩, hsc⟩, hcr⟩, hdp⟩, hlex⟩ := hB
 have hle' := Nat.le_of_ble_eq_true hle
 have hol' := Nat.eq_of_beq_eq_true hol
 have hnd : ∀ (j : Nat) (o : Oper), ops.toArray[j]? = some o → KR o.op = true := fun j o ho => List.all_eq_true.1 h1 o (List.mem_of_getElem? N5)
 have hdl : (ops.drop m).length = ops.length - m := by simp
 have hlt : ∀ i, i < m → ∀ listed, HeadInv .any ops.toArray m listed → listed.getD i true = false → ∀ j ∈ Region.ready .any ops.toArray listed, j < m := by
  intro i hi listed inv hun j hj
  rcases Nat.lt_or_ge j m with hjm | hjm
  exact hjm
  have hjs : j < ops.length := by obtain ⟨_, oj, hoj, _⟩ := mem_ready.1 hj; simpa using (Array.getElem?_eq_some_iff.1 hoj).1
  rcases hsc with h0 | ⟨h2, h3⟩
  exact FE
  exact DT
 have inv0 : HeadInv .any ops.toArray m (Array.replicate ops.length false) :=
  ⟨by simp, fun j oj _ hl => Mx, fun t _ ht => getD_in (by simpa using ht) (getD_replicate_false _ _)⟩
 have H := Jff (c := c) (X := X) (md := .any) (g := ops.length - m) hsel (fun E E' a hp hT w hs => hT w (hs.perm hp.symm)) (fun i hi => Jcl hcr hi) (Jn7 hdp) hlt (fun listed hq => seqB_ready hq) order _ L a inv0 hSL hlex (h a hf)
 refine wpIn_region_any hm ?_
 have := Jkw (Q' := Q) (g := ops.length - m) hnd (fun E' listed a' w' _ hw' hL => by
  have := XB (ro := c.ro) (P := c.P) (md := .any) (Q' := Q) (ops.drop m) m listed a' w' (fun j => by simp [List.getElem?_drop]) Nf (hL.2 w' hw')
  rwa [hdl] at this) _ _ _ _ _ hSL (show St c L X w.drew from hs.drew) H
 rw [hol', show m + (ops.length - m) = ops.toArray.size from by simp; omega] at this
 simpa using this
theorem Ka (h : HL c d l E X ops tail Q) : HB c d l E X S ops tb [] (fun E' a' => ∀ w, St c E' X w → wpListIn (FW c.ro) 0 c.P ops Q tail a' w) :=
 fun a hf w hs => h a w hf hs
theorem JY (hk : X7 ops.toList k = some o) (hg : Kz l ops o = some true) (hd : o.dst = some i) (hi : Nat.ble (i + 1) c.n = true) (hA : tb k = .quiet) (hr : JM c d l E X o v) (h : HB c d ((i, v) :: l) E X S ops tb rest T) : HB c d l E X S ops tb (k :: rest) T := fun a hf => by
 refine ⟨o, Vd hk, ?_⟩
 rw [hA]
 refine ⟨v, .inl ⟨JR hf hg, fun w hs => Yn (hr a w hf hs) ⟨rfl, Keep.refl _ _⟩⟩, ?_⟩
 rw [hd]; exact h _ (hf.put (Nat.le_of_ble_eq_true hi))
theorem Jm (hk : X7 ops.toList k = some o) (hg : Kz l ops o = some true) (hd : o.dst = some i) (hi : Nat.ble (i + 1) c.n = true) (hA : tb k = .pure) (hr : ∀ E', SubS S E' → JM c d l E' X o v) (h : HB c d ((i, v) :: l) E X S ops tb rest T) : HB c d l E X S ops tb (k :: rest) T := fun a hf => by
 refine ⟨o, Vd hk, ?_⟩
 rw [hA]
 refine ⟨v, .inl ⟨JR hf hg, fun E' hE' w hs => Yn (hr E' hE' a w hf hs) ⟨rfl, Keep.refl _ _⟩⟩, ?_⟩
 rw [hd]; exact h _ (hf.put (Nat.le_of_ble_eq_true hi))
theorem yh (hk : X7 ops.toList k = some o) (hg : Kz l ops o = some false) (hd : o.dst = some i) (hi : Nat.ble (i + 1) c.n = true) (h : HB c d ((i, undef) :: l) E X S ops tb rest T) : HB c d l E X S ops tb (k :: rest) T := fun a hf => by
 refine ⟨o, Vd hk, ?_⟩
 have hw := JR hf hg
 have hn : Jil c X S ops tb T rest E (a.put o.dst undef) := by rw [hd]; exact h _ (hf.put (Nat.le_of_ble_eq_true hi))
 cases tb k with
 | quiet => exact ⟨undef, .inr ⟨hw, rfl⟩, hn⟩
 | pure => exact ⟨undef, .inr ⟨hw, rfl⟩, hn⟩
 | grow e => exact .inr ⟨hw, hn⟩
 | turn => exact .inr ⟨hw, hn⟩
 | dep ts e => exact .inr ⟨hw, hn⟩
theorem Jw9 (t : Nat) (ht : Vg l t = some (.bool b)) (h1 : b = true → HB c d ((t, .bool true) :: l) E X S ops tb rest T) (h0 : b = false → HB c d ((t, .bool false) :: l) E X S ops tb rest T) : HB c d l E X S ops tb rest T := fun a hf => by
 cases hb : b with
 | true => exact h1 hb a (wT hf ht hb.symm)
 | false => exact h0 hb a (wT hf ht hb.symm)
theorem Qt (e : v = v') (h : HB c d ((i, v') :: l) E X S ops tb rest T) : HB c d ((i, v) :: l) E X S ops tb rest T := e ▸ h
theorem Qq
  (hk : X7 ops.toList k = some ⟨some i, .call ⟨.value f, args, at_⟩, ty, ps, af, gd⟩) (hg : Kz l ops ⟨some i, .call ⟨.value f, args, at_⟩, ty, ps, af, gd⟩ = some true) (hi : Nat.ble (i + 1) c.n = true) (hA : tb k = .pure) (hca : KM l f args = some (g, vs)) (eg : Enters c.P g)
  (hp : Pure c.P g vs.toArray v) (h : HB c d ((i, v) :: l) E X S ops tb rest T) : HB c d l E X S ops tb (k :: rest) T := fun a hf => by
 refine ⟨_, Vd hk, ?_⟩
 rw [hA]
 exact ⟨v, .inl ⟨JR hf hg, fun _ _ w _ => Xj hf hca eg ((hp.run w).mono fun _ _ ⟨he, hk⟩ => ⟨v, he, rfl, hk⟩)⟩, h _ (hf.put (Nat.le_of_ble_eq_true hi))⟩
theorem JW
  (hk : X7 ops.toList k = some ⟨some i, .call ⟨.value f, args, at_⟩, ty, ps, af, gd⟩) (hg : Kz l ops ⟨some i, .call ⟨.value f, args, at_⟩, ty, ps, af, gd⟩ = some true) (hi : Nat.ble (i + 1) c.n = true) (hA : tb k = .quiet) (hca : KM l f args = some (g, vs)) (eg : Enters c.P g)
  (hp : PureR c.P g vs.toArray v Rl) (hR : ∀ p ∈ Rl, known c E p.1 p.2) (h : HB c d ((i, v) :: l) E X S ops tb rest T) : HB c d l E X S ops tb (k :: rest) T := fun a hf => by
 refine ⟨_, Vd hk, ?_⟩
 rw [hA]
 exact ⟨v, .inl ⟨JR hf hg, fun w hs => Xj hf hca eg ((hp.run w fun p hp => hs.known (hR p hp)).mono fun _ _ ⟨he, hk⟩ => ⟨v, he, rfl, hk⟩)⟩, h _ (hf.put (Nat.le_of_ble_eq_true hi))⟩
def Vu (V : Nat → Value) (ob : Obj) : GE := ⟨Nat, V, fun r => [(r, ob)], 0⟩
def KD {α : Type} (x0 : α) (V : α → Value) (LL : α → Jx) : GE := ⟨α, V, LL, x0⟩
theorem Jcm {e : GE} (hk : X7 ops.toList k = some o) (hg : Kz l ops o = some true) (hd : o.dst = some i) (hi : Nat.ble (i + 1) c.n = true) (hA : tb k = .grow e) (hr : ∀ E', SubS S E' → ∀ a w, Fr c.n d l a → St c E' X w → actAt c o a w fun u w' => ∃ x, u = e.V x ∧ Jq8 (e.LL x) w w')
  (h : ∀ x, HB c d ((i, e.V x) :: l) (e.LL x ++ E) X S ops tb rest T) : HB c d l E X S ops tb (k :: rest) T := fun a hf => by
 refine ⟨o, Vd hk, ?_⟩
 rw [hA]
 refine .inl ⟨⟨JR hf hg, fun E' hE' w hs => hr E' hE' a w hf hs⟩, fun x => ?_⟩
 rw [hd]; exact h x _ (hf.put (Nat.le_of_ble_eq_true hi))
def Zc (l : KQ) : List Nat → Option (List Value)
 | [] => some []
 | t :: ts => match Vg l t, Zc l ts with
  | some v, some r => some (v :: r)
  | _, _ => none
theorem qv {n : Nat} {a : Act} (hf : Fr n d l a) : ∀ {ts : List Nat} {vs : List Value}, Zc l ts = some vs → XR a ts = vs
 | [], vs, h => by cases h; rfl
 | t :: ts, vs, h => by
  unfold Zc at h
  cases h1 : Vg l t with
  | none => rw [h1] at h; cases h
  | some v =>
   cases h2 : Zc l ts with
   | none => rw [h1, h2] at h; cases h
   | some r =>
    rw [h1, h2] at h
    cases h
    show a.eval (.tmp t) :: XR a ts = v :: r
    rw [qv hf h2, hf.eval (x := .tmp t) (v := v) h1]
theorem J1l {e : List Value → GE} {e0 : GE} (hk : X7 ops.toList k = some o) (hg : Kz l ops o = some true) (hd : o.dst = some i) (hi : Nat.ble (i + 1) c.n = true) (hA : tb k = .dep ts e) (hv : Zc l ts = some vs) (he : e vs = e0) (hr : ∀ E', SubS S E' → ∀ a w, Fr c.n d l a → St c E' X w → actAt c o a w fun u w' => ∃ x, u = e0.V x ∧ Jq8 (e0.LL x) w w')
  (h : ∀ x, HB c d ((i, e0.V x) :: l) (e0.LL x ++ E) X S ops tb rest T) : HB c d l E X S ops tb (k :: rest) T := fun a hf => by
 refine ⟨o, Vd hk, ?_⟩
 rw [hA]
 subst he
 show (YG c X S ops o (e (XR a ts)) a ∧ ∀ x, Jil c X S ops tb T rest ((e (XR a ts)).LL x ++ E) (a.put o.dst ((e (XR a ts)).V x))) ∨ _
 rw [qv hf hv]
 refine .inl ⟨⟨JR hf hg, fun E' hE' w hs => hr E' hE' a w hf hs⟩, fun x => ?_⟩
 rw [hd]; exact h x _ (hf.put (Nat.le_of_ble_eq_true hi))
theorem Jrb {V : Nat → Value} (hk : X7 ops.toList k = some o) (hg : Kz l ops o = some true) (hd : o.dst = some i) (hi : Nat.ble (i + 1) c.n = true) (hA : tb k = .grow (Vu V ob)) (hr : ∀ a w, Fr c.n d l a → (execOp a.eval o).run c.P w = .ok (.value (V w.heap.size)) (w.alloc ob))
  (h : ∀ r, HB c d ((i, V r) :: l) ((r, ob) :: E) X S ops tb rest T) : HB c d l E X S ops tb (k :: rest) T :=
 Jcm (e := Vu V ob) hk hg hd hi hA (fun E' _ a w hf hs => Yn (hr a w hf) ⟨w.heap.size, rfl, Keep.alloc ob, fun p hp => by rw [List.mem_singleton.1 hp]; exact ⟨Nat.le_refl _, (MapKept.heap_alloc w _).1⟩, List.pairwise_singleton _ _⟩) h
theorem Jxa {e : List Value → GE} {V : Nat → Value} (hk : X7 ops.toList k = some o) (hg : Kz l ops o = some true) (hd : o.dst = some i) (hi : Nat.ble (i + 1) c.n = true) (hA : tb k = .dep ts e) (hv : Zc l ts = some vs) (he : e vs = Vu V ob) (hr : ∀ a w, Fr c.n d l a → (execOp a.eval o).run c.P w = .ok (.value (V w.heap.size)) (w.alloc ob))
  (h : ∀ r, HB c d ((i, V r) :: l) ((r, ob) :: E) X S ops tb rest T) : HB c d l E X S ops tb (k :: rest) T :=
 J1l (e0 := Vu V ob) hk hg hd hi hA hv he (fun E' _ a w hf hs => Yn (hr a w hf) ⟨w.heap.size, rfl, Keep.alloc ob, fun p hp => by rw [List.mem_singleton.1 hp]; exact ⟨Nat.le_refl _, (MapKept.heap_alloc w _).1⟩, List.pairwise_singleton _ _⟩) h
theorem Qh {ev : List Value → GE} {dv : List Value} {n e : Nat} {vs : KQ} {r : List Value} (hk : X7 ops.toList k = some ⟨some i, .buildSlice t n pa.toArray, ty, ps, af, gd⟩) (hg : Kz l ops ⟨some i, .buildSlice t n pa.toArray, ty, ps, af, gd⟩ = some true) (hi : Nat.ble (i + 1) c.n = true)
  (hA : tb k = .dep ts ev) (hv : Zc l ts = some dv) (he : ev dv = Vu (slV n) (.cells r.toArray e (0, 0)))
  (hp : XA l pa = some vs) (ht : KH c.P t = some e) (hz : QI c.P e = some z) (hs : Qg c.P e = some sz) (hzs : z.cells.size = sz) (hb : Nat.ble (n * sz) 16777216 = true) (h0 : Nat.ble 1 (n * sz) = true)
  (hmk : (madeCells z.cells (n * sz)).toList = zs) (hf : ZJ (fun i => some (i * sz, sz)) zs (QS vs) = some r)
  (h : ∀ q, HB c d ((i, .slice (some ⟨q, 0, none⟩) n n) :: l) ((q, .cells r.toArray e (0, 0)) :: E) X S ops tb rest T) : HB c d l E X S ops tb (k :: rest) T :=
 Jxa (V := slV n) hk hg rfl hi hA hv he (fun a w hfr => by
  have h1 := VJ hfr hp
  have h2 : (pa.toArray.map fun (p : Nat × Operand) => (p.1, a.eval p.2)) = vs.toArray := by
   apply Array.toList_inj.1; rw [Array.toList_map]; simpa using h1
  rw [QQ] at hf
  subst hmk
  have h3 := W6 ht hz hs hzs (Nat.le_of_ble_eq_true hb) (Nat.le_of_ble_eq_true h0) hf w
  rw [← h2] at h3
  refine E6 ?_
  have h4 : (Instr.buildSlice t n (pa.toArray.map fun (i, x) => (i, a.eval x))).run c.P w = .ok (.slice (some ⟨w.heap.size, 0, none⟩) n n) (w.alloc (.cells r.toArray e)) := h3
  rw [h4]; rfl) h
def jF (n e : Nat) (vs : List Value) : GE := Vu (slV n) (.cells (vs.flatMap fun v => v.cells.toList).toArray e (0, 0))
theorem VZ {cs : Array Value} (hk : X7 ops.toList k = some ⟨some i, .alloc t, ty, ps, af, gd⟩) (hg : Kz l ops ⟨some i, .alloc t, ty, ps, af, gd⟩ = some true) (hi : Nat.ble (i + 1) c.n = true) (hA : tb k = .grow (Vu vr (.cells cs t (0, 0)))) (hz : QI c.P t = some z) (hc : z.cells = cs)
  (h : ∀ r, HB c d ((i, .pointer (some ⟨r, 0, none⟩)) :: l) ((r, .cells cs t (0, 0)) :: E) X S ops tb rest T) : HB c d l E X S ops tb (k :: rest) T :=
 Jrb (V := vr) hk hg rfl hi hA (fun a w hf => by simp [execOp, Instr.alloc, Sem.run_bind, XJ hz, Result.andThen, newVar, newRow, hc, vr]) h
theorem XH
  (hk : X7 ops.toList k = some ⟨some i, .call ⟨.value f, args, at_⟩, ty, ps, af, gd⟩) (hg : Kz l ops ⟨some i, .call ⟨.value f, args, at_⟩, ty, ps, af, gd⟩ = some true) (hi : Nat.ble (i + 1) c.n = true) (hA : tb k = .grow (KD x0 V LL)) (hca : KM l f args = some (g, vs)) (eg : Enters c.P g)
  (hp : PureE c.P g vs.toArray V LL) (h : ∀ x, HB c d ((i, V x) :: l) (LL x ++ E) X S ops tb rest T) : HB c d l E X S ops tb (k :: rest) T :=
 Jcm (e := KD x0 V LL) hk hg rfl hi hA (fun E' _ a w hf hs => Xj hf hca eg ((hp.run w).mono fun _ _ ⟨x, he, hk, h1, h2⟩ => ⟨V x, he, x, rfl, hk, h1, h2⟩)) h
theorem qw (hk : X7 ops.toList k = some o) (hg : Kz l ops o = some true) (hd : o.dst = none) (hA : tb k = .turn) (hr : ∀ a w, Fr c.n d l a → St c E X w → ∃ w', (execOp a.eval o).run c.P w = .ok .skip w' ∧ St c E' X w') (hS : SubS S E')
  (h : HB c d l E' X S ops tb rest T) : HB c d l E X S ops tb (k :: rest) T := fun a hf => by
 refine ⟨o, Vd hk, ?_⟩
 rw [hA]
 refine .inl ⟨Unit, fun _ => undef, fun _ => E', ⟨JR hf hg, fun w hs => ?_⟩, fun _ => ⟨hS, ?_⟩⟩
 ·obtain ⟨w', h1, h2⟩ := hr a w hf hs
  exact Jqn h1 ⟨(), rfl, h2⟩
 ·rw [hd]; exact h _ hf
theorem Vk  {n : Nat} {cs : Array Value} (hko : X7 ops.toList k = some ⟨none, .store t x y, ty, ps, af, gd⟩) (hg : Kz l ops ⟨none, .store t x y, ty, ps, af, gd⟩ = some true) (hA : tb k = .turn)
  (hx : Kx l x = some (.pointer (some ⟨r, 0, none⟩))) (hk : E[q]? = some (r, .cells cs e (0, 0))) (hy : Kx l y = some (.agg ys.toArray)) (ht : Qg c.P t = some n) (hn : ys.length = n) (hcz : cs.size = n) (ho : ys.all QE = true) (hL : E.set q (r, .cells ys.toArray e (0, 0)) = E') (hS : SubS S E')
  (h : HB c d l E' X S ops tb rest T) : HB c d l E X S ops tb (k :: rest) T :=
 qw hko hg rfl hA (fun a w hf hst => ⟨w.setRow r ys.toArray, by
  have hcs : (cs.toList.take 0 ++ ys.toArray.toList ++ cs.toList.drop (0 + n)).toArray = ys.toArray := by
   apply Array.toList_inj.1
   simp [← hcz]
  simp only [execOp]; rw [hf.eval hx, hf.eval hy]
  have h1 := run_storeCells_at (P := c.P) r 0 e ys.toArray.toList 0 cs w (hst.get hk) (by simp [hn]; omega) (fun u hu => by rw [X8]; exact List.all_eq_true.1 ho u (by simpa using hu))
  simp only [Nat.add_zero, Array.length_toList, List.size_toArray, hn] at h1
  rw [hcs] at h1
  simp [Instr.storeAt, Instr.sureAddr, Sem.run_bind, Result.andThen, storeVar, Vy ht, Value.cells, hn, h1], by
  subst hL
  exact hst.set hk (Keep.setRow r ys.toArray) (setRow_heap _ _ _ _ _ _ (hst.get hk))⟩) hS h
theorem Y7  {cs : Array Value} (hko : X7 ops.toList k = some ⟨none, .store t x y, ty, ps, af, gd⟩) (hg : Kz l ops ⟨none, .store t x y, ty, ps, af, gd⟩ = some true) (hA : tb k = .turn)
  (hx : Kx l x = some (.pointer (some ⟨r, off, none⟩))) (hk : E[q]? = some (r, .cells cs e (0, 0))) (hy : Kx l y = some v) (ht : Qg c.P t = some 1) (ho : QE v = true) (hc : (cs[off]?).isSome = true)
  (hcs : cs.setIfInBounds off v = cs') (hL : E.set q (r, .cells cs' e (0, 0)) = E') (hS : SubS S E')
  (h : HB c d l E' X S ops tb rest T) : HB c d l E X S ops tb (k :: rest) T :=
 qw hko hg rfl hA (fun a w hf hs => ⟨w.setCell ⟨r, off, none⟩ v, by
  simp only [execOp]; rw [hf.eval hx, hf.eval hy]
  obtain ⟨old, hold⟩ := Option.isSome_iff_exists.1 hc
  have h1 := run_store c.P w ⟨r, off, none⟩ v .plain (by rw [X8]; exact ho)
  rw [VI (hs.get hk), hold, Y3 (hs.get hk) (J3d off)] at h1
  have hcell : v.cells = #[v] := by cases v <;> first | rfl | cases ho
  simp [Instr.storeAt, Instr.sureAddr, Sem.run_bind, Result.andThen, storeVar, Vy ht, hcell, storeCells, Addr.add, h1], by
  subst hL; subst hcs
  exact hs.set hk (Keep.setCell r off v) (heap_setCell_same v (hs.get hk))⟩) hS h
end
def yY (w : List Nat) (n : Nat) : List UInt8 := (Yw w 32).reverse.take n
theorem yj (w : List Nat) {n : Nat} (h : n ≤ 32) : (yY w n).length = n := by
 unfold yY; rw [List.length_take, List.length_reverse, Q2]; omega
def jM (s : List UInt8) : List UInt8 := s ++ List.replicate (32 - s.length) 0
theorem qx {s : List UInt8} (h : s.length ≤ 32) : (jM s).length = 32 := by unfold jM; rw [List.length_append, List.length_replicate]; omega
def KJ (l : List Bool) (N : Nat) : Nat → List UInt8
 | 0 => List.replicate N 0
 | i + 1 => if l.getD i false = true then (KJ l N i).set (i / 8) (UInt8.ofNat (((KJ l N i).getD (i / 8) 0).toNat ||| 2 ^ (i % 8))) else KJ l N i
theorem Q9 (l : List Bool) (N : Nat) : ∀ i, (KJ l N i).length = N
 | 0 => by rw [KJ, List.length_replicate]
 | i + 1 => by
  rw [KJ]
  split
  ·rw [List.length_set, Q9 l N i]
  ·exact Q9 l N i
theorem J0j {x : Nat} (hx : x < 256) (hm : m < 8) : x ||| 2 ^ m < 256 := Nat.or_lt_two_pow (n := 8) hx (Nat.pow_lt_pow_right m7 hm)
theorem Jal (l : List Bool) (N : Nat) : ∀ (i q j : Nat), i ≤ 8 * N → q < N → j < 8 → ((KJ l N i).getD q 0).toNat.testBit j = (decide (8 * q + j < i) && l.getD (8 * q + j) false)
 | 0, q, j, _, hq, hj => by
  rw [KJ, List.getD_eq_getElem?_getD, List.getElem?_replicate, if_pos hq]
  simp
 | i + 1, q, j, hi, hq, hj => by
  have ih := Jal l N i q j m5 hq hj
  rw [KJ]
  split
  ·rename_i hl
   rw [List.getD_eq_getElem?_getD, List.getElem?_set, Q9]
   by_cases hqi : i / 8 = q
   ·subst hqi
    rw [if_pos rfl, if_pos m5]
    show (UInt8.ofNat _).toNat.testBit j = _
    rw [UInt8.toNat_ofNat', Nat.mod_eq_of_lt (J0j (Xl _) (Nat.mod_lt _ m7)), Nat.testBit_or, ih, Nat.testBit_two_pow]
    by_cases hij : i % 8 = j
    ·have e : 8 * (i / 8) + j = i := by omega
     rw [e, hl, decide_eq_true hij, decide_eq_true (Nat.lt_succ_self i)]
     simp
    ·rw [decide_eq_false hij, Bool.or_false]
     congr 1
     rw [decide_eq_decide]; omega
   ·rw [if_neg hqi, ← List.getD_eq_getElem?_getD, ih]
    congr 1
    rw [decide_eq_decide]; omega
  ·rename_i hl
   rw [ih]
   by_cases hij : 8 * q + j = i
   ·rw [hij, decide_eq_false (Nat.lt_irrefl i), decide_eq_true (Nat.lt_succ_self i)]
    simp at hl ⊢; exact hl
   ·congr 1
    rw [decide_eq_decide]; omega
def WB (l : List Bool) : List UInt8 := KJ l ((l.length + 7) / 8) l.length
theorem Y8 (l : List Bool) : (WB l).length = (l.length + 7) / 8 := Q9 _ _ _
def SOk (n : Nat) (a : List Nat) : Prop := a.length = n ∧ ∀ x ∈ a, x < 18446744073709551616
theorem SOk.get {n : Nat} {a : List Nat} (h : SOk n a) (j : Nat) : a.getD j 0 < 18446744073709551616 := by
 by_cases hj : j < a.length
 ·have : a.getD j 0 ∈ a := by simp [List.getD_eq_getElem?_getD, hj]
  exact h.2 _ this
 ·rw [List.getD_eq_getElem?_getD, List.getElem?_eq_none m5]; decide
theorem SOk.set {n : Nat} {a : List Nat} (h : SOk n a) (j : Nat) {x : Nat} (hx : x < 18446744073709551616) : SOk n (a.set j x) :=
 ⟨by rw [List.length_set, h.1], fun y hy => (List.mem_or_eq_of_mem_set hy).elim (h.2 y) fun e => e ▸ hx⟩
def Jp (n k : Nat) : Nat := n * 2 ^ (k % 64) % 18446744073709551616 ||| n / 2 ^ (64 - k % 64)
theorem Jky {a b : Nat} (ha : a < 18446744073709551616) (hb : b < 18446744073709551616) : a ||| b < 18446744073709551616 := Nat.or_lt_two_pow (n := 64) ha hb
theorem Wa {a b : Nat} (ha : a < 18446744073709551616) (hb : b < 18446744073709551616) : a ^^^ b < 18446744073709551616 := Nat.xor_lt_two_pow (n := 64) ha hb
theorem yZ {a b : Nat} (hb : b < 18446744073709551616) : a &&& b < 18446744073709551616 := Nat.lt_of_le_of_lt Nat.and_le_right hb
theorem jn {n : Nat} (hn : n < 18446744073709551616) (k : Nat) : Jp n k < 18446744073709551616 :=
 Jky (Nat.mod_lt _ m7) (Nat.lt_of_le_of_lt (Nat.div_le_self _ _) hn)
def cS (a : List Nat) : Nat → List Nat
 | 0 => [0, 0, 0, 0, 0]
 | i + 1 => (cS a i).set (i % 5) ((cS a i).getD (i % 5) 0 ^^^ a.getD i 0)
theorem ze {a : List Nat} (h : SOk 25 a) : ∀ i, SOk 5 (cS a i)
 | 0 => ⟨rfl, by simp [cS]⟩
 | i + 1 => (ze h i).set _ (Wa ((ze h i).get _) (h.get _))
def mS (c a : List Nat) : Nat → List Nat
 | 0 => a
 | i + 1 => (mS c a i).set i ((mS c a i).getD i 0 ^^^ (c.getD ((i % 5 + 5 - 1) % 5) 0 ^^^ Jp (c.getD ((i % 5 + 1) % 5) 0) 1))
theorem Jfg {c a : List Nat} (hc : SOk 5 c) (h : SOk 25 a) : ∀ i, SOk 25 (mS c a i)
 | 0 => h
 | i + 1 => (Jfg hc h i).set _ (Wa ((Jfg hc h i).get _) (Wa (hc.get _) (jn (hc.get _) 1)))
def Jcn (a : List Nat) : List Nat := mS (cS a 25) a 25
theorem Zd {a : List Nat} (h : SOk 25 a) : SOk 25 (Jcn a) := Jfg (ze h 25) h 25
def z25 : List Nat := [0, 0, 0, 0, 0, 0, 0, 0, 0, 0, 0, 0, 0, 0, 0, 0, 0, 0, 0, 0, 0, 0, 0, 0, 0]
theorem Jin : SOk 25 z25 := ⟨rfl, by simp [z25]⟩
def rS (a b : List Nat) : Nat → List Nat
 | 0 => z25
 | i + 1 => (rS a b i).set (i / 5 + 5 * ((2 * (i % 5) + 3 * (i / 5)) % 5)) (Jp (a.getD i 0) (b.getD i 0))
theorem Jam {a : List Nat} (b : List Nat) (h : SOk 25 a) : ∀ i, SOk 25 (rS a b i)
 | 0 => Jin
 | i + 1 => (Jam b h i).set _ (jn (h.get _) _)
def WC (b : List Nat) (i : Nat) : Nat := b.getD i 0 ^^^ ((18446744073709551615 ^^^ b.getD (i - i % 5 + (i % 5 + 1) % 5) 0) &&& b.getD (i - i % 5 + (i % 5 + 2) % 5) 0)
theorem Jxb {b : List Nat} (h : SOk 25 b) (i : Nat) : WC b i < 18446744073709551616 := Wa (h.get _) (yZ (h.get _))
def xS (b a : List Nat) : Nat → List Nat
 | 0 => a
 | i + 1 => (xS b a i).set i (WC b i)
theorem Jan {b a : List Nat} (hb : SOk 25 b) (h : SOk 25 a) : ∀ i, SOk 25 (xS b a i)
 | 0 => h
 | i + 1 => (Jan hb h i).set _ (Jxb hb _)
def Jkz (a : List Nat) (n : Nat) : List Nat := a.set 0 (a.getD 0 0 ^^^ n)
def zf (by_ a : List Nat) (n : Nat) : List Nat := Jkz (xS (rS (Jcn a) by_ 25) (Jcn a) 25) n
theorem Jrc {a : List Nat} (h : SOk 25 a) {n : Nat} (hn : n < 18446744073709551616) : SOk 25 (Jkz a n) := h.set _ (Wa (h.get _) hn)
theorem Jn8 {a : List Nat} (by_ : List Nat) (h : SOk 25 a) {n : Nat} (hn : n < 18446744073709551616) : SOk 25 (zf by_ a n) :=
 Jrc (Jan (Jam by_ (Zd h) 25) (Zd h) 25) hn
def turnsL : List Nat := [0, 1, 62, 28, 27, 36, 44, 6, 55, 20, 3, 10, 43, 25, 39, 41, 45, 15, 21, 8, 18, 2, 61, 56, 14]
def numsL : List Nat := [0x0000000000000001, 0x0000000000008082, 0x800000000000808A, 0x8000000080008000, 0x000000000000808B, 0x0000000080000001,
 0x8000000080008081, 0x8000000000008009, 0x000000000000008A, 0x0000000000000088, 0x0000000080008009, 0x000000008000000A,
 0x000000008000808B, 0x800000000000008B, 0x8000000000008089, 0x8000000000008003, 0x8000000000008002, 0x8000000000000080,
 0x000000000000800A, 0x800000008000000A, 0x8000000080008081, 0x8000000000008080, 0x0000000080000001, 0x8000000080008008]
theorem numsL_ok : SOk 24 numsL := ⟨rfl, by decide +kernel⟩
def Xm (a : List Nat) : Nat → List Nat
 | 0 => a
 | i + 1 => zf turnsL (Xm a i) (numsL.getD i 0)
theorem XS {a : List Nat} (h : SOk 25 a) : ∀ i, SOk 25 (Xm a i)
 | 0 => h
 | i + 1 => Jn8 turnsL (XS h i) (numsL_ok.get i)
def qy (a : List Nat) : List Nat := Xm a 24
theorem zg {a : List Nat} (h : SOk 25 a) : SOk 25 (qy a) := by unfold qy; exact XS h 24
def abS (a : List Nat) (s : List UInt8) : Nat → List Nat
 | 0 => a
 | i + 1 => (abS a s i).set (i / 8) ((abS a s i).getD (i / 8) 0 ^^^ (s.getD i 0).toNat * 2 ^ (i % 8 * 8))
theorem zh {a : List Nat} (s : List UInt8) (h : SOk 25 a) : ∀ i, SOk 25 (abS a s i)
 | 0 => h
 | i + 1 => (zh s h i).set _ (Wa ((zh s h i).get _) (Je8 (Xl _) m5))
def qz (t : List UInt8) : Nat → List Nat
 | 0 => z25
 | j + 1 => qy (abS (qz t j) (t.drop (136 * j)) 136)
theorem q6 (t : List UInt8) : ∀ j, SOk 25 (qz t j)
 | 0 => Jin
 | j + 1 => by unfold qz; exact zg (zh _ (q6 t j) 136)
def Ze (n : Nat) : List UInt8 := if 136 - n % 136 = 1 then [129] else 1 :: (List.replicate (134 - n % 136) 0 ++ [128])
theorem Xn (n : Nat) : (Ze n).length = 136 - n % 136 := by
 unfold Ze; split
 ·simp; omega
 ·simp; omega
def Yh (a : List Nat) : Nat → List UInt8
 | 0 => []
 | i + 1 => Yh a i ++ [UInt8.ofNat (a.getD (i / 8) 0 / 2 ^ (i % 8 * 8) % 256)]
theorem Wb (a : List Nat) : ∀ i, (Yh a i).length = i
 | 0 => rfl
 | i + 1 => by simp [Yh, Wb a i]
def WN (s : List UInt8) : List UInt8 := Yh (qz (s ++ Ze s.length) ((s ++ Ze s.length).length / 136)) 32
theorem jo (s : List UInt8) : (WN s).length = 32 := Wb _ _
theorem zi (s : List UInt8) : (s ++ Ze s.length).length % 136 = 0 := by rw [List.length_append, Xn]; omega
abbrev BS : Type := List UInt8
variable {last : Option BS} {kf : α → BS}
theorem VO : ∀ a : BS, Op.bytesLess a a = false
 | [] => rfl
 | x :: a => by simp [Op.bytesLess, VO a]
theorem QW : ∀ {a b c : BS}, Op.bytesLess a b = true → Op.bytesLess b c = true → Op.bytesLess a c = true
 | _, [], _, h, _ => by simp [Op.bytesLess] at h
 | _, _ :: _, [], _, h => by simp [Op.bytesLess] at h
 | [], y :: b, z :: c, _, _ => rfl
 | x :: a, y :: b, z :: c, h, h2 => by
  simp only [Op.bytesLess, Bool.or_eq_true, decide_eq_true_eq, Bool.and_eq_true, beq_iff_eq] at h h2 ⊢
  rcases h with h | ⟨rfl, h⟩
  ·rcases h2 with h2 | ⟨rfl, h2⟩
   ·exact .inl (UInt8.lt_trans h h2)
   ·exact .inl h
  ·rcases h2 with h2 | ⟨rfl, h2⟩
   ·exact .inl h2
   ·exact .inr ⟨rfl, QW h h2⟩
theorem XU : ∀ a b : BS, a = b ∨ Op.bytesLess a b = true ∨ Op.bytesLess b a = true
 | [], [] => .inl rfl
 | [], _ :: _ => .inr (.inl rfl)
 | _ :: _, [] => .inr (.inr rfl)
 | x :: a, y :: b => by
  simp only [Op.bytesLess, Bool.or_eq_true, decide_eq_true_eq, Bool.and_eq_true, beq_iff_eq]
  by_cases h1 : x < y
  ·exact .inr (.inl (.inl h1))
  by_cases h2 : y < x
  ·exact .inr (.inr (.inl h2))
  have e : x = y := UInt8.le_antisymm (UInt8.not_lt.1 h2) (UInt8.not_lt.1 h1)
  subst e
  rcases XU a b with rfl | h | h
  ·exact .inl O
  ·exact .inr (.inl (.inr ⟨rfl, h⟩))
  ·exact .inr (.inr (.inr ⟨rfl, h⟩))
theorem Xg {a b : BS} (h : Op.bytesLess a b = true) : Op.bytesLess b a = false := by
 cases h2 : Op.bytesLess b a
 ·rfl
 ·have := QW h h2; rw [VO] at this; cases this
theorem jG {a b : BS} (h : Op.bytesLess a b = true) : a ≠ b := by rintro rfl; rw [VO] at h; cases h
theorem Jio {a b : BS} (h : Op.bytesLess a b = false) (hn : a ≠ b) : Op.bytesLess b a = true := by
 rcases XU a b with h1 | h1 | h1
 ·exact absurd h1 hn
 ·rw [h] at h1; cases h1
 ·exact h1
section
variable {α : Type} (kf : α → BS)
def QO : List α → Bool
 | [] => true
 | [_] => true
 | x :: y :: l => Op.bytesLess (kf x) (kf y) && QO (y :: l)
abbrev KN (l : List α) : Prop := l.Pairwise fun x y => Op.bytesLess (kf x) (kf y) = true
theorem vx : ∀ l : List α, QO kf l = true ↔ KN kf l
 | [] => by simp [QO]
 | [_] => by simp [QO]
 | x :: y :: l => by
  rw [QO, Bool.and_eq_true, vx (y :: l)]
  refine Iff.trans ?_ List.pairwise_cons.symm
  constructor
  ·rintro ⟨h1, h2⟩
   refine ⟨fun z hz => ?_, h2⟩
   rcases List.mem_cons.1 hz with rfl | hz
   ·exact h1
   ·exact QW h1 ((List.pairwise_cons.1 h2).1 z hz)
  ·rintro ⟨h1, h2⟩
   exact ⟨h1 y List.mem_cons_self, h2⟩
def Wc (k : BS) (l : List α) : Option α := l.find? fun x => kf x == k
def Qo (x : α) : List α → List α
 | [] => [x]
 | y :: ys => if Op.bytesLess (kf y) (kf x) then y :: Qo x ys else if kf y = kf x then x :: ys else x :: y :: ys
def ZE (k : BS) (l : List α) : List α := l.filter fun y => !(kf y == k)
variable {kf}
theorem QJ {k : BS} {y : α} {l : List α} : Wc kf k (y :: l) = if kf y = k then some y else Wc kf k l := by
 unfold Wc
 rw [List.find?_cons]
 by_cases h : kf y = k
 ·simp [h]
 ·rw [if_neg h, show (kf y == k) = false from by simpa using h]
theorem vy {k : BS} {y : α} {l : List α} (h : Wc kf k l = some y) : kf y = k ∧ y ∈ l := ⟨by have := List.find?_some h; simpa using this, List.mem_of_find?_eq_some h⟩
theorem Jip {k : BS} {l : List α} (h : ∀ y ∈ l, kf y ≠ k) : Wc kf k l = none := by
 unfold Wc; rw [List.find?_eq_none]; intro x hx; simpa using h x hx
theorem vz {y : α} : ∀ {l : List α}, KN kf l → y ∈ l → Wc kf (kf y) l = some y
 | z :: l, hs, hm => by
  rw [QJ]
  obtain ⟨h1, h2⟩ := List.pairwise_cons.1 hs
  rcases List.mem_cons.1 hm with rfl | hm
  ·rw [if_pos rfl]
  ·rw [if_neg (jG (h1 y hm)), vz h2 hm]
theorem q7 {x y : α} : ∀ {l : List α}, y ∈ Qo kf x l → y = x ∨ y ∈ l
 | [], h => by simpa [Qo] using h
 | z :: l, h => by
  unfold Qo at h
  split at h
  ·rcases List.mem_cons.1 h with rfl | h
   ·exact .inr List.mem_cons_self
   ·exact (q7 h).elim .inl fun h => .inr (List.mem_cons_of_mem _ h)
  ·split at h
   ·rcases List.mem_cons.1 h with rfl | h
    ·exact .inl O
    ·exact .inr (List.mem_cons_of_mem _ h)
   ·exact List.mem_cons.1 h
theorem jN {x : α} : ∀ {l : List α}, KN kf l → KN kf (Qo kf x l)
 | [], _ => by simp [Qo]
 | z :: l, h => by
  obtain ⟨h1, h2⟩ := List.pairwise_cons.1 h
  unfold Qo
  split
  ·rename_i hz
   refine List.pairwise_cons.2 ⟨fun y hy => ?_, jN h2⟩
   rcases q7 hy with rfl | hy
   ·exact hz
   ·exact h1 y hy
  ·rename_i hz
   split
   ·rename_i he
    exact List.pairwise_cons.2 ⟨fun y hy => he ▸ h1 y hy, h2⟩
   ·rename_i he
    have hx := Jio (by simpa using hz) he
    refine List.pairwise_cons.2 ⟨fun y hy => ?_, h⟩
    rcases List.mem_cons.1 hy with rfl | hy
    ·exact hx
    ·exact QW hx (h1 y hy)
theorem zj {x : α} {k : BS} : ∀ {l : List α}, KN kf l → Wc kf k (Qo kf x l) = if kf x = k then some x else Wc kf k l
 | [], _ => by unfold Qo; rw [QJ]
 | z :: l, h => by
  obtain ⟨h1, h2⟩ := List.pairwise_cons.1 h
  unfold Qo
  split
  ·rename_i hz
   rw [QJ, QJ, zj h2]
   by_cases hk : kf z = k
   ·subst hk
    rw [if_pos rfl, if_neg (fun e => jG hz e.symm), if_pos rfl]
   ·rw [if_neg hk, if_neg hk]
  ·split
   ·rename_i he
    rw [QJ, QJ, he]
    split <;> rfl
   ·rw [QJ]
theorem Jcp {x : α} : ∀ {l : List α}, KN kf l → (Qo kf x l).length = if (Wc kf (kf x) l).isSome then l.length else l.length + 1
 | [], _ => rfl
 | z :: l, h => by
  obtain ⟨h1, h2⟩ := List.pairwise_cons.1 h
  unfold Qo
  rw [QJ]
  split
  ·rename_i hz
   rw [List.length_cons, Jcp h2, if_neg (jG hz)]
   split <;> rfl
  ·rename_i hz
   split
   ·rename_i he
    rfl
   ·rename_i he
    have hx := Jio (by simpa using hz) he
    rw [Jip (fun y hy e => ?_)]
    ·rfl
    ·have := QW hx (h1 y hy)
     rw [e, VO] at this; cases this
theorem Jiq {k : BS} {l : List α} (h : KN kf l) : KN kf (ZE kf k l) := h.filter _
theorem Jfh {k j : BS} : ∀ {l : List α}, Wc kf j (ZE kf k l) = if k = j then none else Wc kf j l
 | [] => by simp [ZE, Wc]
 | z :: l => by
  have ih := Jfh (k := k) (j := j) (l := l)
  unfold ZE at ih ⊢
  rw [List.filter_cons, QJ]
  by_cases hz : kf z = k
  ·subst hz
   rw [if_neg ml, ih]
   split
   ·rfl
   ·rfl
  ·rw [if_pos (by simpa using hz), QJ, ih]
   by_cases hj : kf z = j
   ·subst hj
    rw [if_pos rfl, if_pos rfl, if_neg (fun e => hz e.symm)]
   ·rw [if_neg hj, if_neg hj]
theorem Jxc {k : BS} {l : List α} {y : α} (h : y ∈ ZE kf k l) : y ∈ l := (List.mem_filter.1 h).1
theorem Jk0 {x : α} : ∀ {l : List α}, ZE kf (kf x) (Qo kf x l) = ZE kf (kf x) l
 | [] => by simp [ZE, Qo]
 | z :: l => by
  have ih := Jk0 (x := x) (l := l)
  unfold ZE at ih ⊢
  unfold Qo
  split
  ·rw [List.filter_cons, ih, List.filter_cons]
  ·split
   ·rename_i he
    rw [List.filter_cons, List.filter_cons, he]
    simp
   ·rw [List.filter_cons]
    simp
def Vm (kf : α → BS) (x : α) : Bool → List α → List α
 | p, [] => if p then [] else [x]
 | p, y :: ys => (if !p && !Op.bytesLess (kf y) (kf x) then [x] else []) ++ (if kf y = kf x then [] else [y]) ++ Vm kf x (p || !Op.bytesLess (kf y) (kf x)) ys
theorem Zf {x : α} : ∀ l : List α, Vm kf x true l = ZE kf (kf x) l
 | [] => rfl
 | y :: ys => by
  rw [Vm, Bool.true_or, Zf ys]
  unfold ZE
  rw [List.filter_cons]
  by_cases h : kf y = kf x
  ·simp [h]
  ·simp [h]
theorem Jrd {k : BS} {l : List α} (h : ∀ y ∈ l, kf y ≠ k) : ZE kf k l = l := List.filter_eq_self.2 fun y hy => by simpa using h y hy
theorem vB {x : α} : ∀ {l : List α}, KN kf l → Vm kf x false l = Qo kf x l
 | [], _ => rfl
 | y :: ys, h => by
  obtain ⟨h1, h2⟩ := List.pairwise_cons.1 h
  rw [Vm, Qo]
  by_cases hy : Op.bytesLess (kf y) (kf x) = true
  ·simp [hy, jG hy, vB h2]
  ·have hy : Op.bytesLess (kf y) (kf x) = false := by simpa using hy
   by_cases he : kf y = kf x
   ·have hd : ZE kf (kf x) ys = ys := Jrd fun z hz q => jG (h1 z hz) (he.trans q.symm)
    simp [hy, he, Zf, hd, VO]
   ·have hx := Jio hy he
    have hd : ZE kf (kf x) ys = ys := Jrd fun z hz q => by have := QW hx (h1 z hz); rw [q, VO] at this; cases this
    simp [hy, he, Zf, hd]
theorem Jre {x : α} : ∀ {p q : List α}, (∀ y ∈ p, Op.bytesLess (kf y) (kf x) = true) → (∀ y ∈ q, Op.bytesLess (kf y) (kf x) = false) →
  Qo kf x (p ++ q) = match q with
   | [] => p ++ [x]
   | y :: q' => if kf y = kf x then p ++ x :: q' else p ++ x :: y :: q'
 | [], [], _, _ => rfl
 | [], y :: q', _, h => by
  rw [List.nil_append, Qo, h y List.mem_cons_self]
  simp
 | z :: p, q, h1, h2 => by
  rw [List.cons_append, Qo, if_pos (h1 z List.mem_cons_self), Jre (p := p) (fun y hy => h1 y (List.mem_cons_of_mem _ hy)) h2]
  cases q with
  | nil => rfl
  | cons y q' => dsimp only; split <;> rfl
end
def Qx : BS := List.replicate 32 0
structure W4 : Type where
  a : Nat
  b : Nat
  c : Nat
  d : Nat
deriving DecidableEq
def W4.l (w : W4) : List Nat := [w.a, w.b, w.c, w.d]
def w40 : W4 := ⟨0, 0, 0, 0⟩
def W4.of (l : List Nat) : W4 := ⟨l.getD 0 0, l.getD 1 0, l.getD 2 0, l.getD 3 0⟩
theorem W4.of_l {l : List Nat} (h : l.length = 4) : (W4.of l).l = l := by
 match l, h with
 | [a, b, c, d], _ => rfl
theorem W4.l_inj {x y : W4} (h : x.l = y.l) : x = y := by
 cases x; cases y; simp [W4.l] at h; simp [h]
structure AcE : Type where
  addr : BS
  nonce : Nat
  bal : W4
  code : BS
  slots : List (BS × BS)
deriving DecidableEq
variable {s : List AcE}
def ac0 : AcE := ⟨[], 0, w40, [], []⟩
def ZP (x : BS × BS) : Bool := decide (x.1.length ≠ 32) || decide (x.2.length ≠ 32)
def Xy (x : BS × BS) : Bool := decide (x.2 = Qx)
def Wz (a : AcE) : Int := if a.addr.length ≠ 20 ∨ a.slots.any ZP = true then 2 else if QO Prod.fst a.slots = false then 11 else if a.code.length > 512 ∨ a.slots.length > 16 then 5 else if a.slots.any Xy = true then 8 else 0
def Vn (last : Option BS) (a : AcE) : Int := if Wz a ≠ 2 ∧ (∃ b, last = some b ∧ Op.bytesLess b a.addr = false) then 11 else Wz a
instance (last : Option BS) (a : AcE) : Decidable (∃ b, last = some b ∧ Op.bytesLess b a.addr = false) := match last with
  | none => .isFalse (by simp)
  | some b => if h : Op.bytesLess b a.addr = false then .isTrue ⟨b, rfl, h⟩ else .isFalse (by simpa using h)
def goS : Option BS → List AcE → Int
 | _, [] => 0
 | last, a :: l => if Vn last a ≠ 0 then Vn last a else goS (some a.addr) l
def KP (s : List AcE) : Int := if s.length > 32 then 5 else goS none s
def Qn (s : List AcE) (k : BS) : Option AcE := Wc AcE.addr k s
def ZQ (s : List AcE) (a : AcE) : List AcE × Int := if KP s ≠ 0 then (s, KP s) else if Wz a ≠ 0 then (s, Wz a) else if (Qo AcE.addr a s).length > 32 then (s, 5) else (Qo AcE.addr a s, 0)
def Vo (a : AcE) (k : BS) : BS := match Wc Prod.fst k a.slots with
 | some x => x.2
 | none => Qx
def KK (l : List (BS × BS)) (k v : BS) : List (BS × BS) := if v = Qx then ZE Prod.fst k l else Qo Prod.fst (k, v) l
def VP (a : AcE) (k v : BS) : AcE × Int := if Wz a ≠ 0 then (a, Wz a) else if k.length ≠ 32 ∨ v.length ≠ 32 then (a, 2) else if (KK a.slots k v).length > 16 then (a, 5) else ({ a with slots := KK a.slots k v }, 0)
theorem Ve {a : AcE} (h : Wz a = 0) : a.addr.length = 20 ∧ (∀ x ∈ a.slots, x.1.length = 32 ∧ x.2.length = 32 ∧ x.2 ≠ Qx) ∧ KN Prod.fst a.slots ∧ a.code.length ≤ 512 ∧ a.slots.length ≤ 16 := by
 unfold Wz at h
 split at h
 ·cases h
 rename_i h1
 split at h
 ·cases h
 rename_i h2
 split at h
 ·cases h
 rename_i h3
 split at h
 ·cases h
 rename_i h4
 simp only [not_or, Decidable.not_not] at h1 h3
 refine ⟨h1.1, fun x hx => ?_, (vx _ _).1 (by simpa using h2), by omega, by omega⟩
 have a1 := h1.2
 simp only [Bool.not_eq_true, List.any_eq_false] at a1 h4
 have := a1 x hx
 have h5 := h4 x hx
 unfold ZP at this
 unfold Xy at h5
 simp at this h5
 exact ⟨this.1, this.2, h5⟩
theorem Jcq {a : AcE} (h1 : a.addr.length = 20) (h2 : ∀ x ∈ a.slots, x.1.length = 32 ∧ x.2.length = 32 ∧ x.2 ≠ Qx) (h3 : KN Prod.fst a.slots) (h4 : a.code.length ≤ 512) (h5 : a.slots.length ≤ 16) : Wz a = 0 := by
 unfold Wz
 have e1 : ¬ a.slots.any ZP = true := by
  simp only [Bool.not_eq_true, List.any_eq_false]
  intro x hx
  obtain ⟨a1, a2, _⟩ := h2 x hx
  simp [ZP, a1, a2]
 have e2 : ¬ a.slots.any Xy = true := by
  simp only [Bool.not_eq_true, List.any_eq_false]
  intro x hx
  obtain ⟨_, _, a3⟩ := h2 x hx
  simp [Xy, a3]
 have e3 := (vx Prod.fst a.slots).2 h3
 rw [if_neg (fun h => h.elim (fun h => h h1) e1), if_neg (by rw [e3]; simp), if_neg m5, if_neg e2]
theorem vC (a : AcE) : Vn none a = Wz a := by unfold Vn; rw [if_neg ml]
theorem Jk1 {a : AcE} : Vn last a = 0 ↔ Wz a = 0 ∧ ∀ b, last = some b → Op.bytesLess b a.addr = true := by
 unfold Vn
 split
 ·rename_i h
  obtain ⟨h1, b, h2, h3⟩ := h
  constructor
  ·intro h; cases h
  ·rintro ⟨_, h⟩; rw [h b h2] at h3; cases h3
 ·rename_i h
  constructor
  ·intro h0
   refine ⟨h0, fun b hb => ?_⟩
   cases h4 : Op.bytesLess b a.addr
   ·exact absurd ⟨by omega, b, hb, h4⟩ h
   ·rfl
  ·exact fun h => h.1
theorem J0l : ∀ {last : Option BS} {s : List AcE}, goS last s = 0 ↔ (∀ a ∈ s, Wz a = 0) ∧ KN AcE.addr s ∧ (∀ b, last = some b → ∀ a ∈ s, Op.bytesLess b a.addr = true)
 | last, [] => by simp [goS]
 | last, a :: l => by
  rw [goS]
  split
  ·rename_i h
   constructor
   ·intro h0; exact absurd h0 h
   ·rintro ⟨h1, h2, h3⟩
    exact absurd (Jk1.2 ⟨h1 a List.mem_cons_self, fun b hb => h3 b hb a List.mem_cons_self⟩) h
  ·rename_i h
   have h := Jk1.1 (Decidable.not_not.1 h)
   rw [J0l]
   constructor
   ·rintro ⟨h1, h2, h3⟩
    refine ⟨fun x hx => ?_, List.pairwise_cons.2 ⟨fun x hx => h3 _ O x hx, h2⟩, fun b hb x hx => ?_⟩
    ·rcases List.mem_cons.1 hx with rfl | hx
     ·exact h.1
     ·exact h1 x hx
    ·rcases List.mem_cons.1 hx with rfl | hx
     ·exact h.2 b hb
     ·exact QW (h.2 b hb) (h3 _ O x hx)
   ·rintro ⟨h1, h2, h3⟩
    obtain ⟨h4, h5⟩ := List.pairwise_cons.1 h2
    exact ⟨fun x hx => h1 x (List.mem_cons_of_mem _ hx), h5, fun b hb x hx => by cases hb; exact h4 x hx⟩
theorem XV : KP s = 0 ↔ s.length ≤ 32 ∧ (∀ a ∈ s, Wz a = 0) ∧ KN AcE.addr s := by
 unfold KP
 split
 ·constructor
  ·intro h; cases h
  ·rintro ⟨h, _⟩; omega
 ·rw [J0l]
  constructor
  ·rintro ⟨h1, h2, _⟩; exact ⟨by omega, h1, h2⟩
  ·rintro ⟨_, h1, h2⟩; exact ⟨h1, h2, by simp⟩
theorem chk_one (a : AcE) : KP [a] = Wz a := by
 unfold KP goS goS
 rw [if_neg ml, vC]
 split
 ·rfl
 ·rename_i h; exact (Decidable.not_not.1 h).symm
structure PureT {α : Type} (P : Program) (f : FuncId) (args : Array Value) (V : α → Value) (T : Jx) (LL : α → Jx) (Rl : Jx) : Prop where
  run : ∀ w, Has T w → Has Rl w → (T.Pairwise fun p q => p.1 ≠ q.1) → (∀ p ∈ Rl, ∀ q ∈ T, p.1 ≠ q.1) → Calls P f args w fun e w' => ∃ x, e = .returned (V x) ∧ Keep (T.map (·.1)) w w' ∧ (∀ p ∈ LL x, (p.1 ∈ T.map (·.1) ∨ w.heap.size ≤ p.1) ∧ w'.heap[p.1]? = some p.2) ∧ (LL x).Pairwise fun p q => p.1 ≠ q.1
def cxT (P : Program) (w : World) (T Rl : Jx) (n : Nat) : Cx := ⟨P, none, w, T.map (·.1), [], Rl, n⟩
theorem St.startT {n : Nat} {T : Jx} (hT : Has T w) (hR : Has Rl w) (hd : T.Pairwise fun p q => p.1 ≠ q.1) (hne : ∀ p ∈ Rl, ∀ q ∈ T, p.1 ≠ q.1) : St (cxT P w T Rl n) T (fun _ _ => True) w :=
 ⟨Keep.refl _ _, fun p hp => ⟨.inl (List.mem_map.2 ⟨p, hp, rfl⟩), by simp [cxT], hT p hp⟩, hd, fun p hp => ⟨fun h => by obtain ⟨q, hq, e⟩ := List.mem_map.1 h; exact hne p hp q hq e.symm, by simp [cxT], hR p hp⟩, by simp [cxT], ⟨[], by simp, fun _ _ => trivial⟩⟩
theorem J4 {f : FuncId} {T : Jx} (hf : P.funcs[f]? = some fn) (hb : fn.body = some code) (hlen : Nat.ble vs.length fn.ntmps = true)
  (h : ∀ w, HC (cxT P w T Rl fn.ntmps) [] (Wj 0 vs) T (fun _ _ => True) code (bodyPostM (FW none) 0 P fn (fun e w' => ∃ x, e = .returned (V x) ∧ St (cxT P w T Rl fn.ntmps) (LL x) (fun _ _ => True) w'))) : PureT P f vs.toArray V T LL Rl := ⟨fun w hT hR hd hne =>
 (QR (cxT P w T Rl fn.ntmps) hf hb rfl rfl rfl hlen (St.startT hT hR hd hne) (h w)).mono fun _ _ ⟨x, he, hs⟩ => ⟨x, he, by have := hs.keep; simpa [cxT] using this, fun p hp => ⟨(hs.own p hp).1, (hs.own p hp).2.2⟩, hs.distinct⟩⟩
section
variable {c : Cx} {l : KQ} {L : Jx} {X : XP} {Q : Exit → Act → World → Prop} {d : List Deferred}
variable {ops : Array Oper} {rest : List Oper} {i : Nat} {v : Value} {t : TypeId} {ps : String} {af : Array Edge} {gd : Option (Nat × Bool)} {ty t2 : TypeId}
theorem St.turnT {T LL : Jx} (hs : St c (T ++ L0) X w) (hk : Keep (T.map (·.1)) w w') (hL : ∀ p ∈ LL, (p.1 ∈ T.map (·.1) ∨ w.heap.size ≤ p.1) ∧ w'.heap[p.1]? = some p.2) (hd : LL.Pairwise fun p q => p.1 ≠ q.1) : St c (LL ++ L0) X w' := by
 have hT : ∀ p ∈ T, p ∈ T ++ L0 := fun p hp => List.mem_append_left _ hp
 have hle := hs.keep.size
 obtain ⟨hd1, hd2, hd3⟩ := List.pairwise_append.1 hs.distinct
 have hin : ∀ k ∈ T.map (·.1), ∃ p ∈ T, p.1 = k := fun k hk => by obtain ⟨p, hp, e⟩ := List.mem_map.1 hk; exact ⟨p, hp, e⟩
 refine ⟨hs.keep.glue hk ?_, fun p hp => ?_, ?_, hs.ext, hs.xlt, ?_⟩
 ·intro k hk
  obtain ⟨p, hp, rfl⟩ := hin k hk
  exact (hs.own p (hT p hp)).1.imp (fun h => List.mem_append_left _ h) id
 ·rcases List.mem_append.1 hp with hp | hp
  ·obtain ⟨h1, h2⟩ := hL p hp
   rcases h1 with h1 | h1
   ·obtain ⟨q, hq, e⟩ := hin _ h1
    obtain ⟨g1, g2, _⟩ := hs.own q (hT q hq)
    rw [e] at g1 g2
    exact ⟨g1, g2, h2⟩
   ·exact ⟨.inr m5, fun hx => (by have := hs.xlt _ hx; omega), h2⟩
  ·obtain ⟨g1, g2, g3⟩ := hs.own p (List.mem_append_right _ hp)
   refine ⟨g1, g2, ?_⟩
   rw [hk.block _ (JP g3) (fun h => by obtain ⟨q, hq, e⟩ := hin _ h; exact hd3 q hq p hp e)]
   exact g3
 ·refine List.pairwise_append.2 ⟨hd, hd2, fun p hp q hq => ?_⟩
  rcases (hL p hp).1 with h1 | h1
  ·obtain ⟨u, hu, e⟩ := hin _ h1
   rw [← e]; exact hd3 u hu q hq
  ·have := JP (hs.own q (List.mem_append_right _ hq)).2.2
   omega
 ·obtain ⟨xs, e1, e2⟩ := hs.x
  refine ⟨xs, fun k hkx => ?_, fun w2 hw2 => e2 w2 fun k hkx => (hw2 k hkx).trans (hk.block k (e1 k hkx).2.1 (fun h => by obtain ⟨q, hq, e⟩ := hin _ h; exact (e1 k hkx).2.2 q (hT q hq) e))⟩
  obtain ⟨a1, a2, a3⟩ := e1 k hkx
  refine ⟨a1, Nat.lt_of_lt_of_le a2 hk.size, fun p hp => ?_⟩
  rcases List.mem_append.1 hp with hp | hp
  ·rcases (hL p hp).1 with h1 | h1
   ·obtain ⟨u, hu, e⟩ := hin _ h1
    rw [← e]; exact a3 u (hT u hu)
   ·omega
  ·exact a3 p (List.mem_append_right _ hp)
theorem QK  {T : Jx}
  (hp : L.Perm (T ++ L0)) (hg : Kz l ops ⟨some i, .call ⟨.value f, args, at_⟩, ty, ps, af, gd⟩ = some true) (hi : Nat.ble (i + 1) c.n = true) (hca : KM l f args = some (g, vs)) (eg : Enters c.P g)
  (hpt : PureT c.P g vs.toArray V T LL Rl) (hR : ∀ p ∈ Rl, known c L0 p.1 p.2) (h : ∀ x, HL c d ((i, V x) :: l) (LL x ++ L0) X ops rest Q) : HL c d l L X ops (⟨some i, .call ⟨.value f, args, at_⟩, ty, ps, af, gd⟩ :: rest) Q :=
 XK (V := V) (L' := fun x => LL x ++ L0) (X' := fun _ => X) hg hi hca eg (fun w hs => by
  have hs := hs.perm hp
  obtain ⟨hd1, _, hd3⟩ := List.pairwise_append.1 hs.distinct
  refine (hpt.run w (fun p hp => (hs.own p (List.mem_append_left _ hp)).2.2) (fun p hp => ?_) hd1 (fun p hp q hq => ?_)).mono fun _ _ ⟨x, he, hk, h1, h2⟩ => ⟨x, he, hs.turnT hk h1 h2⟩
  ·exact (hR p hp).elim (fun h => (hs.own _ (List.mem_append_right _ h)).2.2) hs.readR
  ·rcases hR p hp with h | h
   ·exact fun e => hd3 q hq _ h e.symm
   ·rintro e
    obtain ⟨h1, _, h3⟩ := hs.ext _ h
    have h3 := JP h3
    rcases (hs.own q (List.mem_append_left _ hq)).1 with h4 | h4
    ·exact h1 (e ▸ h4)
    ·simp only at h3 e; omega) h
theorem Kn
  (hg : Kz l ops ⟨some i, .call ⟨.value f, args, at_⟩, ty, ps, af, gd⟩ = some true) (hi : Nat.ble (i + 1) c.n = true) (hca : KM l f args = some (g, vs)) (eg : Enters c.P g)
  (hpt : PureT c.P g vs.toArray V [] LL Rl) (hR : ∀ p ∈ Rl, known c L p.1 p.2) (h : ∀ x, HL c d ((i, V x) :: l) (LL x ++ L) X ops rest Q) : HL c d l L X ops (⟨some i, .call ⟨.value f, args, at_⟩, ty, ps, af, gd⟩ :: rest) Q :=
 QK (T := []) (L0 := L) (List.Perm.refl _) hg hi hca eg hpt hR h
theorem PureR.toT {f : FuncId} {args : Array Value} (h : PureR P f args v Rl) : PureT (α := Unit) P f args (fun _ => v) [] (fun _ => []) Rl :=
 ⟨fun w _ hR _ _ => (h.run w hR).mono fun _ _ ⟨he, hk⟩ => ⟨(), he, hk, by simp, List.Pairwise.nil⟩⟩
theorem PureT.map {β : Type} {f : FuncId} {args : Array Value} {V' : β → Value} {T : Jx} {LL' : β → Jx} (h : PureT P f args V T LL Rl) (g : α → β) (hv : ∀ x, V x = V' (g x)) (hl : ∀ x, (LL' (g x)).Sublist (LL x)) : PureT P f args V' T LL' Rl :=
 ⟨fun w hT hR hd hne => (h.run w hT hR hd hne).mono fun _ _ ⟨x, he, hk, h1, h2⟩ => ⟨g x, he.trans (by rw [hv]), hk, fun p hp => h1 p ((hl x).subset hp), h2.sublist (hl x)⟩⟩
theorem Jn9  {k : Nat} {o : Obj}
  (hk : L[k]? = some (r, o)) (hL : L.eraseIdx k = L0) (hg : Kz l ops ⟨some i, .call ⟨.value f, args, at_⟩, ty, ps, af, gd⟩ = some true) (hi : Nat.ble (i + 1) c.n = true) (hca : KM l f args = some (g, vs)) (eg : Enters c.P g)
  (hpt : PureT c.P g vs.toArray V [(r, o)] LL Rl) (hR : ∀ p ∈ Rl, known c L0 p.1 p.2) (h : ∀ x, HL c d ((i, V x) :: l) (LL x ++ L0) X ops rest Q) : HL c d l L X ops (⟨some i, .call ⟨.value f, args, at_⟩, ty, ps, af, gd⟩ :: rest) Q :=
 QK (T := [(r, o)]) (L0 := L0) (by
  obtain ⟨h1, h2⟩ := List.getElem?_eq_some_iff.1 hk
  have := qj h1 (r, o)
  rw [hL] at this
  rwa [show L.set k (r, o) = L from by rw [← h2, List.set_getElem_self]] at this) hg hi hca eg hpt hR h
theorem Jfj (w : World) (dT sT ty e : TypeId) (inf : TypeInfo) (hu : P.underlying dT = some (.slice e)) (hi : P.info? e = some inf) {dl dc sl sc n : Nat} {cs : Array Value}
  (hn : Nat.min sl dl = n) (hb : w.heap[r]? = some (.cells cs e1 (0, 0))) (hl : vs.length = n * inf.size) (hsrc : ∀ j v, vs[j]? = some v → w.cell? ((⟨r2, off2, none⟩ : Addr).add j) = some v) (hfit : off + n * inf.size ≤ cs.size) (h1 : ∀ v ∈ vs, v.oneCell' = true) :
  (Builtin.copy_ #[dT, sT] ty #[.slice (some ⟨r, off, none⟩) dl dc, .slice (some ⟨r2, off2, none⟩) sl sc]).run P w = .ok (.int .i64 n) (w.setRow r (cs.toList.take off ++ vs ++ cs.toList.drop (off + n * inf.size)).toArray) := by
 have hl1 := run_loadCells_list (P := P) w ⟨r2, off2, none⟩ vs hsrc
 rw [hl] at hl1
 have hst := run_storeCells_at (P := P) r off e1 vs 0 cs w hb (by rw [Nat.add_zero, hl]; exact hfit) h1
 rw [Nat.add_zero, hl] at hst
 have hn' : min sl dl = n := hn
 simp [Builtin.copy_, run_underlying hu, Builtin.lenOf, Builtin.firstCells, sizeOf, typeInfo, hi, hn', hl1, hst, Result.andThen, goInt]
theorem Yp  {e k dl dc sl sc n : Nat} {cs : Array Value} {cs' : List Value}
  (hg : Kz l ops ⟨some i, .call ⟨.builtin .copy, #[x, y], #[t, t2]⟩, ty, ps, af, gd⟩ = some true) (hi : Nat.ble (i + 1) c.n = true)
  (hx : Kx l x = some (.slice (some ⟨r, off, none⟩) dl dc)) (hy : Kx l y = some (.slice (some ⟨r2, off2, none⟩) sl sc)) (hk : L[k]? = some (r, .cells cs e1 (0, 0))) (hk2 : known c L r2 (.cells cs2 e2 fr2))
  (ht : KH c.P t = some e) (hs : Qg c.P e = some sz) (hn : Nat.min sl dl = n) (hvs : (cs2.toList.drop off2).take (n * sz) = vs) (hl : vs.length = n * sz) (hone : vs.all QE = true) (hfit : off + n * sz ≤ cs.size)
  (hcs : cs.toList.take off ++ vs ++ cs.toList.drop (off + n * sz) = cs') (hL : L.set k (r, .cells cs'.toArray e1 (0, 0)) = L')
  (h : HL c d ((i, .int .i64 n) :: l) L' X ops rest Q) : HL c d l L X ops (⟨some i, .call ⟨.builtin .copy, #[x, y], #[t, t2]⟩, ty, ps, af, gd⟩ :: rest) Q := by
 obtain ⟨inf, hinf, hs'⟩ : ∃ inf, c.P.info? e = some inf ∧ inf.size = sz := by
  unfold Qg at hs
  cases hq : c.P.info? e with
  | none => simp [hq] at hs
  | some inf => simp only [hq, Option.some.injEq] at hs; exact ⟨inf, rfl, hs⟩
 subst hs'
 refine Jqa (v := .int .i64 n) (L' := L') hg O O hi (fun a w hf hst => ⟨w.setRow r cs'.toArray, ?_, ?_⟩) h
 ·have hr := Jfj (P := c.P) w t t2 ty e inf (Ky ht) hinf (dc := dc) (sc := sc) hn (hst.get hk) hl (XM (hst.known hk2) hvs) hfit (fun u hu => by rw [X8]; exact List.all_eq_true.1 hone u hu)
  rw [hcs] at hr
  have ex := hf.eval hx
  have ey := hf.eval hy
  simp [execOp, resolve, Sem.run_bind, ex, ey, Result.andThen, invoke, builtin, hr]
 ·subst hL
  exact hst.set hk (Keep.setRow r cs'.toArray) (setRow_heap _ _ _ _ _ _ (hst.get hk))
theorem Jir (z : Array Value) (n : Nat) : (Builtin.zeroCells z n).toList = (List.range (n * z.size)).map (fun i => z.toList.getD (i % z.size) default) := by
 unfold Builtin.zeroCells
 simp
 intro a _
 rw [getElem!_def]
 cases z[a % z.size]? <;> rfl
theorem Jxd (hg : Kz l ops o = some true) (hn : KR o.op = true) (hd : o.dst = none)
  (hr : ∀ a w, Fr c.n d l a → St c L X w → ∃ w', (execOp a.eval o).run c.P w = .ok (.value v) w' ∧ St c L' X w') (h : HL c d l L' X ops rest Q) : HL c d l L X ops (o :: rest) Q := fun a w hf hs => by
 obtain ⟨w', h1, h2⟩ := hr a w hf hs
 refine V8 (JR hf hg) hn ?_
 rw [h1, Oper.uponIn_value, hd]
 exact h a w' hf h2
theorem Jao  {e k n : Nat} {cs : Array Value} {cs' : List Value}
  (hg : Kz l ops ⟨none, .call ⟨.builtin .clear, #[x], #[t]⟩, ty, ps, af, gd⟩ = some true)
  (hx : Kx l x = some (.slice (some ⟨r, off, none⟩) n cap)) (hk : L[k]? = some (r, .cells cs e1 (0, 0))) (ht : KH c.P t = some e) (hz : QI c.P e = some z) (hs : z.cells.size = sz) (hone : z.cells.toList.all QE = true) (hsz : 0 < sz) (hfit : off + n * sz ≤ cs.size)
  (hcs : cs.toList.take off ++ (Builtin.zeroCells z.cells n).toList ++ cs.toList.drop (off + n * sz) = cs') (hL : L.set k (r, .cells cs'.toArray e1 (0, 0)) = L')
  (h : HL c d l L' X ops rest Q) : HL c d l L X ops (⟨none, .call ⟨.builtin .clear, #[x], #[t]⟩, ty, ps, af, gd⟩ :: rest) Q := by
 have hlen : (Builtin.zeroCells z.cells n).toList.length = n * sz := by rw [Array.length_toList, size_zeroCells, hs]
 have hone' : ∀ u ∈ (Builtin.zeroCells z.cells n).toList, u.oneCell' = true := fun u hu => by
  rw [Jir] at hu
  obtain ⟨j, hj, rfl⟩ := List.mem_map.1 hu
  rw [X8]
  have hj2 : j % z.cells.size < z.cells.toList.length := by rw [Array.length_toList]; exact Nat.mod_lt _ m5
  rw [List.getD_eq_getElem?_getD, List.getElem?_eq_getElem hj2]
  exact List.all_eq_true.1 hone _ (List.getElem_mem _)
 refine Jxd (v := .tuple #[]) (L' := L') hg O O (fun a w hf hst => ?_) h
 have ex := hf.eval hx
 have hst2 := run_storeCells_at (P := c.P) r off e1 (Builtin.zeroCells z.cells n).toList 0 cs w (hst.get hk) (by rw [Nat.add_zero, hlen]; exact hfit) hone'
 rw [Nat.add_zero, hlen, hcs] at hst2
 cases n with
 | zero =>
  refine ⟨w, ?_, ?_⟩
  ·simp [execOp, resolve, Sem.run_bind, ex, Result.andThen, invoke, builtin, Builtin.clear_, Qe (Ky ht)]
  ·have : cs' = cs.toList := by
    rw [← hcs]
    have : (Builtin.zeroCells z.cells 0).toList = [] := List.length_eq_zero_iff.1 (by rw [hlen, Nat.zero_mul])
    rw [this, List.append_nil, Nat.zero_mul, Nat.add_zero, List.take_append_drop]
   rw [this] at hL
   have e2 : L.set k (r, .cells cs.toList.toArray e1 (0, 0)) = L := by
    obtain ⟨h1, h2⟩ := List.getElem?_eq_some_iff.1 hk
    rw [Array.toArray_toList, ← h2, List.set_getElem_self]
   rw [e2] at hL
   exact hL ▸ hst
 | succ n =>
  refine ⟨w.setRow r cs'.toArray, ?_, hL ▸ hst.set hk (Keep.setRow r cs'.toArray) (setRow_heap _ _ _ _ _ _ (hst.get hk))⟩
  simp [execOp, resolve, Sem.run_bind, ex, Result.andThen, invoke, builtin, Builtin.clear_, Qe (Ky ht), XJ hz, hst2]
theorem zk  {e tn b n : Nat} {kk : IntKind} {cs : Array Value} {xs : List Value} {kn : IntKind}
  (hg : Kz l ops ⟨some i, .call ⟨.builtin .append, #[x, y], #[t, tn]⟩, ty, ps, af, gd⟩ = some true) (hi : Nat.ble (i + 1) c.n = true)
  (hx : Kx l x = some (.slice (some ⟨r, off, none⟩) n cap)) (hy : Kx l y = some (.int kk (m : Int))) (hk : known c L r (.cells cs e1 fr)) (ht : KH c.P t = some e) (htn : c.P.underlying tn = some (.int kn)) (hz : QI c.P e = some z) (hs : Qg c.P e = some sz) (hb : Jb0 c.P e = some b) (hzs : z.cells.size = sz) (hsz : 0 < sz)
  (hxs : (cs.toList.drop off).take (n * sz) = xs) (hl : xs.length = n * sz) (hm : 0 < m) (hno : cap < n + m) (hcap : n ≤ cap) (h63 : n + m ≤ 9223372036854775807) (h47 : (n + m) * b ≤ 140737488355328)
  (h : ∀ r' cap' (Z spare : List Value), Z.length = m * sz → (n + m) * sz + spare.length = cap' * sz → HL c d ((i, .slice (some ⟨r', 0, none⟩) (n + m) cap') :: l) ((r', .cells (xs ++ Z ++ spare).toArray e (0, 0)) :: L) X ops rest Q) :
  HL c d l L X ops (⟨some i, .call ⟨.builtin .append, #[x, y], #[t, tn]⟩, ty, ps, af, gd⟩ :: rest) Q := by
 obtain ⟨inf, hinf, hz', hs', hb'⟩ := wU hz hs hb
 subst hs' hb'
 refine Wi (α := { p : Nat × Nat × List Value // (n + m) * inf.size + p.2.2.length = p.2.1 * inf.size }) (V := fun p => .slice (some ⟨p.1.1, 0, none⟩) (n + m) p.1.2.1)
  (L' := fun p => (p.1.1, .cells (xs ++ (Builtin.zeroCells z.cells m).toList ++ p.1.2.2).toArray e (0, 0)) :: L) (X' := fun _ => X) hg rfl rfl hi (fun a w hf hst => ?_) (fun p => h p.1.1 p.1.2.1 _ p.1.2.2 (by rw [Array.length_toList, size_zeroCells, hzs]) p.2)
 have ex := hf.eval hx
 have ey := hf.eval hy
 have hold : (Builtin.firstCells inf.size n (.slice (some ⟨r, off, none⟩) n cap)).run c.P w.drew = .ok xs.toArray w.drew :=
  run_firstCells_some (P := c.P) w.drew inf.size n ⟨r, off, none⟩ n cap xs hl (fun j u hj => XM (hst.drew.known hk) hxs j u hj)
 have hmb : m * inf.bytes ≤ 281474976710656 := Nat.le_trans (Nat.mul_le_mul_right _ (Nat.le_add_left m n)) m5
 have hr := Lib.run_append_grow_zeros (P := c.P) w t tn ty e inf z kk kn (Ky ht) htn hinf hz' (some ⟨r, off, none⟩) n cap xs hold m hm hsz hno m5 hmb (growslice_fits m5 h47)
 have hge := grownCap_ge w (n + m) cap e
 have e1 : (xs.toArray ++ Builtin.zeroCells z.cells m ++ Builtin.zeroCells z.cells (grownCap w (n + m) cap e - (n + m))) = (xs ++ (Builtin.zeroCells z.cells m).toList ++ (Builtin.zeroCells z.cells (grownCap w (n + m) cap e - (n + m))).toList).toArray := by
  apply Array.toList_inj.1; simp
 refine ⟨⟨(w.heap.size, grownCap w (n + m) cap e, (Builtin.zeroCells z.cells (grownCap w (n + m) cap e - (n + m))).toList), ?_⟩, w.drew.alloc (.cells (xs ++ (Builtin.zeroCells z.cells m).toList ++ (Builtin.zeroCells z.cells (grownCap w (n + m) cap e - (n + m))).toList).toArray e (0, 0)), ?_, hst.drew.alloc _⟩
 ·simp only
  rw [Array.length_toList, size_zeroCells, hzs, ← Nat.add_mul]
  congr 1; omega
 ·rw [e1] at hr
  simp [execOp, resolve, Sem.run_bind, ex, ey, Result.andThen, invoke, builtin, hr]
theorem Jis  {e r1 o1 o2 n1 c1 n2 : Nat} {cs1 : Array Value} {tR : TypeId}
  (hf : Kx l f = some (.func (.func g) #[] #[])) (hx : Kx l x = some (.slice (some ⟨r1, o1, none⟩) n1 c1)) (hy : Kx l y = some (.slice (some ⟨r2, o2, none⟩) n2 c2)) (hne : r1 ≠ r2) (hk1 : known c L r1 (.cells cs1 e1 (0, 0))) (hk2 : known c L r2 (.cells cs2 e2 (0, 0)))
  (ht : KH c.P t = some e) (hs : Qg c.P e = some sz) (h0 : 0 < cs2.size) (hF : c.P.funcs[g]? = some fn) (hn1 : (fn.name == "runtime.NumGoroutine") = false) (hb : fn.body.isNone = true) (hn2 : Extern.findNext fn = none) (he : Extern.find fn = some (Extern.SlicesOverlaps.overlaps #[t, t] #[tR])) :
  JM c d l L X ⟨some i, .call ⟨.value f, #[x, y], at_⟩, ty, ps, af, gd⟩ (.bool false) := fun a w hfr hst => by
 have ef := hfr.eval hf
 have ex := hfr.eval hx
 have ey := hfr.eval hy
 have h1 := hst.known hk1
 have h2 := hst.known hk2
 have hov := Lib.run_overlaps_apart (P := c.P) w t tR e (Ky ht) sz (fun w => Vy hs w) ⟨r1, o1, none⟩ ⟨r2, o2, none⟩ n1 c1 n2 c2 hne e1 e2 cs1.size cs2.size (by simp [World.shape?, h1]) (by simp [World.shape?, h2]) m5 (by simp [World.frozen?, h1]) (by simp [World.frozen?, h1])
 have hcf : (callFunc g #[.slice (some ⟨r1, o1, none⟩) n1 c1, .slice (some ⟨r2, o2, none⟩) n2 c2]).run c.P w = .ok (.value (.bool false)) w := by
  rw [run_callFunc_extern hF hn1 hb hn2 he, hov]; rfl
 simp [execOp, resolve, Sem.run_bind, ef, ex, ey, Deferred.ofValue, Result.andThen, invoke, hcf]
end
section
variable {H : Type} {enc : TypeId × Value → H} {P : Program} {w : World} {base : Nat} {sp : Nat → Bool} {held : Bool}
theorem Jap {a : Addr} {cs : List Value} (h : w.cells? base a m = some cs) : cs.length = m ∧ ∀ i, i < m → w.cell? (a.add i) = cs[i]? := by
 unfold World.cells? at h
 split at h
 ·exact ⟨by simpa using mapM_some_length h, fun i hi => mapM_some_get h i i (by simp [hi])⟩
 ·cases h
theorem Jit {a : Addr} (h : w.cell? a = some v) : a.spot = none ∧ ∃ all e fr, w.heap[a.block]? = some (.cells all e fr) ∧ all[a.off]? = some v := by
 unfold World.cell? at h
 split at h
 ·rename_i c e fr hc
  split at h
  ·cases h
  ·rename_i hs
   exact ⟨by simpa using hs, c, e, fr, hc, h⟩
 ·cases h
theorem Jiu {b o : Nat} {cs : List Value} {all : Array Value} (h : w.cells? base ⟨b, o, none⟩ m = some cs) (hb : w.heap[b]? = some (.cells all e fr)) : (all.toList.drop o).take m = cs := by
 obtain ⟨hl, hg⟩ := Jap h
 apply List.ext_getElem?
 intro i
 rw [List.getElem?_take]
 split
 ·rename_i hi
  rw [← hg i hi, XL, List.getElem?_drop, Array.getElem?_toList]
  simp only [World.cell?, hb]
  rfl
 ·rename_i hi
  rw [List.getElem?_eq_none m5]
theorem Jfk {α : Type} {f : α → List Value} {m b : Nat} {all : Array Value} {e : TypeId} {fr : Nat × Nat} (hb : w.heap[b]? = some (.cells all e fr)) :
  ∀ (l : List α) (o : Nat), (∀ i x, l[i]? = some x → w.cells? base ⟨b, o + i * m, none⟩ m = some (f x)) → (all.toList.drop o).take (l.length * m) = l.flatMap f
 | [], o, _ => by simp
 | y :: l, o, h => by
  have h0 := Jiu (h 0 y rfl) hb
  have hr := Jfk hb l (o + m) (fun i x hx => by
   have := h (i + 1) x hx
   rwa [Nat.succ_mul, Nat.add_comm (i * m) m, ← Nat.add_assoc] at this)
  rw [Nat.zero_mul, Nat.add_zero] at h0
  rw [List.length_cons, Nat.succ_mul, Nat.add_comm, List.take_add, h0, List.drop_drop, hr, List.flatMap_cons]
theorem Jcr {f : α → List Value} (hm : 0 < m) (hf : ∀ x, (f x).length = m) {l : List α} {a : Addr} (hle : l.length ≤ cap) (h : ∀ i x, l[i]? = some x → w.cells? base (a.add (i * m)) m = some (f x)) :
  Seg (Jih w) l.length (l.flatMap f) (some (a, cap)) := by
 refine ⟨hle, fun h0 => ?_⟩
 obtain ⟨y, hy⟩ : ∃ y, l[0]? = some y := ⟨_, List.getElem?_eq_getElem h0⟩
 have h1 := h 0 y hy
 rw [Nat.zero_mul] at h1
 have e0 : a.add 0 = a := by simp [Addr.add]
 rw [e0] at h1
 obtain ⟨hl, hg⟩ := Jap h1
 have h2 := hg 0 hm
 rw [e0] at h2
 obtain ⟨v, hv⟩ : ∃ v, (f y)[0]? = some v := ⟨_, List.getElem?_eq_getElem m5⟩
 rw [hv] at h2
 obtain ⟨hs, all, e, fr, hb, _⟩ := Jit h2
 refine ⟨hs, all, e, fr, Jq6 hb, ?_⟩
 rw [KO hf]
 refine Jfk (base := base) hb l a.off fun i x hx => ?_
 have := h i x hx
 have e1 : a.add (i * m) = ⟨a.block, a.off + i * m, none⟩ := by
  obtain ⟨b, o, s⟩ := a
  have : s = none := hs
  subst this
  exact XL _ _ _
 rwa [e1] at this
theorem wj {α : Type} {Q : Nat → α → Prop} : ∀ (n : Nat), (∀ i, i < n → ∃ x, Q i x) → ∃ l : List α, l.length = n ∧ ∀ i x, l[i]? = some x → Q i x
 | 0, _ => ⟨[], rfl, fun i x h => by simp at h⟩
 | n + 1, h => by
  obtain ⟨l, hl, hq⟩ := wj n (fun i hi => h i m5)
  obtain ⟨x, hx⟩ := h n m5
  refine ⟨l ++ [x], by simp [hl], fun i y hy => ?_⟩
  rw [List.getElem?_append] at hy
  split at hy
  ·exact hq i y hy
  ·rename_i hi
   have hn : i = n := by
    have := (List.getElem?_eq_some_iff.1 hy).1
    simp at this; omega
   subst hn
   rw [hl, Nat.sub_self] at hy
   obtain rfl : x = y := by simpa using hy
   exact hx
theorem ZR {f : α → List Value} {ok : α → Prop} {t e : Nat} {cs : List Value} {x : DataW H × List MemPlace} (hm : 0 < m) (hf : ∀ x, (f x).length = m) (ht : P.underlying t = some (.slice e)) (hc : P.cellsOf e = m)
  (hE : ∀ n, n < fuel → ∀ cs x, DataW.trod enc P w base sp held n e cs = some x → ∃ y, cs = f y ∧ ok y)
  (h : DataW.trod enc P w base sp held fuel t cs = some x) : ∃ (l : List α) (p : Pl), cs = [KA l.length p] ∧ Seg (Jih w) l.length (l.flatMap f) p ∧ l.length ≤ 9223372036854775807 ∧ ∀ y ∈ l, ok y := by
 rcases DataW.trod_slice ht h with ⟨rfl, _⟩ | ⟨a, len, cap, elems, rest, n, hn, rfl, _, _, hlc, hcm, hlen, hel, _⟩
 ·exact ⟨[], none, rfl, rfl, by simp, fun y hy => by simp at hy⟩
 ·have hex : ∀ i, i < len → ∃ y, w.cells? base (a.add (i * m)) m = some (f y) ∧ ok y := by
   intro i hi
   have h1 := hel i hi
   rw [hc] at h1
   obtain ⟨z, hz⟩ : ∃ z, elems[i]? = some z := ⟨_, List.getElem?_eq_getElem m5⟩
   rw [hz, Option.bind_eq_some_iff] at h1
   obtain ⟨cs1, h2, h3⟩ := h1
   obtain ⟨y, rfl, hy⟩ := hE n m5 _ _ h3
   exact ⟨y, h2, hy⟩
  obtain ⟨l, rfl, hq⟩ := wj len hex
  have hcap : cap ≤ 9223372036854775807 := by simpa [maxLen] using hcm
  refine ⟨l, some (a, cap), rfl, Jcr hm hf hlc (fun i y hy => (hq i y hy).1), by omega, fun y hy => ?_⟩
  obtain ⟨i, hi, rfl⟩ := List.mem_iff_getElem.1 hy
  exact (hq i _ (List.getElem?_eq_getElem hi)).2
theorem KG {t tf : Nat} {cs : List Value} {x : DataW H × List MemPlace} (ht : P.underlying t = some (.struct fs)) (hi : (fs[i]?).map (fun f => (f.type, f.offset)) = some (tf, off)) (hm : P.cellsOf tf = m)
  (h : DataW.trod enc P w base sp held fuel t cs = some x) : ∃ n y, n < fuel ∧ DataW.trod enc P w base sp held n tf ((cs.drop off).take m) = some y := by
 obtain ⟨xs, n, rfl, _, _, hl, hg⟩ := DataW.trod_struct ht h
 obtain ⟨f, hf, he⟩ := Option.map_eq_some_iff.1 hi
 obtain ⟨rfl, rfl⟩ := Prod.mk.inj he
 have hi2 : i < xs.length := by rw [hl]; exact (Array.getElem?_eq_some_iff.1 hf).1
 subst hm
 exact ⟨n, xs[i], by omega, by rw [hg i f hf]; exact List.getElem?_eq_getElem hi2⟩
theorem jp {t : Nat} {cs : List Value} {x : DataW H × List MemPlace} (ht : P.underlying t = some (.struct fs)) (hm : P.cellsOf t = m) (h : DataW.trod enc P w base sp held fuel t cs = some x) : cs.length = m := by
 obtain ⟨xs, n, rfl, _, hl, _, _⟩ := DataW.trod_struct ht h
 rw [hl, hm]
theorem Xo {t : Nat} {cs : List Value} {x : DataW H × List MemPlace} (ht : P.underlying t = some (.int .u64)) (h : DataW.trod enc P w base sp held fuel t cs = some x) : ∃ n : Nat, cs = [uV n] ∧ Wr n := by
 obtain ⟨n, rfl, _, hw⟩ := DataW.trod_int ht h
 have := bounds_u64 hw
 exact ⟨n.toNat, by unfold uV; congr 2; omega, by unfold Wr; omega⟩
theorem yl {t e : Nat} {cs : List Value} {x : DataW H × List MemPlace} (ht : P.underlying t = some (.array 4 e)) (hc : P.cellsOf t = 4) (he : P.cellsOf e = 1) (hu : P.underlying e = some (.int .u64)) (h : DataW.trod enc P w base sp held fuel t cs = some x) :
  ∃ a b c d : Nat, cs = [uV a, uV b, uV c, uV d] ∧ Wr a ∧ Wr b ∧ Wr c ∧ Wr d := by
 cases fuel with
 | zero => simp [DataW.trod] at h
 | succ fuel =>
  obtain ⟨hl, xs, h1, _⟩ := (Jq3 ht hc he).1 h
  obtain ⟨zs, rfl, _, hz⟩ := Jai (V := uV) (D := fun n : Nat => .lit (.int .u64 (n : Int))) (ok := Wr) (fun c x hx => by
   obtain ⟨n, h2, h3, h4⟩ := DataW.trod_int hu hx
   have h5 := bounds_u64 h4
   refine ⟨n.toNat, ?_, ?_, by unfold Wr; omega⟩
   ·rw [List.singleton_inj.1 h2]; unfold uV; congr 1; omega
   ·rw [h3]; congr 3; omega) _ _ h1
  rw [List.length_map] at hl
  match zs, hl, hz with
  | [a, b, c, d], _, hz => exact ⟨a, b, c, d, rfl, hz a ml, hz b ml, hz c ml, hz d ml⟩
theorem Jfl {t : Nat} {r : Reach} {b0 : Nat} (ht : P.underlying t = some (.struct fs)) (h : Value.okWide P w r b0 t v) {cs : List Value} (hc : v.cells.toList = cs) : v = .agg cs.toArray := by
 obtain ⟨c1, rfl, _⟩ := okWide_struct ht h
 subst hc
 simp [Value.cells]
end
abbrev J5 (s : BS) : Value := .string (bs s)
structure W4.ok (w : W4) : Prop where
  a : Wr w.a
  b : Wr w.b
  c : Wr w.c
  d : Wr w.d
theorem W4.ok.wok {w : W4} (h : w.ok) : WOk w.l := ⟨rfl, fun x hx => by
 unfold W4.l at hx
 simp only [List.mem_cons, List.not_mem_nil, or_false] at hx
 rcases hx with rfl | rfl | rfl | rfl
 ·exact h.a
 ·exact h.b
 ·exact h.c
 ·exact h.d⟩
theorem Vb : Wr 0 := by unfold Wr; decide
theorem w40_ok : w40.ok := ⟨Vb, Vb, Vb, Vb⟩
structure Rec : Type where
  number : Nat
  time : Nat
  base : W4
  blob : W4
  overhead : W4
  scalar : Nat
  extra : Nat
  operator : Nat
deriving DecidableEq
def rec0 : Rec := ⟨0, 0, w40, w40, w40, 0, 0, 0⟩
def Rec.nats (r : Rec) : List Nat := [r.number, r.time, r.base.a, r.base.b, r.base.c, r.base.d, r.blob.a, r.blob.b, r.blob.c, r.blob.d, r.overhead.a, r.overhead.b, r.overhead.c, r.overhead.d, r.scalar, r.extra, r.operator]
def Rec.cells (r : Rec) : List Value := r.nats.map uV
def Rec.val (r : Rec) : Value := .agg r.cells.toArray
theorem Rec.len (r : Rec) : r.cells.length = 17 := rfl
theorem Rec.one (r : Rec) : r.cells.all QE = true := rfl
structure Rec.ok (r : Rec) : Prop where
  number : Wr r.number
  time : Wr r.time
  base : r.base.ok
  blob : r.blob.ok
  overhead : r.overhead.ok
  scalar : Wr r.scalar
  extra : Wr r.extra
  operator : Wr r.operator
theorem Jxe : rec0.ok := ⟨Vb, Vb, w40_ok, w40_ok, w40_ok, Vb, Vb, Vb⟩
def Q7 (x : BS × BS) : List Value := [J5 x.1, J5 x.2]
theorem Ki (x : BS × BS) : (Q7 x).length = 2 := rfl
theorem q8 (x : BS × BS) : (Q7 x).all QE = true := rfl
def J5j (x : BS × BS) : Value := .agg (Q7 x).toArray
def Jrf (l : List (BS × BS)) : List Value := l.flatMap Q7
abbrev ZS : Nat := 9223372036854775807
structure AcL : Type where
  addr : BS
  nonce : Nat
  bal : W4
  code : BS
  slots : List (BS × BS)
  p : Pl
def AcL.cells (a : AcL) : List Value := [J5 a.addr, uV a.nonce, uV a.bal.a, uV a.bal.b, uV a.bal.c, uV a.bal.d, J5 a.code, KA a.slots.length a.p]
def AcL.val (a : AcL) : Value := .agg a.cells.toArray
def AcL.er (a : AcL) : AcE := ⟨a.addr, a.nonce, a.bal, a.code, a.slots⟩
theorem AcL.len (a : AcL) : a.cells.length = 8 := rfl
theorem AcL.one (a : AcL) : a.cells.all QE = true := rfl
structure AcL.In (R : Jx) (a : AcL) : Prop where
  addr : a.addr.length ≤ ZS
  nonce : Wr a.nonce
  bal : a.bal.ok
  code : a.code.length ≤ ZS
  len : a.slots.length ≤ ZS
  seg : Seg R a.slots.length (Jrf a.slots) a.p
  slots : ∀ x ∈ a.slots, x.1.length ≤ ZS ∧ x.2.length ≤ ZS
theorem AcL.In.mono {a : AcL} (h : a.In R) (hs : ∀ q ∈ R, q ∈ R') : a.In R' := ⟨h.addr, h.nonce, h.bal, h.code, h.len, h.seg.mono hs, h.slots⟩
def ac0L : AcL := ⟨[], 0, w40, [], [], none⟩
theorem J1m : ac0L.In R := ⟨Nat.zero_le _, Vb, w40_ok, Nat.zero_le _, Nat.zero_le _, rfl, by simp [ac0L]⟩
def KV (l : List AcL) : List Value := l.flatMap AcL.cells
structure StL : Type where
  accts : List AcL
  p : Pl
def StL.cells (s : StL) : List Value := [KA s.accts.length s.p]
def StL.val (s : StL) : Value := .agg s.cells.toArray
def StL.er (s : StL) : List AcE := s.accts.map AcL.er
theorem StL.er_len (s : StL) : s.er.length = s.accts.length := by simp [StL.er]
structure StL.In (R : Jx) (s : StL) : Prop where
  len : s.accts.length ≤ ZS
  seg : Seg R s.accts.length (KV s.accts) s.p
  accts : ∀ a ∈ s.accts, a.In R
theorem StL.In.mono {s : StL} (h : s.In R) (hs : ∀ q ∈ R, q ∈ R') : s.In R' := ⟨h.len, h.seg.mono hs, fun a ha => (h.accts a ha).mono hs⟩
def st0L : StL := ⟨[], none⟩
theorem vD : st0L.In R := ⟨Nat.zero_le _, rfl, by simp [st0L]⟩
theorem Jfm {f : α → List Value} (hf : ∀ x, (f x).length = m) {l : List α} {k : Nat} {x : α} (h : l[j]? = some x) (hk : (f x)[k]? = some v) : (l.flatMap f)[j * m + k]? = some v := by
 have h1 := Xf hf h
 have hlt : k < m := by have := (List.getElem?_eq_some_iff.1 hk).1; rwa [hf] at this
 rw [← h1, List.getElem?_take, if_pos hlt, List.getElem?_drop] at hk
 exact hk
section
variable {c : Cx} {l : KQ} {L : Jx} {X : XP} {d : List Deferred} {i : Nat} {t : TypeId} {ps : String} {af : Array Edge} {gd : Option (Nat × Bool)} {ty : TypeId}
theorem Kl {f : α → List Value} (hf : ∀ x, (f x).length = m) {p : Pl} {y : α} (hR : ∀ q ∈ R, known c L q.1 q.2) (hx : Kx l x = some (.pointer (some ⟨plB p, Xe p + j * m, none⟩))) (hs : Seg R xs.length (xs.flatMap f) p) (hy : xs[j]? = some y) (ht : Wy c.P t = some true) (hm : Qg c.P t = some m) :
  JM c d l L X ⟨some i, .load t x, ty, ps, af, gd⟩ (.agg (f y).toArray) :=
 vu hR hx hs (qu hy) ht hm (Xf hf hy) (hf y)
theorem Qc {f : α → List Value} {k : Nat} (hf : ∀ x, (f x).length = m) {p : Pl} {y : α} (hR : ∀ q ∈ R, known c L q.1 q.2) (hx : Kx l x = some (.pointer (some ⟨plB p, Xe p + (j * m + k), none⟩))) (hs : Seg R xs.length (xs.flatMap f) p) (hy : xs[j]? = some y) (hv : (f y)[k]? = some v) (ht : Wy c.P t = some false) :
  JM c d l L X ⟨some i, .load t x, ty, ps, af, gd⟩ v :=
 qt hR hx hs (qu hy) ht (Jfm hf hy hv)
end
section
variable {H : Type} {enc : TypeId × Value → H} {P : Program} {w : World} {base : Nat} {sp : Nat → Bool} {held : Bool}
theorem q9 {t : Nat} {cs : List Value} {x : DataW H × List MemPlace} (ht : P.underlying t = some .string) (h : DataW.trod enc P w base sp held fuel t cs = some x) : ∃ s : BS, cs = [J5 s] ∧ s.length ≤ ZS := by
 obtain ⟨s, rfl, _, hl⟩ := DataW.trod_string ht h
 exact ⟨s.data.toList, by unfold J5; rw [Jwx], by rw [Array.length_toList]; exact hl⟩
theorem Jxf {tT tS : Nat} (ht : P.underlying tT = some (.struct fs)) (hT : P.cellsOf tT = 2) (h0 : (fs[0]?).map (fun f => (f.type, f.offset)) = some (tS, 0)) (h1 : (fs[1]?).map (fun f => (f.type, f.offset)) = some (tS, 1)) (hS : P.underlying tS = some .string) (hSc : P.cellsOf tS = 1)
  {cs : List Value} {x : DataW H × List MemPlace} (h : DataW.trod enc P w base sp held fuel tT cs = some x) : ∃ y : BS × BS, cs = Q7 y ∧ (y.1.length ≤ ZS ∧ y.2.length ≤ ZS) := by
 have hl := jp ht hT h
 match cs, hl with
 | [a, b], _ =>
  obtain ⟨n0, y0, _, e0⟩ := KG ht h0 hSc h
  obtain ⟨n1, y1, _, e1⟩ := KG ht h1 hSc h
  obtain ⟨k, ek, hk⟩ := q9 hS e0
  obtain ⟨v, ev, hv⟩ := q9 hS e1
  obtain rfl : a = J5 k := by simpa using ek
  obtain rfl : b = J5 v := by simpa using ev
  exact ⟨(k, v), rfl, hk, hv⟩
theorem Jxg {tA tT tS tL tW tu tI : Nat} {fa : Array Field} (ht : P.underlying tT = some (.struct fs)) (hT : P.cellsOf tT = 2) (h0 : (fs[0]?).map (fun f => (f.type, f.offset)) = some (tS, 0)) (h1 : (fs[1]?).map (fun f => (f.type, f.offset)) = some (tS, 1)) (hS : P.underlying tS = some .string) (hSc : P.cellsOf tS = 1)
  (ha : P.underlying tA = some (.struct fa)) (hA : P.cellsOf tA = 8) (a0 : (fa[0]?).map (fun f => (f.type, f.offset)) = some (tS, 0)) (a1 : (fa[1]?).map (fun f => (f.type, f.offset)) = some (tI, 1)) (a2 : (fa[2]?).map (fun f => (f.type, f.offset)) = some (tW, 2)) (a3 : (fa[3]?).map (fun f => (f.type, f.offset)) = some (tS, 6)) (a4 : (fa[4]?).map (fun f => (f.type, f.offset)) = some (tL, 7))
  (hI : P.underlying tI = some (.int .u64)) (hIc : P.cellsOf tI = 1) (hW : P.underlying tW = some (.array 4 tu)) (hWc : P.cellsOf tW = 4) (hu : P.underlying tu = some (.int .u64)) (huc : P.cellsOf tu = 1) (hL : P.underlying tL = some (.slice tT)) (hLc : P.cellsOf tL = 1)
  {cs : List Value} {x : DataW H × List MemPlace} (h : DataW.trod enc P w base sp held fuel tA cs = some x) : ∃ a : AcL, cs = a.cells ∧ a.In (Jih w) := by
 have hl := jp ha hA h
 match cs, hl with
 | [c0, c1, c2, c3, c4, c5, c6, c7], _ =>
  obtain ⟨n0, y0, _, e0⟩ := KG ha a0 hSc h
  obtain ⟨n1, y1, _, e1⟩ := KG ha a1 hIc h
  obtain ⟨n2, y2, _, e2⟩ := KG ha a2 hWc h
  obtain ⟨n3, y3, _, e3⟩ := KG ha a3 hSc h
  obtain ⟨n4, y4, _, e4⟩ := KG ha a4 hLc h
  obtain ⟨s, es, hs⟩ := q9 hS e0
  obtain ⟨n, en, hn⟩ := Xo hI e1
  obtain ⟨w0, w1, w2, w3, ew, k0, k1, k2, k3⟩ := yl hW hWc huc hu e2
  obtain ⟨cd, ec, hc⟩ := q9 hS e3
  obtain ⟨l, p, ep, hsg, hlen, hok⟩ := ZR (f := Q7) (ok := fun y => y.1.length ≤ ZS ∧ y.2.length ≤ ZS) m7 Ki hL hT (fun m hm cs x hx => Jxf ht hT h0 h1 hS hSc hx) e4
  obtain rfl : c0 = J5 s := by simpa using es
  obtain rfl : c1 = uV n := by simpa using en
  obtain ⟨rfl, rfl, rfl, rfl⟩ : c2 = uV w0 ∧ c3 = uV w1 ∧ c4 = uV w2 ∧ c5 = uV w3 := by simpa using ew
  obtain rfl : c6 = J5 cd := by simpa using ec
  obtain rfl : c7 = KA l.length p := by simpa using ep
  exact ⟨⟨s, n, ⟨w0, w1, w2, w3⟩, cd, l, p⟩, rfl, ⟨hs, hn, ⟨k0, k1, k2, k3⟩, hc, hlen, hsg, hok⟩⟩
end
theorem J1n {l : List Nat} (hl : WOk l) : Jw5 (Yw l 32) = l := by
 have : Jw5 (Yw l 32) = stW (dg l) 32 := Jn2 fun i hi => by
  have h := wY l (n := 32) (m := 31 - i) m5
  have e : 32 - 1 - (31 - i) = i := by omega
  rw [e] at h
  rw [List.getD_eq_getElem?_getD, h, Option.getD_some, UInt8.toNat_ofNat', Nat.mod_eq_of_lt (Jks l i)]
 rw [this, J3m hl]
def bW (w : W4) : BS := Yw w.l 32
def uW (s : BS) : W4 := W4.of (Jqy s).1
theorem Jrg (s : BS) : WOk (Jqy s).1 := by
 unfold Jqy; split
 ·exact Jw6 _
 ·exact J3n
theorem J5k (s : BS) : (uW s).l = (Jqy s).1 := W4.of_l (Jrg s).1
theorem J1o {w : W4} (h : w.ok) : uW (bW w) = w := by
 apply W4.l_inj
 rw [J5k]
 unfold Jqy bW
 rw [if_pos (Q2 _ _)]
 exact J1n h.wok
theorem J1p {x y : W4} (hx : x.ok) (hy : y.ok) (h : bW x = bW y) : x = y := by rw [← J1o hx, h, J1o hy]
theorem J1q : Qx = bW w40 := by decide +kernel
def wN1 (n : Nat) : W4 := ⟨n, 0, 0, 0⟩
theorem Jcs {n : Nat} (h : Wr n) : (wN1 n).ok := ⟨h, Vb, Vb, Vb⟩
def WX (n : Nat) : BS := bW (wN1 n)
theorem Jrh {n : Nat} (hn : Wr n) (hm : Wr m) (h : WX n = WX m) : n = m := by
 have := J1p (Jcs hn) (Jcs hm) h
 simpa [wN1] using this
def W0 : Nat → Nat
 | 0 => 0
 | 1 => 1
 | 2 => 5
 | 3 => 6
 | 4 => 3
 | 5 => 7
 | _ => 8
def ZF (f : Int) : Nat → Bool
 | 0 => true
 | 1 => true
 | 2 => decide (f ≤ 2)
 | 3 => decide (f ≤ 2)
 | 4 => decide (f ≥ 3)
 | 5 => decide (f ≥ 3)
 | _ => decide (f = 5)
def XW (r : Rec) : Nat → W4
 | 0 => ⟨r.number, r.time, 0, 0⟩
 | 1 => r.base
 | 2 => r.overhead
 | 3 => ⟨r.scalar, 0, 0, 0⟩
 | 4 => ⟨r.scalar, r.extra, 0, 0⟩
 | 5 => r.blob
 | _ => ⟨r.operator, 0, 0, 0⟩
def zm (r : Rec) (w : W4) : Nat → Rec
 | 0 => { r with number := w.a, time := w.b }
 | 1 => { r with base := w }
 | 2 => { r with overhead := w }
 | 3 => { r with scalar := w.a }
 | 4 => { r with scalar := w.a, extra := w.b }
 | 5 => { r with blob := w }
 | _ => { r with operator := w.a }
theorem Jfn {r : Rec} (h : r.ok) (i : Nat) : (XW r i).ok := by
 unfold XW
 split
 ·exact ⟨h.number, h.time, Vb, Vb⟩
 ·exact h.base
 ·exact h.overhead
 ·exact ⟨h.scalar, Vb, Vb, Vb⟩
 ·exact ⟨h.scalar, h.extra, Vb, Vb⟩
 ·exact h.blob
 ·exact ⟨h.operator, Vb, Vb, Vb⟩
def Y9 (f : Int) (g : Nat → W4) : List Nat → Rec → Rec
 | [], out => out
 | i :: l, out => Y9 f g l (if ZF f i then zm out (g i) i else out)
def tab : List Nat := [0, 1, 2, 3, 4, 5, 6]
def wk (f : Int) (r : Rec) : Rec := Y9 f (XW r) tab rec0
def Jk2 (f : Int) (a : AcE) : Rec := Y9 f (fun i => uW (Vo a (WX (W0 i)))) tab rec0
def Q0 (f : Int) : Prop := 0 ≤ f ∧ f ≤ 5
instance (f : Int) : Decidable (Q0 f) := inferInstanceAs (Decidable (_ ∧ _))
theorem Zg {f : Int} (h : Q0 f) : f = 0 ∨ f = 1 ∨ f = 2 ∨ f = 3 ∨ f = 4 ∨ f = 5 := by unfold Q0 at h; omega
def qA (f : Int) (r : Rec) : Bool := !((decide (f ≥ 3) && decide (r.overhead ≠ w40)) || (decide (f < 3) && (decide (r.extra ≠ 0) || decide (r.blob ≠ w40))) || (decide (f < 5) && decide (r.operator ≠ 0)))
def Wd (f : Int) (r : Rec) : Int := if ¬ Q0 f then 10 else if qA f r then 0 else 2
theorem zn {f : Int} {r : Rec} (h : Q0 f) : wk f r = r ↔ qA f r = true := by
 obtain ⟨n, t, b, l, o, s, e, p⟩ := r
 rcases Zg h with rfl | rfl | rfl | rfl | rfl | rfl <;>
  (simp [wk, Y9, tab, ZF, zm, XW, qA, rec0]; try (constructor <;> (intro h; simp_all <;> omega)))
def QL (which : Int) : BS := if which < 0 ∨ which > 1 then [] else 66 :: (List.replicate 18 0 ++ [UInt8.ofNat (1 + which).toNat])
def cOne : BS := [111, 110, 101]
def J3p : BS := [116, 119, 111]
def Jri : BS := [116, 104, 114, 101, 101]
def J0m : BS := [102, 105, 118, 101]
def J3q : BS := [102, 101, 101]
def Qf (f which : Int) : BS × Bool := if which = 1 then (if f ≥ 2 then (J3q, true) else ([], false)) else if f = 0 then (cOne, true) else if f ≤ 2 then (J3p, true) else if f ≤ 4 then (Jri, true) else (J0m, true)
def A0 : BS := QL 0
def A1 : BS := QL 1
theorem A01 : A0 ≠ A1 := by decide +kernel
theorem J3r (f : Int) : (Qf f 0).2 = true := by unfold Qf; rw [if_neg m7]; (repeat' split) <;> rfl
theorem Jfo (f which : Int) : (Qf f which).1.length ≤ 512 := by unfold Qf; (repeat' split) <;> decide
theorem wl {l : List (BS × BS)} {k v : BS} (h : KN Prod.fst l) : KN Prod.fst (KK l k v) := by
 unfold KK; split
 ·exact Jiq h
 ·exact jN h
theorem Joa {l : List (BS × BS)} {k v j : BS} (h : KN Prod.fst l) : Wc Prod.fst j (KK l k v) = if k = j then (if v = Qx then none else some (k, v)) else Wc Prod.fst j l := by
 unfold KK
 by_cases hv : v = Qx
 ·rw [if_pos hv, if_pos hv, Jfh]
 ·rw [if_neg hv, if_neg hv, zj h]
theorem zo {l : List (BS × BS)} {k v : BS} {x : BS × BS} (h : x ∈ KK l k v) : (x = (k, v) ∧ v ≠ Qx) ∨ x ∈ l := by
 unfold KK at h
 split at h
 ·exact .inr (Jxc h)
 ·rename_i hv; exact (q7 h).imp (fun h => ⟨h, hv⟩) id
theorem Jrj {a : AcE} {k v : BS} (h : (VP a k v).2 = 0) : Wz a = 0 ∧ k.length = 32 ∧ v.length = 32 ∧ (KK a.slots k v).length ≤ 16 ∧ VP a k v = ({ a with slots := KK a.slots k v }, 0) := by
 unfold VP at h ⊢
 split at h
 ·rename_i h1; exact absurd h h1
 rename_i h1
 split at h
 ·cases h
 rename_i h2
 split at h
 ·cases h
 rename_i h3
 rw [if_neg h1, if_neg h2, if_neg h3]
 exact ⟨Decidable.not_not.1 h1, by omega, by omega, by omega, rfl⟩
theorem J1r {a : AcE} {k v : BS} (h1 : Wz a = 0) (h2 : k.length = 32) (h3 : v.length = 32) (h4 : (KK a.slots k v).length ≤ 16) : VP a k v = ({ a with slots := KK a.slots k v }, 0) := by
 unfold VP
 rw [if_neg m5, if_neg m5, if_neg m5]
theorem Jk3 {a : AcE} {k v : BS} (h1 : Wz a = 0) (h2 : k.length = 32) (h3 : v.length = 32) (h4 : (KK a.slots k v).length ≤ 16) : Wz { a with slots := KK a.slots k v } = 0 := by
 obtain ⟨g1, g2, g3, g4, g5⟩ := Ve h1
 refine Jcq g1 (fun x hx => ?_) (wl g3) g4 h4
 rcases zo hx with ⟨rfl, hv⟩ | hx
 ·exact ⟨h2, h3, hv⟩
 ·exact g2 x hx
theorem vE {a : AcE} {k v j : BS} (h : KN Prod.fst a.slots) : Vo { a with slots := KK a.slots k v } j = if k = j then v else Vo a j := by
 unfold Vo
 simp only
 rw [Joa h]
 by_cases hk : k = j
 ·rw [if_pos hk, if_pos hk]
  by_cases hv : v = Qx
  ·rw [if_pos hv]; exact hv.symm
  ·rw [if_neg hv]
 ·rw [if_neg hk, if_neg hk]
def Q3 : AcE → List (BS × BS) → AcE × Int
 | a, [] => (a, 0)
 | a, x :: l => if (VP a x.1 x.2).2 ≠ 0 then VP a x.1 x.2 else Q3 (VP a x.1 x.2).1 l
structure RowsOk (a b : AcE) (l : List (BS × BS)) : Prop where
  lk : Wz b = 0
  addr : b.addr = a.addr
  nonce : b.nonce = a.nonce
  bal : b.bal = a.bal
  code : b.code = a.code
  at_ : ∀ x ∈ l, Vo b x.1 = x.2
  off : ∀ k, (∀ x ∈ l, x.1 ≠ k) → Vo b k = Vo a k
theorem Jk4 : ∀ {l : List (BS × BS)} {a : AcE}, (Q3 a l).2 = 0 → Wz a = 0 → (l.Pairwise fun x y => x.1 ≠ y.1) → RowsOk a (Q3 a l).1 l
 | [], a, _, h, _ => ⟨h, rfl, rfl, rfl, rfl, by simp, fun _ _ => rfl⟩
 | x :: l, a, h, hl, hd => by
  unfold Q3 at h ⊢
  split at h
  ·rename_i h1; exact absurd h h1
  rename_i h1
  rw [if_neg h1]
  obtain ⟨g1, g2, g3, g4, g5⟩ := Jrj (Decidable.not_not.1 h1)
  rw [g5] at h ⊢
  obtain ⟨d1, d2⟩ := List.pairwise_cons.1 hd
  have hs := (Ve hl).2.2.1
  obtain ⟨i1, i2, i3, i4, i5, i6, i7⟩ := Jk4 h (Jk3 g1 g2 g3 g4) d2
  refine ⟨i1, i2, i3, i4, i5, fun y hy => ?_, fun k hk => ?_⟩
  ·rcases List.mem_cons.1 hy with rfl | hy
   ·rw [i7 _ fun z hz => (d1 z hz).symm, vE hs, if_pos rfl]
   ·exact i6 y hy
  ·rw [i7 _ fun z hz => hk z (List.mem_cons_of_mem _ hz), vE hs, if_neg (hk x List.mem_cons_self)]
theorem Jrk {a : AcE} (h : Wz a = 0) {x : BS × BS} (hx : x ∈ a.slots) : Vo a x.1 = x.2 ∧ x.2 ≠ Qx := by
 obtain ⟨_, g2, g3, _⟩ := Ve h
 unfold Vo
 rw [vz g3 hx]
 exact ⟨rfl, (g2 x hx).2.2⟩
theorem Jrl {a : AcE} {k : BS} (h : Vo a k ≠ Qx) : (k, Vo a k) ∈ a.slots := by
 unfold Vo at h ⊢
 cases hl : Wc Prod.fst k a.slots with
 | none => rw [hl] at h; exact absurd O h
 | some x =>
  obtain ⟨h1, h2⟩ := vy hl
  simp only
  rw [← h1]; exact h2
theorem Jct {α : Type} {kf : α → BS} : ∀ {m l : List α}, KN kf m → KN kf l → (∀ y ∈ l, y ∈ m) → l.length ≤ m.length
 | [], [], _, _, _ => Nat.le_refl _
 | [], y :: l, _, _, h => absurd (h y List.mem_cons_self) ml
 | z :: m, [], _, _, _ => Nat.zero_le _
 | z :: m, y :: l, hm, hl, h => by
  obtain ⟨m1, m2⟩ := List.pairwise_cons.1 hm
  obtain ⟨l1, l2⟩ := List.pairwise_cons.1 hl
  rcases List.mem_cons.1 (h y List.mem_cons_self) with e | hy
  ·rw [e] at l1
   have := Jct (m := m) (l := l) m2 l2 fun x hx => by
    rcases List.mem_cons.1 (h x (List.mem_cons_of_mem _ hx)) with rfl | hx2
    ·have := l1 _ hx; rw [VO] at this; cases this
    ·exact hx2
   simp only [List.length_cons]; omega
  ·have := Jct (m := m) (l := y :: l) m2 hl fun x hx => by
    rcases List.mem_cons.1 (h x hx) with rfl | hx2
    ·have a1 := m1 y hy
     rcases List.mem_cons.1 hx with rfl | hx3
     ·rw [VO] at a1; cases a1
     ·have := QW a1 (l1 _ hx3); rw [VO] at this; cases this
    ·exact hx2
   simp only [List.length_cons] at this ⊢; omega
theorem fill {a : AcE} (ha : Wz a = 0) : ∀ (l : List (BS × BS)) (x : AcE), Wz x = 0 → (∀ k, Vo x k = Vo a k ∨ Vo x k = Qx) → (∀ p ∈ l, p.1.length = 32 ∧ p.2.length = 32 ∧ (p.2 = Vo a p.1 ∨ p.2 = Qx)) → (Q3 x l).2 = 0
 | [], _, _, _, _ => rfl
 | p :: l, x, hx, hs, hp => by
  obtain ⟨p1, p2, p3⟩ := hp p List.mem_cons_self
  have hsx := (Ve hx).2.2.1
  have hlen : (KK x.slots p.1 p.2).length ≤ 16 := by
   refine Nat.le_trans (Jct (kf := Prod.fst) (Ve ha).2.2.1 (wl hsx) fun y hy => ?_) (Ve ha).2.2.2.2
   have hne : y.2 ≠ Qx ∧ y.2 = Vo a y.1 := by
    rcases zo hy with ⟨rfl, hv⟩ | hy
    ·exact ⟨hv, p3.resolve_right hv⟩
    ·obtain ⟨e1, e2⟩ := Jrk hx hy
     refine ⟨e2, ?_⟩
     rcases hs y.1 with h | h
     ·rw [← e1, h]
     ·rw [← e1] at e2; exact absurd h e2
   have h3 := Jrl (a := a) (k := y.1) (by rw [← hne.2]; exact hne.1)
   rw [← hne.2] at h3
   exact h3
  unfold Q3
  rw [J1r hx p1 p2 hlen, if_neg ml]
  refine fill ha l _ (Jk3 hx p1 p2 hlen) (fun k => ?_) fun q hq => hp q (List.mem_cons_of_mem _ hq)
  rw [vE hsx]
  split
  ·rename_i e; subst e; exact p3
  ·exact hs k
theorem qB (hs : KP s = 0) {k : BS} {a : AcE} (h : Qn s k = some a) : a.addr = k ∧ Wz a = 0 := by
 obtain ⟨h1, h2⟩ := vy h
 exact ⟨h1, (XV.1 hs).2.1 a h2⟩
theorem Jrm {a : AcE} (h : (ZQ s a).2 = 0) : KP s = 0 ∧ Wz a = 0 ∧ ZQ s a = (Qo AcE.addr a s, 0) ∧ KP (Qo AcE.addr a s) = 0 ∧ ∀ k, Qn (Qo AcE.addr a s) k = if a.addr = k then some a else Qn s k := by
 unfold ZQ at h ⊢
 split at h
 ·rename_i h1; exact absurd h h1
 rename_i h1
 split at h
 ·rename_i h2; exact absurd h h2
 rename_i h2
 split at h
 ·cases h
 rename_i h3
 rw [if_neg h1, if_neg h2, if_neg h3]
 have h1 := Decidable.not_not.1 h1
 have h2 := Decidable.not_not.1 h2
 obtain ⟨c1, c2, c3⟩ := XV.1 h1
 refine ⟨h1, h2, rfl, XV.2 ⟨by omega, fun x hx => ?_, jN c3⟩, fun k => zj c3⟩
 rcases q7 hx with rfl | hx
 ·exact h2
 ·exact c2 x hx
def Yi (f : Int) (r : Rec) (i : Nat) : BS × BS := (WX (W0 i), if ZF f i then bW (XW r i) else Qx)
def wm (f : Int) (r : Rec) : List (BS × BS) := tab.map (Yi f r)
def Jcu (k : BS) : Prop := ∃ i ∈ tab, WX (W0 i) = k
def V0 (f which : Int) (a : AcE) (r : Rec) : AcE × Int := if which = 1 then ({ a with code := (Qf f 1).1 }, 0) else Q3 { a with code := (Qf f which).1 } (wm f r)
def Vi (t : List AcE) (which : Int) : AcE := { (Qn t (QL which)).getD ac0 with addr := QL which }
def VK (f : Int) (s0 : List AcE) (go : Int → AcE → AcE × Int) : List Int → List AcE → List AcE × Int
  | [], t => (t, 0)
  | w :: ws, t => if (Qf f w).2 = false then VK f s0 go ws t else
      if (go w (Vi t w)).2 ≠ 0 then (s0, (go w (Vi t w)).2) else if (ZQ t (go w (Vi t w)).1).2 ≠ 0 then (s0, (ZQ t (go w (Vi t w)).1).2) else VK f s0 go ws (ZQ t (go w (Vi t w)).1).1
def Zh (f : Int) (s : List AcE) (go : Int → AcE → AcE × Int) : List AcE × Int := VK f s go [0, 1] s
def QP (f : Int) (s : List AcE) (r : Rec) : List AcE × Int := if Wd f r ≠ 0 then (s, Wd f r) else if KP s ≠ 0 then (s, KP s) else Zh f s fun w a => V0 f w a r
theorem zp (i : Nat) : Wr (W0 i) := by unfold Wr W0; (repeat' split) <;> omega
theorem Jxh (f : Int) (r : Rec) : (wm f r).Pairwise fun x y => x.1 ≠ y.1 := by
 unfold wm
 rw [List.pairwise_map]
 have : tab.Pairwise (fun i j => W0 i ≠ W0 j) := by decide
 refine this.imp fun h e => h (Jrh (zp _) (zp _) e)
theorem Job {f : Int} {r : Rec} {k : BS} (h : ¬ Jcu k) : ∀ x ∈ wm f r, x.1 ≠ k := fun x hx e => by
 obtain ⟨i, hi, rfl⟩ := List.mem_map.1 hx
 exact h ⟨i, hi, e⟩
theorem J1s (hs : KP s = 0) {w : Int} (hw : (QL w).length = 20) {c : BS} (hc : c.length ≤ 512) : Wz { Vi s w with code := c } = 0 := by
 unfold Vi
 cases h : Qn s (QL w) with
 | none => exact Jcq hw (by simp [ac0]) (by simp [ac0]) hc (by simp [ac0])
 | some a =>
  obtain ⟨g1, g2, g3, g4, g5⟩ := Ve (qB hs h).2
  exact Jcq hw g2 g3 hc g5
theorem Jrn (hs : KP s = 0) {w : Int} {a : AcE} (h : Qn s (QL w) = some a) : Vi s w = a := by
 unfold Vi
 rw [h]
 obtain ⟨h1, _⟩ := qB hs h
 cases a
 simp only at h1
 simp [h1]
theorem Joc {t : List AcE} (h : Qn s A1 = Qn t A1) : Vi s 1 = Vi t 1 := by unfold Vi; rw [show QL 1 = A1 from rfl, h]
theorem Jod {f : Int} {t : List AcE} {go : Int → AcE → AcE × Int} (h : Zh f s go = (t, 0)) (hs : KP s = 0) (h0 : (Qf f 0).2 = true) (ha : ∀ w a, (go w a).2 = 0 → (go w a).1.addr = a.addr) :
  ∃ b0, go 0 (Vi s 0) = (b0, 0) ∧ KP t = 0 ∧ Qn t A0 = some b0 ∧ (∀ k, k ≠ A0 → k ≠ A1 → Qn t k = Qn s k) ∧
   (if (Qf f 1).2 = true then ∃ b1, go 1 (Vi s 1) = (b1, 0) ∧ Qn t A1 = some b1 else Qn t A1 = Qn s A1) := by
 unfold Zh VK at h
 rw [if_neg (by rw [h0]; simp)] at h
 split at h
 ·rename_i h1; exact absurd (Prod.mk.inj h).2 h1
 rename_i h1
 split at h
 ·rename_i h2; exact absurd (Prod.mk.inj h).2 h2
 rename_i h2
 have h1 := Decidable.not_not.1 h1
 obtain ⟨p1, p2, p3, p4, p5⟩ := Jrm (Decidable.not_not.1 h2)
 rw [p3] at h
 have e0 := ha 0 (Vi s 0) h1
 have e0' : (go 0 (Vi s 0)).1.addr = A0 := e0
 rw [e0'] at p5
 have hold1 : Vi (Qo AcE.addr (go 0 (Vi s 0)).1 s) 1 = Vi s 1 := by
  exact Joc (by rw [p5, if_neg A01])
 refine ⟨(go 0 (Vi s 0)).1, Prod.ext O h1, ?_⟩
 unfold VK at h
 split at h
 ·rename_i h3
  unfold VK at h
  obtain ⟨rfl, _⟩ := Prod.mk.inj h
  refine ⟨p4, by rw [p5, if_pos rfl], fun k k0 k1 => by rw [p5, if_neg (Ne.symm k0)], ?_⟩
  rw [if_neg (by rw [h3]; simp), p5, if_neg A01]
 ·rename_i h3
  rw [hold1] at h
  split at h
  ·rename_i h4; exact absurd (Prod.mk.inj h).2 h4
  rename_i h4
  split at h
  ·rename_i h5; exact absurd (Prod.mk.inj h).2 h5
  rename_i h5
  have h4 := Decidable.not_not.1 h4
  obtain ⟨q1, q2, q3, q4, q5⟩ := Jrm (Decidable.not_not.1 h5)
  rw [q3] at h
  unfold VK at h
  obtain ⟨rfl, _⟩ := Prod.mk.inj h
  have e1' : (go 1 (Vi s 1)).1.addr = A1 := ha 1 (Vi s 1) h4
  rw [e1'] at q5
  refine ⟨q4, by rw [q5, if_neg (Ne.symm A01), p5, if_pos rfl], fun k k0 k1 => by rw [q5, if_neg (Ne.symm k1), p5, if_neg (Ne.symm k0)], ?_⟩
  rw [if_pos (by simpa using h3)]
  exact ⟨_, Prod.ext O h4, by rw [q5, if_pos rfl]⟩
theorem Jaq : ∀ (l : List (BS × BS)) (a : AcE), (Q3 a l).1.addr = a.addr
 | [], _ => rfl
 | x :: l, a => by
  unfold Q3
  have e : (VP a x.1 x.2).1.addr = a.addr := by unfold VP; (repeat' split) <;> rfl
  split
  ·exact e
  ·rw [Jaq l, e]
theorem Jiv {f : Int} {r : Rec} (w : Int) (a : AcE) : (V0 f w a r).1.addr = a.addr := by
 unfold V0; split
 ·rfl
 ·rw [Jaq]
theorem Jk5 {f : Int} {r : Rec} (h : Wd f r = 0) : Q0 f ∧ qA f r = true := by
 unfold Wd at h
 split at h
 ·cases h
 ·rename_i h1
  split at h
  ·rename_i h2; exact ⟨Decidable.not_not.1 h1, h2⟩
  ·cases h
structure Wrote (f : Int) (s t : List AcE) (r : Rec) : Prop where
  forked : Q0 f
  fits : qA f r = true
  old : KP s = 0
  new : KP t = 0
  acct : ∃ b0, Qn t A0 = some b0 ∧ Wz b0 = 0 ∧ b0.addr = A0 ∧ b0.nonce = (Vi s 0).nonce ∧ b0.bal = (Vi s 0).bal ∧ b0.code = (Qf f 0).1 ∧ (∀ i ∈ tab, Vo b0 (WX (W0 i)) = (Yi f r i).2) ∧ ∀ k, ¬ Jcu k → Vo b0 k = Vo (Vi s 0) k
  others : ∀ k, k ≠ A0 → k ≠ A1 → Qn t k = Qn s k
  fee : if (Qf f 1).2 = true then Qn t A1 = some { Vi s 1 with code := (Qf f 1).1 } else Qn t A1 = Qn s A1
theorem Jro {f : Int} {t : List AcE} {r : Rec} (h : QP f s r = (t, 0)) : Wrote f s t r := by
 unfold QP at h
 split at h
 ·rename_i h1; exact absurd (Prod.mk.inj h).2 h1
 rename_i h1
 split at h
 ·rename_i h2; exact absurd (Prod.mk.inj h).2 h2
 rename_i h2
 have h2 := Decidable.not_not.1 h2
 obtain ⟨g1, g2⟩ := Jk5 (Decidable.not_not.1 h1)
 obtain ⟨b0, c1, c2, c3, c4, c5⟩ := Jod h h2 (J3r f) fun w a _ => Jiv w a
 refine ⟨g1, g2, h2, c2, ⟨b0, c3, ?_⟩, c4, ?_⟩
 ·unfold V0 at c1
  rw [if_neg m7] at c1
  have hl := J1s h2 (w := 0) rfl (Jfo f 0)
  have hr := Jk4 (l := wm f r) (a := { Vi s 0 with code := (Qf f 0).1 }) (by rw [c1]) hl (Jxh f r)
  rw [c1] at hr
  obtain ⟨r1, r2, r3, r4, r5, r6, r7⟩ := hr
  exact ⟨r1, r2, r3, r4, r5, fun i hi => r6 (Yi f r i) (List.mem_map.2 ⟨i, hi, rfl⟩), fun k hk => r7 k (Job hk)⟩
 ·split
  ·rename_i hf
   rw [if_pos hf] at c5
   obtain ⟨b1, e1, e2⟩ := c5
   unfold V0 at e1
   rw [if_pos rfl] at e1
   rw [e2, ← (Prod.mk.inj e1).1]
  ·rename_i hf
   rw [if_neg hf] at c5
   exact c5
def VN (s : List AcE) (k : BS) : AcE := (Qn s k).getD ac0
theorem zq {f : Int} {g g' : Nat → W4} : ∀ {l : List Nat} {out : Rec}, (∀ i ∈ l, ZF f i = true → g i = g' i) → Y9 f g l out = Y9 f g' l out
 | [], _, _ => rfl
 | i :: l, out, h => by
  unfold Y9
  have e : (if ZF f i then zm out (g i) i else out) = if ZF f i then zm out (g' i) i else out := by
   by_cases hi : ZF f i = true
   ·rw [if_pos hi, if_pos hi, h i List.mem_cons_self hi]
   ·rw [if_neg hi, if_neg hi]
  rw [e]
  exact zq fun j hj => h j (List.mem_cons_of_mem _ hj)
theorem Joe {f : Int} {a : AcE} {r : Rec} (hf : Q0 f) (hr : r.ok) (hb : qA f r = true) (h : ∀ i ∈ tab, Vo a (WX (W0 i)) = (Yi f r i).2) : Jk2 f a = r := by
 have e : Jk2 f a = wk f r := zq fun i hi hh => by
  rw [h i hi]
  unfold Yi
  simp only
  rw [if_pos hh]
  exact J1o (Jfn hr i)
 rw [e]
 exact (zn hf).2 hb
structure Checked (f : Int) (s : List AcE) (a : AcE) : Prop where
  forked : Q0 f
  st : KP s = 0
  at0 : Qn s A0 = some a
  code : a.code = (Qf f 0).1
  rows : ∀ i ∈ tab, Vo a (WX (W0 i)) = (Yi f (Jk2 f a) i).2
  fee : (Qf f 1).2 = true → ∃ b, Qn s A1 = some b ∧ b.code = (Qf f 1).1
theorem Wrote.checked {f : Int} {t : List AcE} {r : Rec} (h : Wrote f s t r) (hr : r.ok) : ∃ a, Checked f t a ∧ Jk2 f a = r := by
 obtain ⟨h1, h2, h3, h4, ⟨b0, c1, c2, c3, c4, c5, c6, c7, c8⟩, h6, h7⟩ := h
 have e := Joe h1 hr h2 c7
 refine ⟨b0, ⟨h1, h4, c1, c6, by rw [e]; exact c7, fun hf => ?_⟩, e⟩
 rw [if_pos hf] at h7
 exact ⟨_, h7, rfl⟩
theorem Checked.lk {f : Int} {a : AcE} (h : Checked f s a) : Wz a = 0 := (qB h.st h.at0).2
theorem Checked.addr {f : Int} {a : AcE} (h : Checked f s a) : a.addr = A0 := (qB h.st h.at0).1
theorem Checked.old {f : Int} {a : AcE} (h : Checked f s a) : Vi s 0 = a := Jrn h.st h.at0
structure Kept (s t : List AcE) : Prop where
  others : ∀ k, k ≠ A0 → k ≠ A1 → Qn t k = Qn s k
  there : ∀ k, (Qn s k).isSome = true → (Qn t k).isSome = true
  nonce : ∀ k, (VN t k).nonce = (VN s k).nonce
  bal : ∀ k, (VN t k).bal = (VN s k).bal
  slot : ∀ k j, (k = A0 → ¬ Jcu j) → Vo (VN t k) j = Vo (VN s k) j
theorem Kept.refl (s : List AcE) : Kept s s := ⟨fun _ _ _ => rfl, fun _ h => h, fun _ => rfl, fun _ => rfl, fun _ _ _ => rfl⟩
theorem Kept.trans {t u : List AcE} (h : Kept s t) (k : Kept t u) : Kept s u :=
 ⟨fun x a b => (k.others x a b).trans (h.others x a b), fun x hx => k.there x (h.there x hx), fun x => (k.nonce x).trans (h.nonce x), fun x => (k.bal x).trans (h.bal x), fun x j hj => (k.slot x j hj).trans (h.slot x j hj)⟩
theorem Wrote.kept {f : Int} {t : List AcE} {r : Rec} (W : Wrote f s t r) : Kept s t := by
 obtain ⟨b, b1, b2, b3, b4, b5, b6, b7, b8⟩ := W.acct
 have hf := W.fee
 have a0 : VN t A0 = b := by unfold VN; rw [b1]; rfl
 have hcase : ∀ k, k ≠ A0 → Qn t k = Qn s k ∨ (k = A1 ∧ Qn t A1 = some { Vi s 1 with code := (Qf f 1).1 }) := fun k k0 => by
  by_cases k1 : k = A1
  ·subst k1
   split at hf
   ·exact .inr ⟨rfl, hf⟩
   ·exact .inl hf
  ·exact .inl (W.others k k0 k1)
 refine ⟨W.others, fun k h => ?_, fun k => ?_, fun k => ?_, fun k j hj => ?_⟩
 ·by_cases k0 : k = A0
  ·subst k0; rw [b1]; rfl
  ·rcases hcase k k0 with e | ⟨rfl, e⟩
   ·rw [e]; exact h
   ·rw [e]; rfl
 ·by_cases k0 : k = A0
  ·subst k0; rw [a0, b4]; rfl
  ·rcases hcase k k0 with e | ⟨rfl, e⟩
   ·unfold VN; rw [e]
   ·unfold VN; rw [e]; rfl
 ·by_cases k0 : k = A0
  ·subst k0; rw [a0, b5]; rfl
  ·rcases hcase k k0 with e | ⟨rfl, e⟩
   ·unfold VN; rw [e]
   ·unfold VN; rw [e]; rfl
 ·by_cases k0 : k = A0
  ·subst k0; rw [a0, b8 j (hj rfl)]; rfl
  ·rcases hcase k k0 with e | ⟨rfl, e⟩
   ·unfold VN; rw [e]
   ·unfold VN; rw [e]; rfl
def Way (f g : Int) : Prop := 0 ≤ f ∧ f ≤ g ∧ g ≤ 5
instance (f g : Int) : Decidable (Way f g) := inferInstanceAs (Decidable (_ ∧ _))
def plS (sz a : Nat) : Pl → Pl
 | none => none
 | some (⟨b, o, s⟩, cap) => some (⟨b, if cap = a then o else o + a * sz, s⟩, cap - a)
theorem Seg.slice  {n a b : Nat} {cs : List Value} {p : Pl} (h : Seg R n cs p) (hl : cs.length = n * sz) (hab : a < b) (hb : b ≤ n) : Seg R (b - a) ((cs.drop (a * sz)).take ((b - a) * sz)) (plS sz a p) := by
 cases p with
 | none => have h : n = 0 := h; omega
 | some q =>
  obtain ⟨⟨r, o, s⟩, cap⟩ := q
  obtain ⟨h1, h2⟩ := h
  obtain ⟨h3, all, e, fr, h4, h5⟩ := h2 m5
  have hne : ¬ cap = a := by omega
  simp only [plS, if_neg hne]
  have hlen : ((cs.drop (a * sz)).take ((b - a) * sz)).length = (b - a) * sz := by
   rw [List.length_take, List.length_drop, hl, ← Nat.sub_mul]
   exact Nat.min_eq_left (Nat.mul_le_mul_right _ m5)
  refine ⟨by omega, fun _ => ⟨h3, all, e, fr, h4, ?_⟩⟩
  rw [hlen]
  exact Jfd h5 O hlen
section
variable {c : Cx} {l : KQ} {L : Jx} {X : XP} {Q : Exit → Act → World → Prop} {d : List Deferred}
variable {ops : Array Oper} {rest : List Oper} {i : Nat} {v : Value} {t : TypeId} {ps : String} {af : Array Edge} {gd : Option (Nat × Bool)} {ty t2 : TypeId}
theorem Jof {lo hi : Operand} {p : Pl} {cs : List Value} {n e a b : Nat} {ka kb : IntKind} {za zb : Int} (hx : Kx l x = some (KA n p)) (hs : Seg R n cs p) (hlo : Kx l lo = some (.int ka za)) (hhi : Kx l hi = some (.int kb zb)) (ea : za = (a : Int)) (eb : zb = (b : Int)) (ht : KH c.P t = some e) (hz : Qg c.P e = some sz) (hab : a < b) (hb : b ≤ n) (hm : b - a = m) :
  JM c d l L X ⟨some i, .slice t x (some lo) (some hi) none, ty, ps, af, gd⟩ (KA m (plS sz a p)) := by
 subst ea eb hm
 cases p with
 | none => have h : n = 0 := hs; omega
 | some q =>
  obtain ⟨⟨r, o, s⟩, cap⟩ := q
  obtain ⟨h1, h2⟩ := hs
  have h3 : s = none := (h2 m5).1
  subst h3
  exact Ke (kl := some a) (kh := some b) (km := none) hx ht hz ⟨_, hlo⟩ ⟨_, hhi⟩ trivial O O O m5 (by show b ≤ cap; omega) (Nat.le_refl _) (fun h => by cases h) rfl
theorem ym {a b : List UInt8} (hx : Kx l x = some (.string (bs a))) (hy : Kx l y = some (.string (bs b))) :
  JM c d l L X ⟨some i, .binOp .geq t x y t2, ty, ps, af, gd⟩ (.bool (!Op.bytesLess a b)) := fun a' w hf _ => by
 simp only [execOp]
 rw [hf.eval hx, hf.eval hy]
 simp only [binOp, eqGuard, Op.stringOp, Sem.run_bind, WT]
 rfl
theorem Jcv {a b : List UInt8} (hx : Kx l x = some (.string (bs a))) (hy : Kx l y = some (.string (bs b))) :
  JM c d l L X ⟨some i, .binOp .gtr t x y t2, ty, ps, af, gd⟩ (.bool (Op.bytesLess b a)) := fun a' w hf _ => by
 simp only [execOp]
 rw [hf.eval hx, hf.eval hy]
 have e : (!(Op.bytesLess a b || decide (a = b))) = Op.bytesLess b a := by
  rcases XU a b with h | h | h
  ·subst h; rw [VO]; simp
  ·rw [h, Xg h]; simp
  ·rw [h, Xg h]; simp [(jG h).symm]
 rw [← e]
 have e2 : (a == b) = decide (a = b) := by by_cases h : a = b <;> simp [h]
 rw [← e2]
 simp only [binOp, eqGuard, Op.stringOp, Sem.run_bind, WT]
 rfl
theorem jO  {e n : Nat} {a : Option Addr} {r2 : Option Addr} (hg : Kz l ops ⟨some i, .call ⟨.builtin .append, #[x, y], #[t, t]⟩, ty, ps, af, gd⟩ = some true) (hi : Nat.ble (i + 1) c.n = true)
  (hx : Kx l x = some (.slice a n cap)) (hy : Kx l y = some (.slice r2 0 c2)) (ht : KH c.P t = some e) (hs : Qg c.P e = some sz) (hle : n ≤ cap)
  (h : HL c d ((i, .slice a n cap) :: l) L X ops rest Q) : HL c d l L X ops (⟨some i, .call ⟨.builtin .append, #[x, y], #[t, t]⟩, ty, ps, af, gd⟩ :: rest) Q := by
 obtain ⟨inf, hinf, hs'⟩ : ∃ inf, c.P.info? e = some inf ∧ inf.size = sz := by
  unfold Qg at hs
  cases hq : c.P.info? e with
  | none => simp [hq] at hs
  | some inf => simp only [hq, Option.some.injEq] at hs; exact ⟨inf, rfl, hs⟩
 refine qb hg O O hi (fun a' w hf _ => ?_) h
 have ex := hf.eval hx
 have ey := hf.eval hy
 have hl : ∀ (q : Addr), (loadCells q 0).run c.P w = .ok #[] w := fun q => by simpa using run_loadCells_list (P := c.P) w q [] ml
 cases r2 <;> cases a <;> simp [execOp, resolve, Sem.run_bind, ex, ey, Result.andThen, invoke, builtin, Builtin.append_, Qe (Ky ht), sizeOf, typeInfo, hinf, Builtin.lenOf, hle, Builtin.firstCells, hl, storeCells]
theorem Jk6 {p : Option Addr} {n : Nat} (hx : Kx l x = some (.slice p n cap)) (ht : KH c.P t = some e) :
  JM c d l L X ⟨some i, .call ⟨.builtin .cap, #[x], #[t]⟩, ty, ps, af, gd⟩ (.int .i64 cap) := fun a w hf _ => by
 have ex := hf.eval hx
 simp [execOp, resolve, Sem.run_bind, ex, Result.andThen, invoke, builtin, Builtin.cap_, Qe (Ky ht), goInt]
theorem wn  {e k r1 o1 o2 n1 c1 n2 : Nat} {cs1 : Array Value} {tR : TypeId}
  (hf : Kx l f = some (.func (.func g) #[] #[])) (hx : Kx l x = some (.slice (some ⟨r1, o1, none⟩) n1 c1)) (hy : Kx l y = some (.slice (some ⟨r2, o2, none⟩) n2 c2)) (hk1 : (r1, Obj.cells cs1 e1 (0, 0)) ∈ c.R) (hk2 : L[k]? = some (r2, .cells cs2 e2 (0, 0)))
  (ht : KH c.P t = some e) (hs : Qg c.P e = some sz) (h0 : 0 < cs2.size) (hF : c.P.funcs[g]? = some fn) (hn1 : (fn.name == "runtime.NumGoroutine") = false) (hb : fn.body.isNone = true) (hn2 : Extern.findNext fn = none) (he : Extern.find fn = some (Extern.SlicesOverlaps.overlaps #[t, t] #[tR])) :
  JM c d l L X ⟨some i, .call ⟨.value f, #[x, y], at_⟩, ty, ps, af, gd⟩ (.bool false) := fun a w hfr hst =>
 Jis hf hx hy (hst.apart hk2 _ hk1) (Or.inr hk1) (wP hk2) ht hs h0 hF hn1 hb hn2 he a w hfr hst
theorem XX {e : Nat} (hg : Kz l ops ⟨some i, .buildSlice t 0 #[], ty, ps, af, gd⟩ = some true) (hi : Nat.ble (i + 1) c.n = true) (ht : KH c.P t = some e) (hs : Qg c.P e = some sz)
  (h : ∀ q, HL c d ((i, .slice (some ⟨q, 0, none⟩) 0 0) :: l) ((q, .cells #[] e (0, 0)) :: L) X ops rest Q) : HL c d l L X ops (⟨some i, .buildSlice t 0 #[], ty, ps, af, gd⟩ :: rest) Q := by
 refine Wi (V := fun q => .slice (some ⟨q, 0, none⟩) 0 0) (L' := fun q => (q, .cells #[] e (0, 0)) :: L) (X' := fun _ => X) hg O O hi (fun a w hfr hst => ⟨w.heap.size, w.alloc (.cells #[] e), ?_, hst.alloc _⟩) h
 simp [execOp, Instr.buildSlice, Sem.run_bind, Qe (Ky ht), Vy hs, Result.andThen, Instr.fill, newRow]
 rw [show Array.range 0 = (#[] : Array Nat) from by decide]
 simp
theorem zr  {k e b n : Nat} {q : Addr × Nat} {cs : List Value}
  (hg : Kz l ops ⟨some i, .call ⟨.builtin .append, #[x, y], #[t, t]⟩, ty, ps, af, gd⟩ = some true) (hi : Nat.ble (i + 1) c.n = true) (hx : Kx l x = some (.slice (some ⟨r, 0, none⟩) 0 0)) (hk : L[k]? = some (r, .cells #[] e (0, 0))) (hL : L.eraseIdx k = L0)
  (hy : Kx l y = some (KA n (some q))) (hs : Seg R n cs (some q)) (hR : ∀ q ∈ R, known c L q.1 q.2) (ht : KH c.P t = some e) (hz : QI c.P e = some z) (hsz : Qg c.P e = some sz) (hb : Jb0 c.P e = some b) (hzs : z.cells.size = sz) (h0 : 0 < sz)
  (hcs : cs.length = n * sz) (hone : cs.all QE = true) (h63 : n ≤ 9223372036854775807) (h47 : n * b ≤ 140737488355328)
  (h : ∀ row, rowOk sz n cs row → HL c d ((i, J9 n row) :: l) (JE e cs row ++ L0) X ops rest Q) : HL c d l L X ops (⟨some i, .call ⟨.builtin .append, #[x, y], #[t, t]⟩, ty, ps, af, gd⟩ :: rest) Q := by
 obtain ⟨⟨r2, o2, s2⟩, cap⟩ := q
 obtain ⟨hs1, hs2⟩ := hs
 by_cases hn : n = 0
 ·subst hn
  have hc0 : cs = [] := List.length_eq_zero_iff.1 (by rw [hcs, Nat.zero_mul])
  subst hc0
  refine jO hg hi hx hy ht hsz (Nat.le_refl _) ?_
  refine Kv ?_ (h (some (r, 0, [])) ⟨by simp, by simp⟩)
  have h1 := (List.getElem?_eq_some_iff.1 hk)
  have := qj h1.1 (r, Obj.cells #[] e (0, 0))
  rw [hL, ← h1.2, List.set_getElem_self, h1.2] at this
  exact this
 ·obtain ⟨h3, all, e', fr, h4, h5⟩ := hs2 m5
  have h3 : s2 = none := h3
  subst h3
  rw [hcs] at h5
  refine WQ hg hi hx hy (hR _ h4) ht hz hsz hb hzs h0 h5 hcs hone m5 (SlOwn.own (n := 0) (cap := 0) (xs := []) hk ml ml ml hL) m5 (by rw [Nat.zero_add]; exact h47) fun r' cap' spare hsp => ?_
  have := h (some (r', cap', spare)) ⟨hcs, by rw [Nat.zero_add] at hsp; exact hsp⟩
  simpa [J9, JE] using this
end
def Zi {α : Type} (pr : α → Bool) (xs : List α) : Int := match xs.findIdx? pr with
 | some i => (i : Int)
 | none => -1
theorem Jfp (h : ∀ (j : Nat) x, xs[j]? = some x → pr x = false) : Zi pr xs = -1 := by
 unfold Zi
 have : xs.findIdx? pr = none := by
  rw [List.findIdx?_eq_none_iff]
  intro x hx
  obtain ⟨j, hj, rfl⟩ := List.mem_iff_getElem.1 hx
  simpa using h j _ (List.getElem?_eq_getElem hj)
 rw [this]
theorem Jfq {x : α} (hx : xs[i]? = some x) (hp : pr x = true) (h : ∀ j, j < i → ∀ y, xs[j]? = some y → pr y = false) : Zi pr xs = (i : Int) := by
 unfold Zi
 obtain ⟨h1, h2⟩ := List.getElem?_eq_some_iff.1 hx
 have : xs.findIdx? pr = some i := by
  rw [List.findIdx?_eq_some_iff_getElem]
  exact ⟨h1, by rw [h2]; exact hp, fun j hj => by simpa using h j hj _ (List.getElem?_eq_getElem m5)⟩
 rw [this]
theorem Jxi : decide (Zi pr xs ≥ 0) = xs.any pr := by
 unfold Zi
 cases h : xs.findIdx? pr with
 | none =>
  rw [List.findIdx?_eq_none_iff] at h
  have : xs.any pr = false := by rw [List.any_eq_false]; intro x hx; simpa using h x hx
  rw [this]; rfl
 | some i =>
  rw [List.findIdx?_eq_some_iff_getElem] at h
  obtain ⟨h1, h2, _⟩ := h
  have : xs.any pr = true := List.any_eq_true.2 ⟨xs[i], List.getElem_mem _, h2⟩
  rw [this]; simp
theorem zt : (Zi pr xs < 0 ∧ xs.find? pr = none) ∨ ∃ (i : Nat) (x : α), Zi pr xs = (i : Int) ∧ xs[i]? = some x ∧ xs.find? pr = some x := by
 unfold Zi
 cases h : xs.findIdx? pr with
 | none =>
  rw [List.findIdx?_eq_none_iff] at h
  exact .inl ⟨by simp, by rw [List.find?_eq_none]; intro x hx; simpa using h x hx⟩
 | some i =>
  rw [List.findIdx?_eq_some_iff_getElem] at h
  obtain ⟨h1, h2, h3⟩ := h
  refine .inr ⟨i, xs[i], rfl, List.getElem?_eq_getElem h1, ?_⟩
  rw [List.find?_eq_some_iff_getElem]
  exact ⟨h2, i, h1, rfl, fun j hj => by simpa using h3 j hj⟩
theorem Jxj (h : 0 ≤ Zi pr xs) : ∃ (i : Nat) (x : α), Zi pr xs = (i : Int) ∧ xs[i]? = some x ∧ xs.find? pr = some x := by
 rcases zt (pr := pr) (xs := xs) with ⟨h1, _⟩ | h1
 ·omega
 ·exact h1
theorem Jfr (h : Zi pr xs < 0) : xs.find? pr = none := by
 rcases zt (pr := pr) (xs := xs) with ⟨_, h1⟩ | ⟨i, x, h1, _⟩
 ·exact h1
 ·omega
section
variable {α : Type} {kf : α → BS}
def YB (a b : BS) : Int := if Op.bytesLess a b then -1 else if Op.bytesLess b a then 1 else 0
theorem yq (a b : BS) : decide (YB a b < 0) = Op.bytesLess a b := by
 unfold YB
 cases Op.bytesLess a b
 ·cases Op.bytesLess b a <;> rfl
 ·rfl
theorem Jfs (a b : BS) : (YB a b == 0) = decide (a = b) := by
 unfold YB
 rcases XU a b with h | h | h
 ·subst h; rw [VO]; simp
 ·rw [h]; simp [jG h]
 ·rw [h, Xg h]; simp [(jG h).symm]
def jY (kf : α → BS) (k : BS) (xs : List α) : Nat := (xs.takeWhile fun x => Op.bytesLess (kf x) k).length
def Wk (kf : α → BS) (k : BS) (xs : List α) : Bool := match xs[jY kf k xs]? with
 | some x => decide (kf x = k)
 | none => false
theorem Jrp (k : BS) (xs : List α) : jY kf k xs ≤ xs.length := by
 unfold jY
 have := (List.takeWhile_prefix (p := fun x => Op.bytesLess (kf x) k) (l := xs)).length_le
 exact this
theorem Jrq {k : BS} : ∀ {xs : List α} {i : Nat}, i ≤ xs.length → (∀ q y, q < i → xs[q]? = some y → Op.bytesLess (kf y) k = true) → (∀ y, xs[i]? = some y → Op.bytesLess (kf y) k = false) → i = jY kf k xs
 | [], i, h, _, _ => by simp [jY] at h ⊢; exact h
 | x :: xs, 0, _, _, h2 => by
  have := h2 x rfl
  simp [jY, List.takeWhile_cons, this]
 | x :: xs, i + 1, h, h1, h2 => by
  have h0 := h1 0 x m5 rfl
  have := Jrq (xs := xs) (i := i) Mh (fun q y hq hy => h1 (q + 1) y m5 hy) (fun y hy => h2 y hy)
  unfold jY at this ⊢
  rw [List.takeWhile_cons, h0]
  simp only [if_true, List.length_cons]
  omega
theorem J0n {k : BS} : ∀ {xs : List α} {q : Nat} {y : α}, q < jY kf k xs → xs[q]? = some y → Op.bytesLess (kf y) k = true
  | [], q, y, h, _ => by simp [jY] at h
  | x :: xs, q, y, h, hy => by
    unfold jY at h
    rw [List.takeWhile_cons] at h
    split at h
    · rename_i hx
      cases q with
      | zero => obtain rfl : x = y := by simpa using hy
                exact hx
      | succ q => exact J0n (xs := xs) (q := q) (by simpa [jY] using h) Nc
    · simp at h
theorem J0o {k : BS} : ∀ {xs : List α} {q : Nat} {y : α}, KN kf xs → jY kf k xs ≤ q → xs[q]? = some y → Op.bytesLess (kf y) k = false
  | [], q, y, _, _, hy => by simp at hy
  | x :: xs, q, y, hs, h, hy => by
    obtain ⟨s1, s2⟩ := List.pairwise_cons.1 hs
    unfold jY at h
    rw [List.takeWhile_cons] at h
    split at h
    · cases q with
      | zero => simp at h
      | succ q => exact J0o (xs := xs) (q := q) s2 (by simpa [jY] using h) Nc
    · rename_i hx
      have hx : Op.bytesLess (kf x) k = false := by simpa using hx
      cases q with
      | zero => obtain rfl : x = y := by simpa using hy
                exact hx
      | succ q =>
        have hm : y ∈ xs := List.mem_of_getElem? Nc
        cases hyk : Op.bytesLess (kf y) k
        · rfl
        · rw [QW (s1 y hm) hyk] at hx; cases hx
theorem Jft {k : BS} {xs : List α} (hs : KN kf xs) {h : Nat} {x : α} (hx : xs[h]? = some x) (hb : Op.bytesLess (kf x) k = true) : ∀ q y, q < h + 1 → xs[q]? = some y → Op.bytesLess (kf y) k = true := fun q y hq hy => by
 rcases Nat.lt_succ_iff_lt_or_eq.1 hq with hq | rfl
 ·have hp := List.pairwise_iff_getElem.1 hs q h (List.getElem?_eq_some_iff.1 hy).1 (List.getElem?_eq_some_iff.1 hx).1 hq
  rw [(List.getElem?_eq_some_iff.1 hy).2, (List.getElem?_eq_some_iff.1 hx).2] at hp
  exact QW hp hb
 ·rw [hx] at hy; cases hy; exact hb
theorem Jfu {k : BS} {xs : List α} (hs : KN kf xs) {h : Nat} {x : α} (hx : xs[h]? = some x) (hb : Op.bytesLess (kf x) k = false) : ∀ q y, h ≤ q → xs[q]? = some y → Op.bytesLess (kf y) k = false := fun q y hq hy => by
 rcases Nat.lt_or_eq_of_le hq with hq | rfl
 ·have hp := List.pairwise_iff_getElem.1 hs h q (List.getElem?_eq_some_iff.1 hx).1 (List.getElem?_eq_some_iff.1 hy).1 hq
  rw [(List.getElem?_eq_some_iff.1 hy).2, (List.getElem?_eq_some_iff.1 hx).2] at hp
  cases hyk : Op.bytesLess (kf y) k
  ·rfl
  ·rw [QW hp hyk] at hb; cases hb
 ·rw [hx] at hy; cases hy; exact hb
theorem Jfv {k : BS} {xs : List α} {x : α} (h : xs[jY kf k xs]? = some x) : Wk kf k xs = decide (kf x = k) := by unfold Wk; rw [h]
theorem vF {k : BS} {xs : List α} (h : xs.length ≤ jY kf k xs) : Wk kf k xs = false := by unfold Wk; rw [List.getElem?_eq_none h]
theorem Jrr {x : α} {xs : List α} (hs : KN kf xs) : Qo kf x xs = if Wk kf (kf x) xs = true then xs.set (jY kf (kf x) xs) x else xs.take (jY kf (kf x) xs) ++ x :: xs.drop (jY kf (kf x) xs) := by
 obtain ⟨i, hi⟩ : ∃ i, i = jY kf (kf x) xs := ⟨_, rfl⟩
 have hle : i ≤ xs.length := hi ▸ Jrp _ _
 have h := Jre (kf := kf) (x := x) (p := xs.take i) (q := xs.drop i) (fun y hy => by
  obtain ⟨j, e⟩ := List.mem_iff_getElem?.1 hy
  have hj := (List.getElem?_eq_some_iff.1 e).1
  rw [List.length_take] at hj
  rw [List.getElem?_take, if_pos m5] at e
  exact J0n m5 e) (fun y hy => by
  obtain ⟨j, e⟩ := List.mem_iff_getElem?.1 hy
  rw [List.getElem?_drop] at e
  exact J0o hs m5 e)
 rw [List.take_append_drop] at h
 rw [h]
 unfold Wk
 rw [← hi]
 by_cases hlt : i < xs.length
 ·rw [List.getElem?_eq_getElem hlt, List.drop_eq_getElem_cons hlt]
  simp only [decide_eq_true_eq]
  split
  ·rw [List.set_eq_take_append_cons_drop, if_pos hlt]
  ·rfl
 ·rw [List.getElem?_eq_none m5, List.drop_of_length_le m5]
  simp
end
def fV (f : FuncId) : Value := .func (.func f) #[] #[]
theorem jq {α : Type} {kf : α → BS} : ∀ {xs : List α}, (∀ (j : Nat) x y, xs[j]? = some x → xs[j + 1]? = some y → Op.bytesLess (kf x) (kf y) = true) → QO kf xs = true
 | [], _ => rfl
 | [_], _ => rfl
 | x :: y :: xs, h => by
  rw [QO, h 0 x y rfl rfl, Bool.true_and]
  exact jq fun j u v hu hv => h (j + 1) u v (by simpa using hu) (by simpa using hv)
theorem qC {α : Type} {kf : α → BS} : ∀ {xs : List α} {j : Nat} {x y : α}, xs[j]? = some x → xs[j + 1]? = some y → Op.bytesLess (kf x) (kf y) = false → QO kf xs = false
 | [], _, _, _, h, _, _ => by simp at h
 | [_], _, _, _, _, h, _ => by simp at h
 | a :: b :: xs, 0, x, y, hx, hy, h => by
  obtain rfl : a = x := by simpa using hx
  obtain rfl : b = y := by simpa using hy
  rw [QO, h, Bool.false_and]
 | a :: b :: xs, j + 1, x, y, hx, hy, h => by
  rw [QO, qC (xs := b :: xs) (j := j) (by simpa using hx) Nc h, Bool.and_false]
theorem Zj {α : Type} {f : α → List Value} (h : ∀ x, (f x).all QE = true) : ∀ l : List α, (l.flatMap f).all QE = true
 | [] => rfl
 | x :: l => by rw [List.flatMap_cons, List.all_append, h, Zj h l]; rfl
theorem cut {l : List Value} {a : Nat} (h : a ≤ l.length) : ∃ x y, l = x ++ y ∧ x.length = a := ⟨l.take a, l.drop a, (List.take_append_drop ..).symm, by rw [List.length_take]; omega⟩
theorem Jfw {k : BS} (h : Wk kf k xs = true) : jY kf k xs < xs.length := by
 rcases Nat.lt_or_ge (jY kf k xs) xs.length with h1 | h1
 ·exact h1
 ·rw [vF h1] at h; cases h
theorem row_some {n : Nat} {xs : List Value} (h : rowOk sz n xs row) (hn : 0 < n) : ∃ r cap sp, row = some (r, cap, sp) := by
 cases row with
 | none => have := h.1; omega
 | some q => obtain ⟨r, cap, sp⟩ := q; exact ⟨r, cap, sp, rfl⟩
theorem XY {P M S V : List Value} {o n : Nat} (ho : P.length = o) (hn : M.length = n) : (P ++ (M ++ S)).take o ++ V ++ (P ++ (M ++ S)).drop (o + n) = P ++ (V ++ S) := by
 subst ho hn
 rw [List.take_left' rfl, ← List.drop_drop, List.drop_left' rfl, List.drop_left' rfl, List.append_assoc]
theorem Jcw {f : α → List Value} (hf : ∀ x, (f x).length = m) (hj : j < xs.length) (y : α) (sp : List Value) :
  (xs.flatMap f ++ sp).take (j * m) ++ f y ++ (xs.flatMap f ++ sp).drop (j * m + m) = (xs.set j y).flatMap f ++ sp := by
 have e : xs = xs.take j ++ xs[j] :: xs.drop (j + 1) := by rw [← List.drop_eq_getElem_cons hj, List.take_append_drop]
 have e1 : xs.flatMap f ++ sp = (xs.take j).flatMap f ++ (f xs[j] ++ ((xs.drop (j + 1)).flatMap f ++ sp)) := by
  rw [show xs.flatMap f = (xs.take j ++ xs[j] :: xs.drop (j + 1)).flatMap f from congrArg (List.flatMap f) e, List.flatMap_append, List.flatMap_cons, List.append_assoc, List.append_assoc]
 have e2 : (xs.set j y).flatMap f ++ sp = (xs.take j).flatMap f ++ (f y ++ ((xs.drop (j + 1)).flatMap f ++ sp)) := by
  rw [List.set_eq_take_append_cons_drop, if_pos hj]
  simp [List.flatMap_append, List.flatMap_cons]
 rw [e1, e2]
 exact XY (by rw [KO hf, List.length_take]; congr 1; omega) (hf _)
theorem Pure.toR {f : FuncId} {args : Array Value} (h : Pure P f args v) : PureR P f args v R := ⟨fun w _ => h.run w⟩
theorem Jog {f : α → List Value} (hf : ∀ x, (f x).length = m) {x y : α} (hx : xs[i]? = some x) (hy : xs[i + 1]? = some y) : ((xs.flatMap f).drop (i * m)).take (2 * m) = [x, y].flatMap f := by
 have h1 := Xf hf hx
 have h2 := Xf hf hy
 rw [show 2 * m = m + m by omega, List.take_add, h1, List.drop_drop, show i * m + m = (i + 1) * m by rw [Nat.succ_mul], h2]
 simp
def Q5 (s : StL) (k : BS) : AcL := (s.accts.find? fun a => decide (a.addr = k)).getD ac0L
def WD (s : StL) (k : BS) : Bool := (s.accts.find? fun a => decide (a.addr = k)).isSome
theorem Jfx {l : List AcL} {k : BS} : Wc AcE.addr k (l.map AcL.er) = (l.find? fun a => decide (a.addr = k)).map AcL.er := by
 induction l with
 | nil => rfl
 | cons a l ih =>
  rw [List.map_cons, QJ, ih, List.find?_cons]
  by_cases h : a.addr = k
  ·rw [if_pos (show a.er.addr = k from h), decide_eq_true h]; rfl
  ·rw [if_neg (show ¬ a.er.addr = k from h), decide_eq_false h]
theorem Jrs (s : StL) (k : BS) : WD s k = (Qn s.er k).isSome := by
 unfold WD Qn StL.er
 rw [Jfx]
 cases s.accts.find? fun a => decide (a.addr = k) <;> rfl
theorem Jk7 (s : StL) (k : BS) : (Q5 s k).er = (Qn s.er k).getD ac0 := by
 unfold Q5 Qn StL.er
 rw [Jfx]
 cases s.accts.find? fun a => decide (a.addr = k) <;> rfl
theorem jr {s : StL} (h : s.In R) (k : BS) : (Q5 s k).In R := by
 unfold Q5
 cases hx : s.accts.find? fun a => decide (a.addr = k) with
 | none => exact J1m
 | some a => exact h.accts a (List.mem_of_find?_eq_some hx)
theorem Jfy {s : StL} {k : BS} {a : AcL} (h : (s.accts.find? fun a => decide (a.addr = k)) = some a) : Q5 s k = a ∧ WD s k = true := by
 unfold Q5 WD; rw [h]; exact ⟨rfl, rfl⟩
theorem Jar {s : StL} {k : BS} (h : (s.accts.find? fun a => decide (a.addr = k)) = none) : Q5 s k = ac0L ∧ WD s k = false := by
 unfold Q5 WD; rw [h]; exact ⟨rfl, rfl⟩
theorem Jiw (x y : α) : QO kf [x, y] = Op.bytesLess (kf x) (kf y) := by
 rw [QO, QO, Bool.and_true]
def Xp (l : List AcE) : Nat → Option BS
 | 0 => none
 | i + 1 => l[i]?.map AcE.addr
theorem Jk8 {l : List AcE} {a : AcE} (h : l[i]? = some a) : goS (Xp l i) (l.drop i) = if Vn (Xp l i) a ≠ 0 then Vn (Xp l i) a else goS (Xp l (i + 1)) (l.drop (i + 1)) := by
 rw [VY h, goS, show Xp l (i + 1) = some a.addr from by show Option.map AcE.addr l[i]? = _; rw [h]; rfl]
theorem vG {s : StL} {a : AcL} (h : s.accts[i]? = some a) : s.er[i]? = some a.er := by unfold StL.er; rw [List.getElem?_map, h]; rfl
theorem Seg.two {f : α → List Value} (hf : ∀ x, (f x).length = m) {p : Pl} (h : Seg R xs.length (xs.flatMap f) p) {x y : α} (hx : xs[j]? = some x) (hy : xs[i]? = some y) (e : j + 1 = i) : Seg R [x, y].length ([x, y].flatMap f) (plS m j p) := by
 subst e
 have hlt := (List.getElem?_eq_some_iff.1 hy).1
 have h1 := h.slice (sz := m) (a := j) (b := j + 2) (KO hf xs) m5 m5
 rw [show j + 2 - j = 2 by omega, Jog hf hx hy] at h1
 exact h1
theorem Jk9 {a : AcE} {b : BS} (h : Wz a ≠ 2) (hl : last = some b) (hb : Op.bytesLess b a.addr = false) : Vn last a = 11 := by unfold Vn; rw [if_pos ⟨h, b, hl, hb⟩]
theorem Jcx {a : AcE} (h : Wz a = 2 ∨ last = none ∨ ∃ b, last = some b ∧ Op.bytesLess b a.addr = true) : Vn last a = Wz a := by
 unfold Vn
 rw [if_neg]
 rintro ⟨h1, b, h2, h3⟩
 rcases h with h | h | ⟨c, h, h4⟩
 ·exact h1 h
 ·rw [h] at h2; cases h2
 ·rw [h] at h2; cases h2; rw [h3] at h4; cases h4
theorem Jcy {s : StL} {x : AcL} (hx : s.accts[j]? = some x) (e : j + 1 = i) : Xp s.er i = some x.addr := by
 subst e; show Option.map AcE.addr s.er[j]? = _; rw [vG hx]; rfl
theorem Jla (s : StL) : (32 < (s.accts.length : Int) → KP s.er = 5) ∧ (¬ 32 < (s.accts.length : Int) → KP s.er = goS none s.er) := by
 unfold KP
 rw [s.er_len]
 exact ⟨fun h => by rw [if_pos m5], fun h => by rw [if_neg m5]⟩
theorem PureR.mono {f : FuncId} {args : Array Value} (h : PureR P f args v R) (hs : ∀ q ∈ R, q ∈ R') : PureR P f args v R' := ⟨fun w hw => h.run w fun p hp => hw p (hs p hp)⟩
def KY : QC → Pl
 | none => none
 | some (r, cap, _) => some (⟨r, 0, none⟩, cap)
theorem QG (n : Nat) (row : QC) (h : row = none → n = 0) : KA n (KY row) = J9 n row := by
 cases row with
 | none => rw [h rfl]; rfl
 | some q => rfl
theorem JQ {n e : Nat} {cs : List Value} (h : rowOk sz n cs row) (h0 : 0 < sz) : Seg (JE e cs row) n cs (KY row) := by
 cases row with
 | none => exact h.1
 | some q =>
  obtain ⟨r, cap, sp⟩ := q
  obtain ⟨h1, h2⟩ := h
  exact ⟨Nat.le_of_mul_le_mul_right (by omega : n * sz ≤ cap * sz) h0, fun _ => ⟨rfl, _, e, (0, 0), List.mem_cons_self, by simp⟩⟩
theorem Jxk (h : Zi pr xs = (i : Int)) : i < xs.length ∧ (xs.take (i + 1)).filter (fun x => !pr x) = xs.take i := by
 unfold Zi at h
 split at h
 ·rename_i j hj
  obtain rfl : j = i := by omega
  rw [List.findIdx?_eq_some_iff_getElem] at hj
  obtain ⟨h1, h2, h3⟩ := hj
  refine ⟨h1, ?_⟩
  rw [List.take_succ_eq_append_getElem h1, List.filter_append, List.filter_eq_self.2, List.filter_eq_nil_iff.2, List.append_nil]
  ·intro x hx
   rw [List.mem_singleton.1 hx]; simp [h2]
  ·intro x hx
   obtain ⟨q, hq, rfl⟩ := List.mem_iff_getElem.1 hx
   rw [List.getElem_take]
   simp only [List.length_take] at hq
   simpa using h3 q m5
 ·omega
theorem Jxl (h : Zi pr xs < 0) : xs.filter (fun x => !pr x) = xs := by
 rw [List.filter_eq_self]
 intro x hx
 have := Jfr h
 rw [List.find?_eq_none] at this
 simpa using this x hx
theorem YC {x : α} (hx : xs[j]? = some x) : (xs.take (j + 1)).filter pr = (xs.take j).filter pr ++ (if pr x then [x] else []) := by
 obtain ⟨h1, h2⟩ := List.getElem?_eq_some_iff.1 hx
 rw [List.take_succ_eq_append_getElem h1, List.filter_append, h2]
 congr 1
 by_cases h : pr x = true <;> simp [h]
theorem Jfz {f : α → List Value} {x : α} (hx : xs[j]? = some x) : (xs.drop j).flatMap f = f x ++ (xs.drop (j + 1)).flatMap f := by rw [VY hx, List.flatMap_cons]
structure AcRes (R : Jx) (e : AcE × Int) : Type where
  a : AcL
  err : Int
  L : Jx
  ok : a.In (L ++ R)
  eq : (a.er, err) = e
structure StRes (R : Jx) (e : List AcE × Int) : Type where
  s : StL
  err : Int
  L : Jx
  ok : s.In (L ++ R)
  eq : (s.er, err) = e
def AcRes.val {R : Jx} {e : AcE × Int} (x : AcRes R e) : Value := .tuple #[x.a.val, .int .i64 x.err]
def StRes.val {R : Jx} {e : List AcE × Int} (x : StRes R e) : Value := .tuple #[x.s.val, .int .i64 x.err]
theorem WE (n : Nat) (row : QC) : QE (J9 n row) = true := by cases row <;> rfl
theorem Jix {k v : BS} {l : List (BS × BS)} : (Qo Prod.fst (k, v) l).filter (fun x => !decide (x.1 = k)) = ZE Prod.fst k l := by
 rw [← Jk0 (kf := Prod.fst) (x := (k, v)) (l := l)]
 unfold ZE
 refine List.filter_congr fun x _ => ?_
 by_cases h : x.1 = k <;> simp [h]
theorem Jcz (a : AcL) : ∀ l : List AcL, (Qo AcL.addr a l).map AcL.er = Qo AcE.addr a.er (l.map AcL.er)
 | [] => rfl
 | x :: l => by
  rw [List.map_cons, Qo, Qo]
  show _ = if Op.bytesLess x.addr a.addr then _ else if x.addr = a.addr then _ else _
  split
  ·rw [List.map_cons, Jcz a l]
  ·split <;> rfl
theorem Jas (s : StL) : KN AcL.addr s.accts ↔ KN AcE.addr s.er := by
 unfold StL.er KN
 rw [List.pairwise_map]
 exact Iff.rfl
theorem Zk {L : Jx} {a : AcL} (ha : a.In R) {k v : BS} (hk : k.length = 32) (hv : v.length = 32) (hlen : (KK a.slots k v).length ≤ 9223372036854775807) {p : Pl} (hp : Seg L (KK a.slots k v).length (Jrf (KK a.slots k v)) p) : AcL.In (L ++ R) ⟨a.addr, a.nonce, a.bal, a.code, KK a.slots k v, p⟩ :=
 ⟨ha.addr, ha.nonce, ha.bal, ha.code, hlen, hp.mono fun q hq => List.mem_append_left _ hq, fun x hx => by
  rcases zo hx with ⟨rfl, _⟩ | hx
  ·exact ⟨by show k.length ≤ _; rw [hk]; decide, by show v.length ≤ _; rw [hv]; decide⟩
  ·exact ha.slots x hx⟩
inductive EqF (P : Program) (xs ys : List Value) : List Field → Bool → Prop
  | nil : EqF P xs ys [] true
  | scal {f : Field} {fs : List Field} {a b : Value} {r : Bool} (hn : (f.name == "_") = false) (he : Wy P f.type = some false) (ga : X7 xs f.offset = some a) (gb : X7 ys f.offset = some b) (ha : W8 P f.type a = true) (hb : W8 P f.type b = true) (h : EqF P xs ys fs r) : EqF P xs ys (f :: fs) (eqS a b && r)
  | arr {f : Field} {fs : List Field} {n e : Nat} {va vb : List Value} {r : Bool} (hn : (f.name == "_") = false) (ht : qh P f.type = some (n, e)) (hz : Qg P f.type = some n) (he : Wy P e = some false) (hs : Qg P e = some 1) (ga : (xs.drop f.offset).take n = va) (gb : (ys.drop f.offset).take n = vb) (hla : va.length = n) (hlb : vb.length = n)
      (h1 : va.all (W8 P e) = true) (h2 : vb.all (W8 P e) = true) (h : EqF P xs ys fs r) : EqF P xs ys (f :: fs) (QM va vb && r)
theorem Jat {t n : Nat} {cs va : List Value} {e : Nat} (ht : qh P t = some (m, e)) (hz : Qg P t = some n) (ga : (cs.drop off).take n = va) (hl : va.length = n) (w : World) : (part t cs.toArray off).run P w = .ok (.agg va.toArray) w := by
 have e1 : (cs.toArray.extract off (off + n)) = va.toArray := by
  apply Array.toList_inj.1
  rw [← ga, List.extract_toArray, List.extract_eq_take_drop, Nat.add_sub_cancel_left]
 unfold part
 simp only [Sem.run_bind, qc (show Wy P t = some true from by unfold Wy; rw [wR ht]), Result.andThen, Vy hz, if_true, e1]
 rfl
theorem Jc0  {xs : List Value} {d : Nat} : ∀ {fs : List Field} {b : Bool}, EqF P xs ys fs b → (Op.eqFields (d + 2) xs.toArray ys.toArray fs).run P w = .ok b w := by
 intro fs b h
 induction h with
 | nil => simp [Op.eqFields]
 | @scal f fs a b r hn he ga gb ha hb h ih =>
  have hn' : f.name ≠ "_" := by intro e; rw [e] at hn; simp at hn
  simp only [Op.eqFields, Sem.run_ite, if_pos hn', Sem.run_bind, jk he (show xs.toArray[f.offset]? = some a from by rw [List.getElem?_toArray, ← Xw]; exact ga), jk he (show ys.toArray[f.offset]? = some b from by rw [List.getElem?_toArray, ← Xw]; exact gb), Result.andThen, Jb5 ha hb]
  cases hab : eqS a b
  ·simp
  ·simpa using ih
 | @arr f fs n e va vb r hn ht hz he hs ga gb hla hlb h1 h2 h ih =>
  have hn' : f.name ≠ "_" := by intro e; rw [e] at hn; simp at hn
  simp only [Op.eqFields, Sem.run_ite, if_pos hn', Sem.run_bind, Jat ht hz ga hla, Jat ht hz gb hlb, Result.andThen, vo ht he hs hla hlb h1 h2]
  cases hab : QM va vb
  ·simp
  ·simpa using ih
section
variable {c : Cx} {l : KQ} {L : Jx} {X : XP} {d : List Deferred}
variable {i : Nat} {t : TypeId} {ps : String} {af : Array Edge} {gd : Option (Nat × Bool)} {ty t2 : TypeId}
theorem Jxm  {xs : List Value} (hx : Kx l x = some (.agg xs.toArray)) (hy : Kx l y = some (.agg ys.toArray)) (ht : c.P.underlying t = some (.struct (c.P.fieldsOf t))) (hp : c.P.stoodInHeld t = false) (hgt : c.P.eqGuardType c.P.depth t = false) (hE : EqF c.P xs ys (c.P.fieldsOf t).toList b) :
  JM c d l L X ⟨some i, .binOp .neq t x y t2, ty, ps, af, gd⟩ (.bool (!b)) := fun a' w hf _ => by
 have hr := run_equalIn_struct (P := c.P) w 9999 t xs.toArray ys.toArray ht hp
 rw [Jc0 hE] at hr
 have h0 := run_neq_struct (P := c.P) w t xs.toArray ys.toArray
 rw [hr] at h0
 simp only [execOp]
 rw [hf.eval hx, hf.eval hy]
 simp only [Sem.run_bind, run_eqGuard_agg w .neq t x y _ _ hgt, Result.andThen, h0]
 rfl
end
theorem eqU (a b : Nat) : eqS (uV a) (uV b) = decide (a = b) := by
 show ((a : Int) == (b : Int)) = _
 by_cases h : a = b
 ·subst h; simp
 ·have : ¬ (a : Int) = b := by omega
  simp [h, this]
theorem eqW (x y : W4) : QM [uV x.a, uV x.b, uV x.c, uV x.d] [uV y.a, uV y.b, uV y.c, uV y.d] = decide (x = y) := by
 simp only [QM, eqU]
 obtain ⟨a, b, c, d⟩ := x
 obtain ⟨a', b', c', d'⟩ := y
 by_cases h1 : a = a' <;> by_cases h2 : b = b' <;> by_cases h3 : c = c' <;> by_cases h4 : d = d' <;> simp [h1, h2, h3, h4]
theorem wo {f : FuncId} {nx : ι → List Value → Jx → ι → Prop} (hf : P.funcs[f]? = some fn) (hb : fn.body = some code) (hlen : Nat.ble (caps.length + 1) fn.ntmps = true)
  (h : ∀ (q : Nat) (xids : List Nat) (w2 : World) (XI : ι → XP) (XF : XP),
   (∀ i v B i', nx i v B i' → ∀ xs w, (∀ k ∈ xs, k < w.heap.size ∧ (k ∈ xids ∨ w2.heap.size ≤ k)) → Keep ([] ++ xids) w2 w → wG xs (XI i) w → Has B w → (∀ p ∈ B, p.1 ∉ xs ∧ p.1 ∉ xids) → YS P q v.toArray xs w (XI i') XF) →
   HC ⟨P, none, w2, [], xids, Rl, fn.ntmps⟩ [] (Wj 0 (.func (.yield q) #[] #[] :: caps)) [] (XI p0) code
    (bodyPostM (FW none) 0 P fn (fun e w' => (∃ v, e = .returned v) ∧ Keep ([] ++ xids) w2 w' ∧ ((∃ i xs, fin i ∧ XI i xs w') ∨ ∃ xs, XF xs w')))) : Jkf P f caps Rl p0 nx fin :=
 fun q xids w2 XI XF hR hlt h0 hY =>
  QR ⟨P, none, w2, [], xids, Rl, fn.ntmps⟩ hf hb rfl rfl rfl hlen
   ⟨Keep.refl _ _, by simp, by simp, fun p hp => ⟨by simp, (hR p hp).1, (hR p hp).2⟩, hlt, xids, fun k hk => ⟨.inl hk, hlt k hk, by simp⟩, h0⟩ (h q xids w2 XI XF hY)
section
variable {c : Cx} {d : List Deferred} {l : KQ} {E : Jx} {X : XP} {S : Jx} {ops : Array Oper} {tb : jX} {rest : List Nat} {T : Jx → Act → Prop} {k i : Nat}
theorem JZ
  (hk : X7 ops.toList k = some ⟨some i, .call ⟨.value f, args, at_⟩, ty, ps, af, gd⟩) (hg : Kz l ops ⟨some i, .call ⟨.value f, args, at_⟩, ty, ps, af, gd⟩ = some true) (hi : Nat.ble (i + 1) c.n = true) (hA : tb k = .grow (KD x0 V LL)) (hca : KM l f args = some (g, vs)) (eg : Enters c.P g)
  (hp : PureT c.P g vs.toArray V [] LL Rl) (hR : ∀ p ∈ Rl, p ∈ S ∨ p ∈ c.R) (h : ∀ x, HB c d ((i, V x) :: l) (LL x ++ E) X S ops tb rest T) : HB c d l E X S ops tb (k :: rest) T :=
 Jcm (e := KD x0 V LL) hk hg rfl hi hA (fun E' hE a w hf hs => Xj hf hca eg ((hp.run w (fun p hp => by cases hp) (fun p hp => (hR p hp).elim (fun h => (hs.own _ (hE p h)).2.2) hs.readR) List.Pairwise.nil (fun p _ q hq => by cases hq)).mono fun _ _ ⟨x, he, hk, h1, h2⟩ => ⟨V x, he, x, rfl, hk, (fun p hp => ⟨((h1 p hp).1).elim (fun h => by cases h) id, (h1 p hp).2⟩), h2⟩)) h
end
theorem yr {l : KQ} {L : Jx} (hp : L.Perm L') (h : HC c d l L' X code Q) : HC c d l L X code Q := fun a w hf hs => h a w hf (hs.perm hp)
theorem QX (A B C : List α) : (A ++ (B ++ C)).Perm (B ++ (A ++ C)) := by
 rw [← List.append_assoc, ← List.append_assoc]
 exact List.perm_append_comm.append_right C
theorem zu {a : AcL} (ha : a.In R) (k v : BS) : Nonempty (AcRes R (VP a.er k v)) := by
 by_cases h : (VP a.er k v).2 = 0
 ·obtain ⟨h1, h2, h3, h4, h5⟩ := Jrj h
  rw [h5]
  have hw : (KK a.slots k v).length ≤ 16 := h4
  exact ⟨⟨⟨a.addr, a.nonce, a.bal, a.code, KK a.slots k v, some (⟨0, 0, none⟩, (KK a.slots k v).length)⟩, 0, [(0, .cells (Jrf (KK a.slots k v)).toArray 0 (0, 0))], Zk ha h2 h3 m5 ⟨Nat.le_refl _, fun _ => ⟨rfl, _, 0, (0, 0), List.mem_cons_self, by simp⟩⟩, rfl⟩⟩
 ·have e : (VP a.er k v) = (a.er, (VP a.er k v).2) := by
   unfold VP at h ⊢
   split
   ·rfl
   ·rename_i h1
    rw [if_neg h1] at h
    split
    ·rfl
    ·rename_i h2
     rw [if_neg h2] at h
     split
     ·rfl
     ·rename_i h3
      rw [if_neg h3] at h
      exact absurd O h
  exact ⟨⟨a, (VP a.er k v).2, [], ha, e.symm⟩⟩
structure AcSt (R : Jx) : Type where
  a : AcL
  L : Jx
  ok : a.In (L ++ R)
structure StSt (R : Jx) : Type where
  s : StL
  L : Jx
  ok : s.In (L ++ R)
def AcSt.next {R : Jx} (s : AcSt R) {e : AcE × Int} (x : AcRes (s.L ++ R) e) : AcSt R := ⟨x.a, x.L ++ s.L, by rw [List.append_assoc]; exact x.ok⟩
def StSt.next {R : Jx} (s : StSt R) {L' : Jx} {e : List AcE × Int} (x : StRes (L' ++ (s.L ++ R)) e) : StSt R := ⟨x.s, x.L ++ (L' ++ s.L), by rw [List.append_assoc, List.append_assoc]; exact x.ok⟩
theorem qD (a : AcE) (x : BS × BS) (l : List (BS × BS)) : Q3 a (x :: l) = if (VP a x.1 x.2).2 ≠ 0 then VP a x.1 x.2 else Q3 (VP a x.1 x.2).1 l := rfl
theorem map_drop (f : Nat → α) (h : i < 7) : (tab.map f).drop i = f i :: (tab.map f).drop (i + 1) := by
 have : i = 0 ∨ i = 1 ∨ i = 2 ∨ i = 3 ∨ i = 4 ∨ i = 5 ∨ i = 6 := by omega
 rcases this with rfl | rfl | rfl | rfl | rfl | rfl | rfl <;> rfl
theorem zv {a : AcE} {k v : BS} (h : (VP a k v).2 ≠ 0) : VP a k v = (a, (VP a k v).2) := by
 unfold VP at h ⊢
 split
 ·rfl
 ·rename_i h1
  rw [if_neg h1] at h
  split
  ·rfl
  ·rename_i h2
   rw [if_neg h2] at h
   split
   ·rfl
   ·rename_i h3
    rw [if_neg h3] at h
    exact absurd O h
theorem wp (hi : i < 2) : ([0, 1] : List Int).drop i = (i : Int) :: ([0, 1] : List Int).drop (i + 1) := by
 have : i = 0 ∨ i = 1 := by omega
 rcases this with rfl | rfl <;> rfl
theorem qE (f : Int) (s0 : List AcE) (go : Int → AcE → AcE × Int) (w : Int) (ws : List Int) (t : List AcE) : VK f s0 go (w :: ws) t = if (Qf f w).2 = false then VK f s0 go ws t else
   if (go w (Vi t w)).2 ≠ 0 then (s0, (go w (Vi t w)).2) else if (ZQ t (go w (Vi t w)).1).2 ≠ 0 then (s0, (ZQ t (go w (Vi t w)).1).2) else VK f s0 go ws (ZQ t (go w (Vi t w)).1).1 := rfl
theorem Jc1 (s : StL) (w : Int) : AcL.er { Q5 s (QL w) with addr := QL w } = Vi s.er w := by
 unfold Vi
 rw [← Jk7]
 rfl
theorem Jf0 (w : Int) : (QL w).length ≤ 512 := by
 unfold QL
 split
 ·decide
 ·simp
def z32 : List UInt8 := List.replicate 32 0
def pairUp : List (List UInt8) → List (List UInt8)
 | a :: b :: l => WN (a ++ b) :: pairUp l
 | _ => []
def QA (l : List (List UInt8)) (z : List UInt8) : List (List UInt8) := if l.length % 2 = 1 then l ++ [z] else l
def We : Nat → List (List UInt8) → List UInt8 → List UInt8
 | 0, l, z => l.headD z
 | k + 1, l, z => We k (pairUp (QA l z)) (WN (z ++ z))
def qF : Nat → List (List UInt8) → List UInt8
 | 0, l => l.headD []
 | k + 1, l => qF k (pairUp l)
theorem Wl : ∀ l : List (List UInt8), (pairUp l).length = l.length / 2
 | [] => by simp [pairUp]
 | [_] => by simp [pairUp]
 | a :: b :: l => by rw [pairUp, List.length_cons, Wl l, List.length_cons, List.length_cons]; omega
theorem zw : ∀ {l m : List (List UInt8)}, l.length % 2 = 0 → pairUp (l ++ m) = pairUp l ++ pairUp m
 | [], m, _ => rfl
 | [_], _, h => by simp at h
 | a :: b :: l, m, h => by
  have h2 : l.length % 2 = 0 := by simp only [List.length_cons] at h; omega
  rw [List.cons_append, List.cons_append, pairUp, pairUp, zw h2, List.cons_append]
theorem zx (z : List UInt8) : ∀ m : Nat, pairUp (List.replicate (2 * m) z) = List.replicate m (WN (z ++ z))
 | 0 => rfl
 | m + 1 => by rw [show 2 * (m + 1) = 2 * m + 1 + 1 by omega, List.replicate_succ, List.replicate_succ, pairUp, zx z m, List.replicate_succ]
theorem XZ (l : List (List UInt8)) (z : List UInt8) : (QA l z).length = l.length + l.length % 2 := by
 unfold QA
 split
 ·rename_i h; rw [List.length_append, h]; rfl
 ·omega
theorem Jiy {l : List (List UInt8)} {z : List UInt8} {n : Nat} (h : l.length ≤ 2 * n) : QA l z ++ List.replicate (2 * n - (QA l z).length) z = l ++ List.replicate (2 * n - l.length) z := by
 rw [XZ]
 unfold QA
 split
 ·rename_i h1
  rw [List.append_assoc, h1]
  congr 1
  rw [show 2 * n - l.length = (2 * n - (l.length + 1)) + 1 by omega, List.replicate_succ]; rfl
 ·rename_i h1
  rw [show l.length % 2 = 0 by omega]; rfl
theorem Jlb : ∀ (k : Nat) {l : List (List UInt8)} (z : List UInt8), l.length ≤ 2 ^ k → We k l z = qF k (l ++ List.replicate (2 ^ k - l.length) z)
 | 0, [], z, _ => rfl
 | 0, [a], z, _ => rfl
 | 0, _ :: _ :: _, z, h => by simp at h
 | k + 1, l, z, h => by
  rw [Nat.pow_succ, Nat.mul_comm] at h
  have h2 := XZ l z
  have hp : (QA l z).length % 2 = 0 := by rw [h2]; omega
  rw [We, qF, Nat.pow_succ, Nat.mul_comm, ← Jiy h, zw hp, show 2 * 2 ^ k - (QA l z).length = 2 * (2 ^ k - (QA l z).length / 2) by omega, zx]
  rw [Jlb k (WN (z ++ z)) (by rw [Wl]; omega), Wl]
theorem Zl (l : List (List UInt8)) : ∀ x ∈ pairUp l, x.length = 32 := by
 induction l using pairUp.induct with
 | case1 a b l ih =>
  intro x hx
  rw [pairUp] at hx
  rcases List.mem_cons.1 hx with hx | hx
  ·rw [hx]; exact jo _
  ·exact ih x hx
 | case2 l h =>
  intro x hx
  rw [pairUp.eq_2 l h] at hx
  cases hx
theorem Joh (k : Nat) : ∀ {l : List (List UInt8)}, l.length = 2 ^ k → (∀ x ∈ l, x.length = 32) → (qF k l).length = 32 := by
 induction k with
 | zero =>
  intro l h1 h2
  match l, h1 with
  | [a], _ => exact h2 a List.mem_cons_self
 | succ k ih =>
  intro l h1 _
  rw [Nat.pow_succ, Nat.mul_comm] at h1
  rw [qF]
  exact ih (by rw [Wl, h1]; omega) (Zl l)
def lg (m : Nat) : Nat := if m ≤ 1 then 0 else Nat.log2 (m - 1) + 1
theorem Jf2 (m : Nat) : m ≤ 2 ^ lg m := by
 unfold lg
 split
 ·simpa using ‹m ≤ 1›
 ·have := @Nat.lt_log2_self (m - 1)
  omega
theorem J0p (h : j < lg m) : 2 ^ j < m := by
 unfold lg at h
 split at h
 ·cases h
 ·have h1 : 2 ^ j ≤ 2 ^ Nat.log2 (m - 1) := Nat.pow_le_pow_right m7 m5
  have h2 := Nat.log2_self_le (n := m - 1) m5
  omega
theorem J0q {d : Nat} (h : m ≤ 2 ^ d) : lg m ≤ d := by
 rcases Nat.lt_or_ge d (lg m) with h1 | h1
 ·have := J0p h1; omega
 ·exact h1
def vH (n : Nat) (l : List (List UInt8)) : List (List UInt8) := l ++ List.replicate (n - l.length) z32
def QY (l : List (List UInt8)) (m : Nat) : List UInt8 := qF (lg m) (vH (2 ^ lg m) l)
theorem qG {l : List (List UInt8)} (h : l.length ≤ m) : We (lg m) l z32 = QY l m := Jlb _ _ (Nat.le_trans h (Jf2 m))
theorem zy {n : Nat} {l : List (List UInt8)} (h : l.length ≤ n) : (vH n l).length = n := by
 unfold vH; rw [List.length_append, List.length_replicate]; omega
theorem Jf3 {n : Nat} {l : List (List UInt8)} (h : ∀ x ∈ l, x.length = 32) : ∀ x ∈ vH n l, x.length = 32 := by
 intro x hx
 rcases List.mem_append.1 hx with hx | hx
 ·exact h x hx
 ·rw [(List.mem_replicate.1 hx).2]; rfl
theorem Vv {l : List (List UInt8)} (h : l.length ≤ m) (h2 : ∀ x ∈ l, x.length = 32) : (QY l m).length = 32 := Joh _ (zy (Nat.le_trans h (Jf2 m))) (Jf3 h2)
section
variable {c : Cx} {l : KQ} {L : Jx} {X : XP} {Q : Exit → Act → World → Prop} {d : List Deferred}
theorem qH (hL : L'.Sublist L) (h : HC c d l L' X code Q) : HC c d l L X code Q := fun a w hf hs => h a w hf (hs.weakL hL)
theorem qI (hL : L'.Sublist L) (h : HQ c d l L' X K) : HQ c d l L X K := fun a w hf hs => h a w hf (hs.weakL hL)
def Jrt {σ : Type} (c : Cx) (DD : σ → List Deferred) (I : σ → Prop) (lI : σ → KQ) (LI : σ → Jx) (XI : σ → XP) (μ : σ → Nat) (s : σ) : Act → World → Prop := fun a w =>
 ∃ s', I s' ∧ μ s' < μ s ∧ Fr c.n (DD s') (lI s') a ∧ St c (LI s') (XI s') w
theorem Jru (DD : σ → List Deferred) (I : σ → Prop) (lI : σ → KQ) (LI : σ → Jx) (XI : σ → XP) (μ : σ → Nat) (s0 : σ) (hd : DD s0 = d) (h0 : I s0) (hl : LookAll l (lI s0)) (hL : (LI s0).Sublist L) (hX : ∀ xs w, X xs w → XI s0 xs w)
  (hr : ∀ s, I s → HC c (DD s) (lI s) (LI s) (XI s) body (Exit.then (Jrt c DD I lI LI XI μ s) Q)) : HC c d l L X (.loop body) Q := fun a w hf hs => by
 have least : ∀ p : Nat → Prop, (∃ m, p m) → ∃ m, p m ∧ ∀ k, p k → m ≤ k := by
  intro p ⟨m, hm⟩
  induction m using Nat.strongRecOn with
  | _ m ih =>
   by_cases hx : ∃ k, k < m ∧ p k
   obtain ⟨k, hk, hp⟩ := hx; exact ih k hk hp
   exact Fc
 let p : Act → World → Nat → Prop := fun a w m => ∃ s, I s ∧ Fr c.n (DD s) (lI s) a ∧ St c (LI s) (XI s) w ∧ μ s = m
 have meas : ∃ f : Act → World → Nat, ∀ a w, (∃ m, p a w m) → p a w (f a w) ∧ ∀ k, p a w k → f a w ≤ k := by
  have h1 : ∀ a w, ∃ m, (∃ m, p a w m) → p a w m ∧ ∀ k, p a w k → m ≤ k := fun a w => by
   by_cases hx : ∃ m, p a w m
   obtain ⟨m, hm⟩ := least _ hx; exact ⟨m, fun _ => hm⟩
   exact ⟨0, fun hy => absurd hy hx⟩
  exact EI
 obtain ⟨f, hfm⟩ := meas
 refine wpIn_loop (fun a w => ∃ m, p a w m) f ⟨μ s0, s0, h0, hd ▸ hf.weak hl.get, (hs.weakL hL).weakX hX, rfl⟩ ?_
 intro a w hp
 obtain ⟨⟨s, h1, h2, h3, h4⟩, _⟩ := hfm a w hp
 refine wpIn_mono (hr s h1 a w h2 h3) ?_
 intro e a' w' hq
 cases e with
 | normal =>
  exact Hm
 | _ => exact hq
theorem Jau {DD : σ → List Deferred} {s : σ} (s' : σ) (hd : DD s' = d) (h1 : I s') (h2 : μ s' < μ s) (h3 : LookAll l (lI s')) (h4 : (LI s').Sublist L) (h5 : ∀ xs w, X xs w → XI s' xs w) :
  HQ c d l L X (Jrt c DD I lI LI XI μ s) := fun _ _ hf hs => ⟨s', h1, h2, hd ▸ hf.weak h3.get, (hs.weakL h4).weakX h5⟩
def Xz (Ds : List Nat) : Jx := Ds.map fun D => (D, .deferred (some []))
theorem zz {fn : Func} {R : Ending → World → Prop} {P : Program} : ∀ (Ds : List Nat) (h : HQ c d l L X (bodyPostM (FW none) 0 P fn R .ret)), HQ c (Ds.map WR ++ d) l (Xz Ds ++ L) X (bodyPostM (FW none) 0 P fn R .ret)
 | [], h => h
 | D :: Ds, h => Qu (k := 0) rfl rfl (qI (List.sublist_cons_self _ _) (zz Ds h))
end
section
variable {c : Cx} {l : KQ} {L : Jx} {X : XP} {Q : Exit → Act → World → Prop} {d : List Deferred}
variable {ops : Array Oper} {rest : List Oper} {i : Nat} {v : Value} {t u : TypeId} {ps : String} {af : Array Edge} {gd : Option (Nat × Bool)} {ty : TypeId}
theorem J3s (s : List UInt8) : (bs s).size = s.length := by simp [bs, ByteArray.size]
theorem wq (s : List UInt8) : Lib.strCells (bs s) = s.map bV := rfl
theorem Jiz {s s2 : List UInt8}
  (hp : L.Perm (JE e (s.map bV) row ++ L0)) (hg : Kz l ops ⟨some i, .call ⟨.builtin .append, #[x, y], #[t, u]⟩, ty, ps, af, gd⟩ = some true) (hi : Nat.ble (i + 1) c.n = true)
  (hx : Kx l x = some (J9 s.length row)) (hy : Kx l y = some (.string (bs s2))) (ht : KH c.P t = some e) (hu : yJ c.P u = true) (hz : QI c.P e = some (.int .u8 0)) (hs : Qg c.P e = some 1) (hb : Jb0 c.P e = some 1)
  (ho : rowOk 1 s.length (s.map bV) row) (ho2 : s = [] → row = none) (hlen : s.length + s2.length ≤ 140737488355328)
  (h : ∀ row', rowOk 1 (s ++ s2).length ((s ++ s2).map bV) row' → (s ++ s2 = [] → row' = none) → HL c d ((i, J9 (s ++ s2).length row') :: l) (JE e ((s ++ s2).map bV) row' ++ L0) X ops rest Q) :
  HL c d l L X ops (⟨some i, .call ⟨.builtin .append, #[x, y], #[t, u]⟩, ty, ps, af, gd⟩ :: rest) Q := by
 obtain ⟨inf, hinf, hz', hs', hb'⟩ := wU hz hs hb
 refine Kv hp ?_
 refine Wi (α := { r' : QC // rowOk 1 (s ++ s2).length ((s ++ s2).map bV) r' ∧ (s ++ s2 = [] → r' = none) }) (V := fun p => J9 (s ++ s2).length p.1) (L' := fun p => JE e ((s ++ s2).map bV) p.1 ++ L0) (X' := fun _ => X) hg O O hi (fun a w hf hst => ?_) (fun p => h p.1 p.2.1 p.2.2)
 have exec : ∀ r w', (Builtin.append_ #[t, u] ty #[J9 s.length row, .string (bs s2)]).run c.P w = .ok r w' →
   (execOp a.eval ⟨some i, .call ⟨.builtin .append, #[x, y], #[t, u]⟩, ty, ps, af, gd⟩).run c.P w = .ok (.value r) w' := fun r w' hr => by
  have ex := hf.eval hx
  have ey := hf.eval hy
  simp [execOp, resolve, Sem.run_bind, ex, ey, Result.andThen, invoke, builtin, hr]
 have hsz := J3s s2
 have hsl : (s ++ s2).length = s.length + s2.length := List.length_append
 have hml : ((s ++ s2).map bV).length = s.length + s2.length := by rw [List.length_map, hsl]
 have hz1 : (Value.int IntKind.u8 0).cells.size = 1 := rfl
 have zlen : ∀ n, (Builtin.zeroCells (Value.int IntKind.u8 0).cells n).toList.length = n := fun n => by rw [Array.length_toList, size_zeroCells, hz1, Nat.mul_one]
 cases row with
 | none =>
  obtain ⟨h1, h2⟩ := ho
  have hs0 : s = [] := List.eq_nil_of_length_eq_zero h1
  subst hs0
  cases s2 with
  | nil =>
   refine ⟨⟨none, ⟨rfl, rfl⟩, fun _ => rfl⟩, w, exec _ _ ?_, hst⟩
   have hf2 := Lib.run_firstCells_string (P := c.P) w 1 (bs [])
   have h0 : (bs []).size = 0 := rfl
   rw [h0] at hf2
   simp [Builtin.append_, J9, run_underlying (Ky ht), run_underlying (Vr hu), sizeOf, typeInfo, hinf, hs', Builtin.lenOf, h0, hf2]
  | cons b s2 =>
   have hr := run_append_nil_string (P := c.P) w t u ty e inf (.int .u8 0) (Ky ht) (Vr hu) hinf hz' (bs (b :: s2)) (by rw [hsz]; simp) (by rw [hsz]; simp at hlen ⊢; omega) (by rw [hsz, hb']; simp at hlen ⊢; omega)
   rw [hsz] at hr
   have hge := grownCap_ge w (b :: s2).length 0 e
   refine ⟨⟨some (w.heap.size, grownCap w (b :: s2).length 0 e, (Builtin.zeroCells (Value.int IntKind.u8 0).cells (grownCap w (b :: s2).length 0 e - (b :: s2).length)).toList), ⟨?_, ?_⟩, fun h0 => by simp at h0⟩, _, exec _ _ hr, ?_⟩
   ·simp
   ·rw [zlen]; simp only [List.nil_append]; omega
   ·have e1 : ((bs (b :: s2)).data.map (fun b => Value.int .u8 b.toNat) ++ Builtin.zeroCells (Value.int IntKind.u8 0).cells (grownCap w (b :: s2).length 0 e - (b :: s2).length)) = ((([] ++ (b :: s2)).map bV) ++ (Builtin.zeroCells (Value.int IntKind.u8 0).cells (grownCap w (b :: s2).length 0 e - (b :: s2).length)).toList).toArray := by
     apply Array.toList_inj.1; simp [bs, bV]
    rw [e1]
    exact hst.drew.alloc _
 | some q =>
  obtain ⟨r, cap, sp⟩ := q
  obtain ⟨h1, h2⟩ := ho
  have hget : w.heap[r]? = some (.cells (s.map bV ++ sp).toArray e (0, 0)) := hst.get (k := 0) rfl
  have hne : s ++ s2 ≠ [] := fun h0 => by have := ho2 (List.append_eq_nil_iff.1 h0).1; cases this
  by_cases hroom : s.length + s2.length ≤ cap
  ·have hr := Lib.run_append_room_string (P := c.P) w t u ty e inf (Ky ht) (Vr hu) hinf hs' r s.length cap _ hget (bs s2) (by rw [hsz]; exact hroom) (by rw [hsz]; simp only [List.size_toArray, List.length_append, List.length_map]; omega)
   rw [hsz, wq] at hr
   have e1 : ((s.map bV ++ sp).toArray.toList.take s.length ++ s2.map bV ++ (s.map bV ++ sp).toArray.toList.drop (s.length + s2.length)) = (s ++ s2).map bV ++ sp.drop s2.length := by
    simp only [List.toList_toArray]
    rw [List.take_left' ml, List.map_append, ← List.drop_drop, List.drop_left' ml]
   rw [e1] at hr
   have hV : J9 (s ++ s2).length (some (r, cap, sp.drop s2.length)) = .slice (some ⟨r, 0, none⟩) (s.length + s2.length) cap := by rw [J9, hsl]
   refine ⟨⟨some (r, cap, sp.drop s2.length), ⟨?_, ?_⟩, fun h0 => absurd h0 hne⟩, _, exec _ _ (hr.trans (congrArg (fun v => Result.ok v _) hV.symm)), ?_⟩
   ·rw [hml, hsl]; omega
   ·rw [List.length_drop, hsl]; omega
   ·exact hst.set (k := 0) O (Keep.setRow r _) (setRow_heap _ _ _ _ _ _ hget)
  ·have holds : ∀ (j : Nat) (x : Value), (s.map bV)[j]? = some x → w.cell? ((⟨r, 0, none⟩ : Addr).add j) = some x := XM hget (n := s.length) ml
   have hr := Lib.run_append_grow_string (P := c.P) w t u ty e inf (.int .u8 0) (Ky ht) (Vr hu) hinf hz' ⟨r, 0, none⟩ s.length cap (s.map bV) (by rw [hs']; simp) holds (bs s2) (by rw [hsz]; omega) (by rw [hsz]; omega) (by rw [hsz, hb']; exact growslice_fits m5 m5)
   rw [hsz, wq] at hr
   have hge := grownCap_ge w (s.length + s2.length) cap e
   refine ⟨⟨some (w.heap.size, grownCap w (s.length + s2.length) cap e, (Builtin.zeroCells (Value.int IntKind.u8 0).cells (grownCap w (s.length + s2.length) cap e - (s.length + s2.length))).toList), ⟨?_, ?_⟩, fun h0 => absurd h0 hne⟩, _, exec _ _ (hr.trans (congrArg (fun v => Result.ok v _) (show _ = J9 (s ++ s2).length (some (w.heap.size, grownCap w (s.length + s2.length) cap e, (Builtin.zeroCells (Value.int IntKind.u8 0).cells (grownCap w (s.length + s2.length) cap e - (s.length + s2.length))).toList)) from by rw [J9, hsl]))), ?_⟩
   ·rw [hml, hsl]; omega
   ·rw [zlen, hsl]; omega
   ·have e1 : ((s.map bV).toArray ++ (s2.map bV).toArray ++ Builtin.zeroCells (Value.int IntKind.u8 0).cells (grownCap w (s.length + s2.length) cap e - (s.length + s2.length))) = ((s ++ s2).map bV ++ (Builtin.zeroCells (Value.int IntKind.u8 0).cells (grownCap w (s.length + s2.length) cap e - (s.length + s2.length))).toList).toArray := by
     apply Array.toList_inj.1; simp
    rw [e1]
    exact (hst.drew.weakL (List.sublist_cons_self _ _)).alloc _
theorem Keep.freeze (r n : Nat) : Keep [r] w (w.freeze ⟨r, 0, none⟩ n) := by
 unfold World.freeze
 split
 ·exact Keep.refl _ _
 ·exact ⟨rfl, rfl, rfl, by simp, fun k _ hn => by
   simp only [Array.getElem?_modify]
   rw [if_neg (by intro e; exact hn (by simp [e]))]⟩
theorem Jf4 {w : World} {r n : Nat} {cs : Array Value} {e : TypeId} {fr : Nat × Nat} (h : w.heap[r]? = some (.cells cs e fr)) : ∃ fr', (w.freeze ⟨r, 0, none⟩ n).heap[r]? = some (.cells cs e fr') := by
 unfold World.freeze
 split
 ·exact ⟨fr, h⟩
 ·obtain ⟨lo, hi⟩ := fr
  obtain ⟨hlt, he⟩ := Array.getElem?_eq_some_iff.1 h
  refine ⟨if lo == hi then (0, 0 + n) else (min lo 0, max hi (0 + n)), ?_⟩
  show (w.heap.modify r _)[r]? = _
  rw [Array.getElem?_eq_getElem (by rw [Array.size_modify]; exact hlt), Array.getElem_modify_self, he]
def Jf5 : QC → Value
 | none => .pointer none
 | some (r, _, _) => .pointer (some ⟨r, 0, none⟩)
theorem Jc2 {n : Nat} (hx : Kx l x = some (J9 n row)) (hc : ∀ r cap sp, row = some (r, cap, sp) → cap ≠ 0) :
  JM c d l L X ⟨some i, .call ⟨.builtin .unsafeSliceData, #[x], #[t]⟩, ty, ps, af, gd⟩ (Jf5 row) := fun a w hf _ => by
 have ex := hf.eval hx
 cases row with
 | none =>
  have hr := Lib.run_unsafeSliceData_nil (P := c.P) w #[t] ty 0 0
  simp only [J9] at ex
  simp [execOp, resolve, Sem.run_bind, ex, Result.andThen, invoke, builtin, hr, Jf5]
 | some q =>
  obtain ⟨r, cap, sp⟩ := q
  have hr := Lib.run_unsafeSliceData_row (P := c.P) w #[t] ty ⟨r, 0, none⟩ n cap (hc r cap sp rfl)
  simp only [J9] at ex
  simp [execOp, resolve, Sem.run_bind, ex, Result.andThen, invoke, builtin, hr, Jf5]
def wt (P : Program) (t : TypeId) : Option TypeId := match P.underlying t with | some (.pointer e) => some e | _ => none
theorem jt (h : wt P t = some e) : P.underlying t = some (.pointer e) := by
 unfold wt at h; split at h <;> simp_all
theorem wJ  {pt it : TypeId} {s : List UInt8}
  (hp : L.Perm (JE e (s.map bV) row ++ L0)) (hg : Kz l ops ⟨some i, .call ⟨.builtin .unsafeString, #[x, y], #[pt, it]⟩, ty, ps, af, gd⟩ = some true) (hi : Nat.ble (i + 1) c.n = true)
  (hx : Kx l x = some (Jf5 row)) (hy : Kx l y = some (.int .i64 (s.length : Int))) (ht : wt c.P pt = some e) (hc : c.P.cellsOf e = 1)
  (ho : rowOk 1 s.length (s.map bV) row) (ho2 : s = [] → row = none) (hlen : s.length ≤ 9223372036854775807)
  (h : HL c d ((i, .string (bs s)) :: l) L0 X ops rest Q) : HL c d l L X ops (⟨some i, .call ⟨.builtin .unsafeString, #[x, y], #[pt, it]⟩, ty, ps, af, gd⟩ :: rest) Q := by
 refine Kv hp ?_
 refine Wi (α := Unit) (V := fun _ => .string (bs s)) (L' := fun _ => L0) (X' := fun _ => X) hg O O hi (fun a w hf hst => ?_) (fun _ => h)
 have exec : ∀ r w', (Builtin.unsafeString_ #[pt, it] ty #[Jf5 row, .int .i64 s.length]).run c.P w = .ok r w' →
   (execOp a.eval ⟨some i, .call ⟨.builtin .unsafeString, #[x, y], #[pt, it]⟩, ty, ps, af, gd⟩).run c.P w = .ok (.value r) w' := fun r w' hr => by
  have ex := hf.eval hx
  have ey := hf.eval hy
  simp [execOp, resolve, Sem.run_bind, ex, ey, Result.andThen, invoke, builtin, hr]
 cases row with
 | none =>
  obtain ⟨h1, _⟩ := ho
  have hs0 : s = [] := List.eq_nil_of_length_eq_zero h1
  subst hs0
  exact ⟨(), w, exec _ _ (Lib.run_unsafeString_none (P := c.P) w pt it ty none), hst⟩
 | some q =>
  obtain ⟨r, cap, sp⟩ := q
  obtain ⟨h1, h2⟩ := ho
  have hget : w.heap[r]? = some (.cells (s.map bV ++ sp).toArray e (0, 0)) := hst.get (k := 0) rfl
  have hne : s ≠ [] := fun h0 => by have := ho2 h0; cases this
  have hcell : ∀ (j : Nat) (x : UInt8), s[j]? = some x → w.cell? ((⟨r, 0, none⟩ : Addr).add j) = some (.int .u8 x.toNat) := fun j x hx => by
   rw [qk, VI hget]
   rw [Nat.zero_add, ← Array.getElem?_toList]
   simp only [List.toList_toArray]
   rw [List.getElem?_append_left (by rw [List.length_map]; exact (List.getElem?_eq_some_iff.1 hx).1), List.getElem?_map, hx]; rfl
  have hr := Lib.run_unsafeString_row (P := c.P) w pt it ty e (jt ht) hc r (s.map bV ++ sp).length (by simp [World.shape?, hget]) s hne ml hlen hcell
  obtain ⟨fr', hfr⟩ := Jf4 (n := s.length) hget
  exact ⟨(), _, exec _ _ hr, (hst.set (k := 0) O (Keep.freeze r s.length) hfr).weakL (List.sublist_cons_self _ _)⟩
end
section
variable {c : Cx} {l : KQ} {L : Jx} {X : XP} {d : List Deferred}
variable {i : Nat} {v : Value} {t u : TypeId} {ps : String} {af : Array Edge} {gd : Option (Nat × Bool)} {ty t2 : TypeId}
def Jxn (P : Program) (t : TypeId) : Bool := match P.underlying t with | some .unsafePointer => true | _ => false
theorem Jlc (h : Jxn P t = true) : P.underlying t = some .unsafePointer := by
 unfold Jxn at h; split at h <;> simp_all
theorem qJ (h : Qg P t = some sz) : ∃ inf, P.info? t = some inf ∧ inf.size = sz := by
 unfold Qg at h
 cases hq : P.info? t with
 | none => simp [hq] at h
 | some inf => simp only [hq, Option.some.injEq] at h; exact ⟨inf, rfl, h⟩
theorem Ji0  {e : Nat} {dst : TypeId} {cs : Array Value} (hx : Kx l x = some (.pointer (some ⟨r, 0, none⟩))) (hk : known c L r (.cells cs e fr)) (hs : wt c.P src = some tt) (hd : Jxn c.P dst = true) (ht : Qg c.P tt = some sz) (h0 : 0 < sz) (hc : 0 < cs.size) :
  JM c d l L X ⟨some i, .convert src dst x, ty, ps, af, gd⟩ (.pointer (some ⟨r, 0, none⟩)) := fun a w hf hst => by
 obtain ⟨inf, hinf, hsz⟩ := qJ ht
 have h := hst.known hk
 simp only [execOp]
 rw [hf.eval hx]
 have := Lib.run_to_unsafe (P := c.P) w (e := e) (cells := cs.size) ⟨r, 0, none⟩ (jt hs) (Jlc hd) hinf m5 (by simp [World.shape?, h]) hc
 simp only [Sem.run_bind, this]; rfl
theorem Jc3  {e : Nat} {dst : TypeId} {cs : Array Value} (hx : Kx l x = some (.pointer (some ⟨r, 0, none⟩))) (hk : known c L r (.cells cs e fr)) (hs : Jxn c.P src = true) (hd : wt c.P dst = some tt) (ht : Qg c.P tt = some sz) (hl : liesAt c.P c.P.depth e (cs.size / c.P.cellsOf e) 0 tt 1 = true) :
  JM c d l L X ⟨some i, .convert src dst x, ty, ps, af, gd⟩ (.pointer (some ⟨r, 0, none⟩)) := fun a w hf hst => by
 obtain ⟨inf, hinf, hsz⟩ := qJ ht
 have h := hst.known hk
 simp only [execOp]
 rw [hf.eval hx]
 have := Lib.run_from_unsafe (P := c.P) w (e := e) (cells := cs.size) ⟨r, 0, none⟩ (Jlc hs) (jt hd) hinf (by simp [World.shape?, h]) hl
 simp only [Sem.run_bind, this]; rfl
theorem Ji1 (hf : Kx l f = some (.func (.func g) #[] #[])) (hx : Kx l x = some v)
  (hF : c.P.funcs[g]? = some fn) (hn1 : (fn.name == "runtime.NumGoroutine") = false) (hb : fn.body.isNone = true) (hn2 : Extern.findNext fn = none) (he : Extern.find fn = some Extern.AbiNoEscape.same) :
  JM c d l L X ⟨some i, .call ⟨.value f, #[x], at_⟩, ty, ps, af, gd⟩ v := fun a w hfr hst => by
 have ef := hfr.eval hf
 have ex := hfr.eval hx
 have hcf : (callFunc g #[v]).run c.P w = .ok (.value v) w := by
  rw [run_callFunc_extern hF hn1 hb hn2 he, Lib.run_noEscape]; rfl
 simp [execOp, resolve, Sem.run_bind, ef, ex, Deferred.ofValue, Result.andThen, invoke, hcf]
theorem Jrv {q : Addr} (hx : Kx l x = some (.pointer (some q))) (hy : Kx l y = some (.pointer (some q))) (ht : wt c.P t = some tt) (hs : Qg c.P tt = some sz) :
  JM c d l L X ⟨some i, .binOp .neq t x y t2, ty, ps, af, gd⟩ (.bool false) := fun a w hf _ => by
 obtain ⟨inf, hinf, hsz⟩ := qJ hs
 simp only [execOp]
 rw [hf.eval hx, hf.eval hy]
 have := Lib.run_neq_ptr_same (P := c.P) w q (jt ht) hinf
 simp [eqGuard, Sem.run_bind, this, Result.andThen]
theorem Jrw (hx : Kx l x = some (.pointer none)) (hy : Kx l y = some (.pointer none)) (ht : wt c.P t = some tt) (hs : Qg c.P tt = some sz) :
  JM c d l L X ⟨some i, .binOp .eql t x y t2, ty, ps, af, gd⟩ (.bool true) := fun a w hf _ => by
 obtain ⟨inf, hinf, hsz⟩ := qJ hs
 have h : ∀ d : Nat, (Op.equalIn (d + 1) t (.pointer none) (.pointer none)).run c.P w = .ok true w := fun d => by
  simp [Op.equalIn, run_underlying (jt ht), sizeOf, typeInfo, hinf]
 simp only [execOp]
 rw [hf.eval hx, hf.eval hy]
 simp only [binOp]
 simp [eqGuard, Op.equal, Op.maxDepth, h 9999, Sem.run_bind, Result.andThen]
theorem Jrx {q : Addr} (hx : Kx l x = some (.pointer (some q))) (hy : Kx l y = some (.pointer none)) (ht : wt c.P t = some tt) (hs : Qg c.P tt = some sz) :
  JM c d l L X ⟨some i, .binOp .eql t x y t2, ty, ps, af, gd⟩ (.bool false) := fun a w hf _ => by
 obtain ⟨inf, hinf, hsz⟩ := qJ hs
 have h : ∀ d : Nat, (Op.equalIn (d + 1) t (.pointer (some q)) (.pointer none)).run c.P w = .ok false w := fun d => by
  simp [Op.equalIn, run_underlying (jt ht), sizeOf, typeInfo, hinf]
 simp only [execOp]
 rw [hf.eval hx, hf.eval hy]
 simp only [binOp]
 simp [eqGuard, Op.equal, Op.maxDepth, h 9999, Sem.run_bind, Result.andThen]
end
def J5o (v : Value) : List PanicEntry := [{ v, recovered := false }]
structure PureX {α : Type} (P : Program) (f : FuncId) (args : Array Value) (ok : Prop) (bad : Value → Prop) (V : α → Value) (LL : α → Jx) (Rl : Jx) : Prop where
  run : ∀ w, Has Rl w → Calls P f args w fun e w' => (ok ∧ ∃ x, e = .returned (V x) ∧ Keep [] w w' ∧ (∀ p ∈ LL x, w.heap.size ≤ p.1 ∧ w'.heap[p.1]? = some p.2) ∧ (LL x).Pairwise fun p q => p.1 ≠ q.1) ∨ (∃ v, bad v ∧ e = .panicked (J5o v) ∧ Keep [] w w')
theorem PureX.mono {f : FuncId} {args : Array Value} {ok ok' : Prop} {bad bad' : Value → Prop} (h : PureX P f args ok bad V LL Rl) (h1 : ok → ok') (h2 : ∀ v, bad v → bad' v) : PureX P f args ok' bad' V LL Rl :=
 ⟨fun w hR => (h.run w hR).mono fun _ _ h => h.imp (fun ⟨a, b⟩ => ⟨h1 a, b⟩) (fun ⟨v, a, b⟩ => ⟨v, h2 v a, b⟩)⟩
theorem PureX.map {β : Type} {f : FuncId} {args : Array Value} {ok : Prop} {bad : Value → Prop} {V' : β → Value} {LL' : β → Jx} (h : PureX P f args ok bad V LL Rl) (g : α → β) (hv : ∀ x, V x = V' (g x)) (hl : ∀ x, (LL' (g x)).Sublist (LL x)) : PureX P f args ok bad V' LL' Rl :=
 ⟨fun w hR => (h.run w hR).mono fun _ _ h => h.imp (fun ⟨a, x, he, hk, h1, h2⟩ => ⟨a, g x, he.trans (by rw [hv]), hk, fun p hp => h1 p ((hl x).subset hp), h2.sublist (hl x)⟩) id⟩
theorem PureX.toT {f : FuncId} {args : Array Value} {ok : Prop} {bad : Value → Prop} (h : PureX P f args ok bad V LL Rl) (hb : ∀ v, ¬ bad v) : PureT P f args V [] LL Rl :=
 ⟨fun w _ hR _ _ => (h.run w hR).mono fun _ _ h => h.elim (fun ⟨_, x, he, hk, h1, h2⟩ => ⟨x, he, hk, fun p hp => ⟨.inr (h1 p hp).1, (h1 p hp).2⟩, h2⟩) (fun ⟨v, hv, _⟩ => absurd hv (hb v))⟩
end Go.SL
