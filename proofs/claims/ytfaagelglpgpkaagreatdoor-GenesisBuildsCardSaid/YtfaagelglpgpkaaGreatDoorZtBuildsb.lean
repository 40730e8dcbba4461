import Derived.Test.YtfaagelglpgpkaaGreatDoorZtBuildsa
import Derived.ProofKit
import Derived.OpenShut
import Derived.ShutString
import Derived.ChangeOld
import Derived.Below
import Derived.Laws.Small
import Derived.Laws.IdiomStrings
import Derived.Carry
import Derived.ChangeArms
import Derived.Lib.Overlaps
import Derived.Lib.AppendZerosOnto
import Derived.Laws.StructEq
import Derived.Lib.AppendStr
import Derived.Lib.UnsafeStr
import Derived.Lib.Builder
import Derived.RecoverIn
set_option maxRecDepth 100000
namespace Go.SL
set_option linter.all false
open Go Go.RowKit Go.Shelf
inductive Fm where
  | sq (y : Code)
  | bl (id : Nat)
  | kk (K : Act → World → Prop)
def QF (c : Cx) : List Fm → (Exit → Act → World → Prop) → Exit → Act → World → Prop
 | [], Q => Q
 | .sq y :: fs, Q => Exit.then (y.wpIn (FW c.ro) 0 c.P (QF c fs Q)) (QF c fs Q)
 | .bl id :: fs, Q => Exit.inBlock id (QF c fs Q)
 | .kk K :: fs, Q => Exit.then K (QF c fs Q)
inductive Pt where
  | cd (x : Code)
  | ex (e : Exit)
  | op (ops : Array Oper) (rest : List Oper)
def PtH (c : Cx) (d : List Deferred) (l : Kw) (L : Jm) (X : XP) (fs : List Fm) (Q : Exit → Act → World → Prop) : Pt → Prop
 | .cd x => HC c d l L X x (QF c fs Q)
 | .ex e => HQ c d l L X (QF c fs Q e)
 | .op ops rest => HL c d l L X ops rest (QF c fs Q)
abbrev CtR := Option (Kw × List Fm × Pt × List (Nat × Nat))
def XM (P : Program) (L : Jm) (N : Nat) : Nat → List Nat → Kw → List Fm → Pt → CtR
 | 0, _, l, fs, p => some (l, fs, p, [])
 | n + 1, ks, l, fs, .cd x => match x with
  | .seq x y => XM P L N n ks l (.sq y :: fs) (.cd x)
  | .block id b => XM P L N n ks l (.bl id :: fs) (.cd b)
  | .region _ ops false => XM P L N n ks l fs (.op ops ops.toList)
  | .skip => XM P L N n ks l fs (.ex .normal)
  | .ret => XM P L N n ks l fs (.ex .ret)
  | .exit id => XM P L N n ks l fs (.ex (.exit id))
  | .cond x t e => match Kg l x with
   | some (.bool true) => XM P L N n ks l fs (.cd t)
   | some (.bool false) => XM P L N n ks l fs (.cd e)
   | _ => none
  | _ => none
 | n + 1, ks, l, .sq y :: fs, .ex e => match e with
  | .normal => XM P L N n ks l fs (.cd y)
  | .ret => XM P L N n ks l fs (.ex .ret)
  | .exit j => XM P L N n ks l fs (.ex (.exit j))
  | _ => none
 | n + 1, ks, l, .bl id :: fs, .ex e => match e with
  | .normal => XM P L N n ks l fs (.ex .normal)
  | .ret => XM P L N n ks l fs (.ex .ret)
  | .exit j => match Nat.beq j id with
   | true => XM P L N n ks l fs (.ex .normal)
   | false => XM P L N n ks l fs (.ex (.exit j))
  | _ => none
 | n + 1, ks, l, .kk K :: fs, .ex e => match e with
  | .ret => XM P L N n ks l fs (.ex .ret)
  | .exit j => XM P L N n ks l fs (.ex (.exit j))
  | _ => none
 | _ + 1, _, _, [], .ex _ => none
 | n + 1, ks, l, fs, .op ops [] => XM P L N n ks l fs (.ex .normal)
 | n + 1, ks, l, fs, .op ops (o :: rest) => match yZ P L ops N ks l o with
  | some (i, v, ks', q) => match XM P L N n ks' ((i, v) :: l) fs (.op ops rest) with
   | some (l', fs', p', qs) => some (l', fs', p', q ++ qs)
   | none => none
  | none => none
section
variable {c : Cx} {L : Jm} {X : XP} {Q : Exit → Act → World → Prop} {d : List Deferred}
theorem Js4 {l : Kw} {x y : Code} (h : HC c d l L X x (Exit.then (y.wpIn (FW c.ro) 0 c.P Q) Q)) : HC c d l L X (x.seq y) Q :=
 fun a w hf hs => wpIn_seq (h a w hf hs)
theorem VC : ∀ (n : Nat) {ks : List Nat} {l : Kw} {fs : List Fm} {p : Pt} {l' : Kw} {fs' : List Fm} {p' : Pt} {qs : List (Nat × Nat)},
  XM c.P L c.n n ks l fs p = some (l', fs', p', qs) → (∀ q ∈ qs, q.1 = q.2) → PtH c d l' L X fs' Q p' → PtH c d l L X fs Q p := by
 intro n
 induction n with
 | zero => intro ks l fs p l' fs' p' qs h _ hk; simp only [XM, Option.some.injEq, Prod.mk.injEq] at h; obtain ⟨rfl, rfl, rfl, _⟩ := h; exact hk
 | succ n ih =>
  intro ks l fs p l' fs' p' qs h hq hk
  cases p with
  | cd x =>
   simp only [XM] at h
   split at h
   exact Js4 (ih h hq hk)
   exact Jbt (ih h hq hk)
   rename_i ops; obtain ⟨ops⟩ := ops; exact yU (ih h hq hk)
   exact Jss (ih h hq hk)
   exact Jxe (ih h hq hk)
   exact Jsr (ih h hq hk)
   split at h
   rename_i e; exact Jmo e (ih h hq hk)
   rename_i e; exact Jmp e (ih h hq hk)
   cases h
   cases h
  | ex e =>
   match fs, h with
   | [], h => simp only [XM] at h; cases h
   | .sq y :: fs, h =>
    simp only [XM] at h
    split at h
    have hy := ih (p := .cd y) h hq hk; exact hy
    exact Jbu (ih h hq hk)
    exact Jbv (ih h hq hk)
    cases h
   | .bl id :: fs, h =>
    simp only [XM] at h
    split at h
    exact Jka (ih h hq hk)
    exact Jkb (ih h hq hk)
    split at h
    rename_i e; have e := Nat.eq_of_beq_eq_true e; subst e; exact Jkc (ih h hq hk)
    rename_i e; exact Je3 e (ih h hq hk)
    cases h
   | .kk K :: fs, h =>
    simp only [XM] at h
    split at h
    exact Jbu (ih h hq hk)
    exact Jbv (ih h hq hk)
    cases h
  | op ops rest =>
   cases rest with
   | nil => simp only [XM] at h; exact Jmn (ih h hq hk)
   | cons o rest =>
    simp only [XM] at h
    split at h
    rename_i i v ks' q e
    split at h
    rename_i e2
    cases h
    exact jp e (fun p hp => hq p (List.mem_append_left _ hp)) (ih (p := .op ops rest) e2 (fun p hp => hq p (List.mem_append_right _ hp)) hk)
    cases h
    ·cases h
variable {l l' : Kw} {fs fs' : List Fm} {qs : List (Nat × Nat)} {x x' : Code} {e e' : Exit} {ops ops' : Array Oper} {rest rest' : List Oper} {K : Act → World → Prop}
theorem Vw (n : Nat) (ks : List Nat) (h : XM c.P L c.n n ks l fs (.cd x) = some (l', fs', .op ops' rest', qs)) (hq : qs.map Prod.fst = qs.map Prod.snd) (k : HL c d l' L X ops' rest' (QF c fs' Q)) : HC c d l L X x (QF c fs Q) := VC n h (YK hq) k
theorem Goc (n : Nat) (ks : List Nat) (h : XM c.P L c.n n ks l fs (.op ops rest) = some (l', fs', .cd x', qs)) (hq : qs.map Prod.fst = qs.map Prod.snd) (k : HC c d l' L X x' (QF c fs' Q)) : HL c d l L X ops rest (QF c fs Q) := VC (p := .op ops rest) n h (YK hq) k
theorem Xf (n : Nat) (ks : List Nat) (h : XM c.P L c.n n ks l fs (.op ops rest) = some (l', fs', .op ops' rest', qs)) (hq : qs.map Prod.fst = qs.map Prod.snd) (k : HL c d l' L X ops' rest' (QF c fs' Q)) : HL c d l L X ops rest (QF c fs Q) := VC (p := .op ops rest) n h (YK hq) k
theorem Goq (n : Nat) (ks : List Nat) (h : XM c.P L c.n n ks l fs (.op ops rest) = some (l', fs', .ex e', qs)) (hq : qs.map Prod.fst = qs.map Prod.snd) (k : HQ c d l' L X (QF c fs' Q e')) : HL c d l L X ops rest (QF c fs Q) := VC (p := .op ops rest) n h (YK hq) k
theorem Gqc (n : Nat) (ks : List Nat) (h : XM c.P L c.n n ks l fs (.ex e) = some (l', fs', .cd x', qs)) (hq : qs.map Prod.fst = qs.map Prod.snd) (k : HC c d l' L X x' (QF c fs' Q)) : HQ c d l L X (QF c fs Q e) := VC (p := .ex e) n h (YK hq) k
theorem Gqq (n : Nat) (ks : List Nat) (h : XM c.P L c.n n ks l fs (.ex e) = some (l', fs', .ex e', qs)) (hq : qs.map Prod.fst = qs.map Prod.snd) (k : HQ c d l' L X (QF c fs' Q e')) : HQ c d l L X (QF c fs Q e) := VC (p := .ex e) n h (YK hq) k
theorem cD {r s p : Prop} (a : r) (b : s) (k : r → s → p := by
 intro za zb
 refine J0 rfl (fun g => ?_) (fun g => ?_) <;> try simp only [ZZ] at g
 ·revert g; exact za
 ·revert g; exact zb) : p := k a b
theorem JD (h : HC c d l L X x (QF c [] Q)) : HC c d l L X x Q := h
theorem inR (h : HC c d l L X x (QF c [.kk K] Q)) : HC c d l L X x (Exit.then K Q) := h
theorem inK (h : HC c d l L X x (QF c (.kk K :: fs) Q)) : HC c d l L X x (Exit.then K (QF c fs Q)) := h
theorem JK (n : Nat) (h : XM c.P L c.n n [] l fs (.cd x) = some (l', fs', .cd x', [])) (k : HC c d l' L X x' (QF c fs' Q)) : HC c d l L X x (QF c fs Q) := VC n h (fun _ h => nomatch h) k
theorem Jq (n : Nat) (h : XM c.P L c.n n [] l fs (.cd x) = some (l', fs', .op ops' rest', [])) (k : HL c d l' L X ops' rest' (QF c fs' Q)) : HC c d l L X x (QF c fs Q) := VC n h (fun _ h => nomatch h) k
theorem Kh (n : Nat) (h : XM c.P L c.n n [] l fs (.cd x) = some (l', fs', .ex e', [])) (k : HQ c d l' L X (QF c fs' Q e')) : HC c d l L X x (QF c fs Q) := VC n h (fun _ h => nomatch h) k
theorem JI (n : Nat) (h : XM c.P L c.n n [] l fs (.op ops rest) = some (l', fs', .cd x', [])) (k : HC c d l' L X x' (QF c fs' Q)) : HL c d l L X ops rest (QF c fs Q) := VC (p := .op ops rest) n h (fun _ h => nomatch h) k
theorem JJ (n : Nat) (h : XM c.P L c.n n [] l fs (.op ops rest) = some (l', fs', .op ops' rest', [])) (k : HL c d l' L X ops' rest' (QF c fs' Q)) : HL c d l L X ops rest (QF c fs Q) := VC (p := .op ops rest) n h (fun _ h => nomatch h) k
theorem Jx (n : Nat) (h : XM c.P L c.n n [] l fs (.op ops rest) = some (l', fs', .ex e', [])) (k : HQ c d l' L X (QF c fs' Q e')) : HL c d l L X ops rest (QF c fs Q) := VC (p := .op ops rest) n h (fun _ h => nomatch h) k
theorem XN (n : Nat) (h : XM c.P L c.n n [] l fs (.ex e) = some (l', fs', .cd x', [])) (k : HC c d l' L X x' (QF c fs' Q)) : HQ c d l L X (QF c fs Q e) := VC (p := .ex e) n h (fun _ h => nomatch h) k
theorem gqo (n : Nat) (h : XM c.P L c.n n [] l fs (.ex e) = some (l', fs', .op ops' rest', [])) (k : HL c d l' L X ops' rest' (QF c fs' Q)) : HQ c d l L X (QF c fs Q e) := VC (p := .ex e) n h (fun _ h => nomatch h) k
theorem ZT (n : Nat) (h : XM c.P L c.n n [] l fs (.ex e) = some (l', fs', .ex e', [])) (k : HQ c d l' L X (QF c fs' Q e')) : HQ c d l L X (QF c fs Q e) := VC (p := .ex e) n h (fun _ h => nomatch h) k
theorem Jy {σ : Type} {body : Code} (I : σ → Prop) (lI : σ → Kw) (LI : σ → Jm) (XI : σ → XP) (μ : σ → Nat) (s0 : σ) (h0 : I s0) (hl : LookAll l (lI s0)) (hL : (LI s0).Sublist L) (hX : ∀ xs w, X xs w → XI s0 xs w)
  (hr : ∀ s, I s → HC c d (lI s) (LI s) (XI s) body (QF c (.kk (Jmv c d I lI LI XI μ s) :: fs) Q)) : HC c d l L X (.loop body) (QF c fs Q) := Jsv I lI LI XI μ s0 h0 hl hL hX hr
end
open Go.RowKit Go.Shelf
open Go.Proofs (Enters enters_of)
def uV (n : Nat) : Value := .int .u64 (n : Int)
def wV (l : List Nat) : Value := .agg (l.map uV).toArray
def WOk (l : List Nat) : Prop := l.length = 4 ∧ ∀ x ∈ l, x < 18446744073709551616
def dg (l : List Nat) (i : Nat) : Nat := l.getD (i / 8) 0 / 2 ^ (i % 8 * 8) % 256
theorem Jhj (l : List Nat) (i : Nat) : dg l i < 256 := Nat.mod_lt _ (by decide)
theorem Qj {l : List Nat} {j : Nat} (h : j < l.length) : (l.map uV)[j]? = some (.int .u64 ((l.getD j 0 : Nat) : Int)) := by
 simp [h, uV, List.getD_eq_getElem?_getD]
theorem WOk.get {l : List Nat} (h : WOk l) (j : Nat) : l.getD j 0 < 18446744073709551616 := by
 by_cases hj : j < l.length
 ·have : l.getD j 0 ∈ l := by simp [List.getD_eq_getElem?_getD, hj]
  exact h.2 _ this
 ·simp [List.getD_eq_getElem?_getD, List.getElem?_eq_none (Nat.le_of_not_lt hj)]
def pw (f : Nat → Nat) (j : Nat) : Nat → Nat
 | 0 => 0
 | m + 1 => pw f j m + f (8 * j + m) * 2 ^ (m * 8)
theorem Jwl {f : Nat → Nat} (hf : ∀ i, f i < 256) (j : Nat) : ∀ m, pw f j m < 2 ^ (m * 8)
 | 0 => by simp [pw]
 | m + 1 => by
  have h1 := Jwl hf j m
  have h2 := hf (8 * j + m)
  have e : 2 ^ ((m + 1) * 8) = 256 * 2 ^ (m * 8) := by rw [Nat.add_mul, Nat.pow_add, Nat.mul_comm]
  rw [e]
  unfold pw
  have h3 : f (8 * j + m) * 2 ^ (m * 8) ≤ 255 * 2 ^ (m * 8) := Nat.mul_le_mul_right _ (by omega)
  omega
def stW (f : Nat → Nat) (i : Nat) : List Nat := [pw f 0 (min 8 i), pw f 1 (min 8 (i - 8)), pw f 2 (min 8 (i - 16)), pw f 3 (min 8 (i - 24))]
theorem Jxk {f : Nat → Nat} (hf : ∀ i, f i < 256) (i : Nat) : WOk (stW f i) := by
 refine ⟨rfl, fun x hx => ?_⟩
 have hb : ∀ j m, m ≤ 8 → pw f j m < 18446744073709551616 := fun j m hm =>
  Nat.lt_of_lt_of_le (Jwl hf j m) (show 2 ^ (m * 8) ≤ 2 ^ 64 from Nat.pow_le_pow_right (by decide) (by omega))
 simp only [stW, List.mem_cons, List.not_mem_nil, or_false] at hx
 rcases hx with rfl | rfl | rfl | rfl <;> exact hb _ _ (Nat.min_le_left _ _)
theorem Jkp {f g : Nat → Nat} (h : ∀ i, i < 32 → f i = g i) : stW f 32 = stW g 32 := by
 have key : ∀ j, j < 4 → ∀ m, m ≤ 8 → pw f j m = pw g j m := by
  intro j hj m
  induction m with
  | zero => intro _; rfl
  | succ m ih =>
   intro hm
   simp only [pw]
   rw [ih (by omega), h (8 * j + m) (by omega)]
 simp only [stW]
 rw [key 0 (by decide) _ (Nat.min_le_left _ _), key 1 (by decide) _ (Nat.min_le_left _ _), key 2 (by decide) _ (Nat.min_le_left _ _), key 3 (by decide) _ (Nat.min_le_left _ _)]
def Yq (l : List Nat) : Nat → List UInt8
 | 0 => []
 | m + 1 => UInt8.ofNat (dg l m) :: Yq l m
theorem Vq (l : List Nat) : ∀ n, (Yq l n).length = n
 | 0 => rfl
 | n + 1 => by simp [Yq, Vq l n]
theorem xD (l : List Nat) : ∀ {n m : Nat}, m < n → (Yq l n)[m]? = some (UInt8.ofNat (dg l (n - 1 - m)))
 | 0, m, h => by omega
 | n + 1, 0, h => by simp [Yq]
 | n + 1, m + 1, h => by
  have := xD l (n := n) (m := m) (by omega)
  simp only [Yq, List.getElem?_cons_succ, this]
  congr 3; omega
theorem Jnc (l : List Nat) {n m : Nat} (h : m < n) : (Yq l n).take (m + 1) = (Yq l n).take m ++ [UInt8.ofNat (dg l (n - 1 - m))] := by
 rw [List.take_add_one, xD l h]; rfl
theorem Js7 {α : Type} (z v : α) (t : List α) (m : Nat) : (List.replicate (m + 1) z ++ t).set m v = List.replicate m z ++ v :: t := by
 induction m with
 | zero => rfl
 | succ m ih => rw [List.replicate_succ, List.cons_append, List.set_cons_succ, ih]; rfl
theorem Jnd {a n : Nat} (h : a < 256) (hn : n ≤ 56) : a * 2 ^ n < 18446744073709551616 := by
 have h1 : 2 ^ n ≤ 2 ^ 56 := Nat.pow_le_pow_right (by decide) hn
 have h2 : a * 2 ^ n ≤ 255 * 2 ^ 56 := Nat.mul_le_mul (by omega) h1
 exact Nat.lt_of_le_of_lt h2 (by decide)
theorem Js8 {a n : Nat} (h : a * 2 ^ n < 18446744073709551616) : IntKind.u64.wrap ((a : Int) * ((2 ^ n : Nat) : Int)) = ((a * 2 ^ n : Nat) : Int) := by
 rw [← Int.natCast_mul]; exact wrap_u64 (by omega) (by omega)
theorem Wm (a b : Nat) : Int.tmod (a : Int) (b : Int) = ((a % b : Nat) : Int) := rfl
theorem jq (a n : Nat) : (a : Int) / ((2 ^ n : Nat) : Int) = ((a / 2 ^ n : Nat) : Int) := rfl
def iV (n : Nat) : Value := .int .i64 (n : Int)
theorem Jne {l : List Nat} {j : Nat} (h : j < l.length) : (l.map iV)[j]? = some (.int .i64 ((l.getD j 0 : Nat) : Int)) := by
 simp [h, iV, List.getD_eq_getElem?_getD]
theorem Xg {l m : List Nat} {j x : Nat} (h : l.set j x = m) : (l.map uV).set j (uV x) = m.map uV := by rw [← h, List.map_set]
theorem Js9 {n : Nat} (h : n < 256) : Value.int .u8 (IntKind.u8.wrap (n : Int)) = bV (UInt8.ofNat n) := by
 rw [jg (by omega) (by omega), Jb8 h]
theorem vY (q : Nat) : Value.int .u8 (IntKind.u8.wrap (q : Int)) = bV (UInt8.ofNat (q % 256)) := by
 rw [← Jb8 (Nat.mod_lt _ (by decide))]
 congr 1
def Jta (s : List UInt8) : List Nat := stW (fun t => (s.getD (31 - t) 0).toNat) 32
theorem YL (b : UInt8) : b.toNat < 256 := b.toNat_lt
theorem Jtb (s : List UInt8) : WOk (Jta s) := Jxk (fun _ => YL _) 32
def zW : List Nat := [0, 0, 0, 0]
def Jnf (s : List UInt8) : List Nat × Int := if s.length = 32 then (Jta s, 0) else (zW, 2)
def Jzx (p : List Nat × Int) : Value := .tuple #[wV p.1, .int .i64 p.2]
def yF (F G : Nat → Nat → Nat → Nat) (a b : List Nat) : Nat → List Nat × Nat
 | 0 => (zW, 0)
 | i + 1 => ((yF F G a b i).1.set i (F (a.getD i 0) (b.getD i 0) (yF F G a b i).2), G (a.getD i 0) (b.getD i 0) (yF F G a b i).2)
theorem Zj (F G : Nat → Nat → Nat → Nat) (a b : List Nat) : ∀ i, (yF F G a b i).1.length = 4
 | 0 => rfl
 | i + 1 => by simp [yF, Zj F G a b i]
def crR (F G : Nat → Nat → Nat → Nat) (a b : List Nat) : List Nat × Int := if (yF F G a b 4).2 = 0 then ((yF F G a b 4).1, 0) else (zW, 6)
structure Car (P : Program) (g : FuncId) (F G : Nat → Nat → Nat → Nat) : Prop where
  run : ∀ x y c w, c ≤ 1 → (callFunc g [uV x, uV y, uV c].toArray).run P w = .ok (.value (.tuple #[uV (F x y c), uV (G x y c)])) w
  lt : ∀ x y c, F x y c < 18446744073709551616
  le : ∀ x y c, x < 18446744073709551616 → y < 18446744073709551616 → c ≤ 1 → G x y c ≤ 1
theorem Jng {P : Program} {g : FuncId} {F G : Nat → Nat → Nat → Nat} (C : Car P g F G) {a b : List Nat} (ha : WOk a) (hb : WOk b) : ∀ i, WOk (yF F G a b i).1 ∧ (yF F G a b i).2 ≤ 1
 | 0 => ⟨⟨rfl, by simp [yF, zW]⟩, by simp [yF]⟩
 | i + 1 => by
  obtain ⟨⟨h1, h2⟩, h3⟩ := Jng C ha hb i
  refine ⟨⟨Zj F G a b _, fun x hx => ?_⟩, C.le _ _ _ (ha.get i) (hb.get i) h3⟩
  rcases List.mem_or_eq_of_mem_set hx with h | h
  ·exact h2 x h
  ·rw [h]; exact C.lt _ _ _
theorem ze {P : Program} {e : TypeId} (h : P.underlying e = some (.int .u64)) (l : List Nat) : (l.map uV).all (VU P e) = true := by
 simp [List.all_map, List.all_eq_true, uV, VU, h]
theorem xE : ∀ {a b : List Nat}, a.length = b.length → Q0 (a.map uV) (b.map uV) = decide (a = b)
 | [], [], _ => by simp [Q0]
 | x :: a, y :: b, h => by
  have ih := xE (a := a) (b := b) (by simpa using h)
  simp only [List.map_cons, Q0, ih, uV, eqS]
  by_cases h1 : x = y <;> by_cases h2 : a = b <;> simp [h1, h2]
  all_goals omega
def wN (l : List Nat) : Nat := l.getD 0 0 + 18446744073709551616 * (l.getD 1 0 + 18446744073709551616 * (l.getD 2 0 + 18446744073709551616 * l.getD 3 0))
theorem WOk.four {l : List Nat} (h : WOk l) : ∃ a b c d, l = [a, b, c, d] ∧ a < 18446744073709551616 ∧ b < 18446744073709551616 ∧ c < 18446744073709551616 ∧ d < 18446744073709551616 := by
 obtain ⟨h1, h2⟩ := h
 match l, h1 with
 | [a, b, c, d], _ => exact ⟨a, b, c, d, rfl, h2 a (by simp), h2 b (by simp), h2 c (by simp), h2 d (by simp)⟩
theorem Jwm {l : List Nat} (h : WOk l) : wN l < 115792089237316195423570985008687907853269984665640564039457584007913129639936 := by
 obtain ⟨a, b, c, d, rfl, h1, h2, h3, h4⟩ := h.four
 simp only [wN, List.getD_cons_zero, List.getD_cons_succ]
 omega
theorem Jnh {l m : List Nat} (h : WOk l) (k : WOk m) (e : wN l = wN m) : l = m := by
 obtain ⟨a, b, c, d, rfl, h1, h2, h3, h4⟩ := h.four
 obtain ⟨a', b', c', d', rfl, k1, k2, k3, k4⟩ := k.four
 simp only [wN, List.getD_cons_zero, List.getD_cons_succ] at e
 have e1 : a = a' := by omega
 have e2 : b = b' := by omega
 have e3 : c = c' := by omega
 have e4 : d = d' := by omega
 rw [e1, e2, e3, e4]
theorem J1p {x : Nat} (h : x < 18446744073709551616) : x / 1 % 256 * 1 + x / 256 % 256 * 256 + x / 65536 % 256 * 65536 + x / 16777216 % 256 * 16777216 + x / 4294967296 % 256 * 4294967296 + x / 1099511627776 % 256 * 1099511627776 + x / 281474976710656 % 256 * 281474976710656 + x / 72057594037927936 % 256 * 72057594037927936 = x := by omega
theorem Jcd {l : List Nat} (h : WOk l) {j : Nat} (hj : j < 4) : pw (dg l) j 8 = l.getD j 0 := by
 have hx := J1p (h.get j)
 simp only [pw, dg]
 have e : ∀ u, u < 8 → (8 * j + u) / 8 = j ∧ (8 * j + u) % 8 = u := fun u hu => ⟨by omega, by omega⟩
 rw [(e 0 (by decide)).1, (e 0 (by decide)).2, (e 1 (by decide)).1, (e 1 (by decide)).2, (e 2 (by decide)).1, (e 2 (by decide)).2, (e 3 (by decide)).1, (e 3 (by decide)).2, (e 4 (by decide)).1, (e 4 (by decide)).2, (e 5 (by decide)).1, (e 5 (by decide)).2, (e 6 (by decide)).1, (e 6 (by decide)).2, (e 7 (by decide)).1, (e 7 (by decide)).2]
 simp only [Nat.reduceMul, Nat.reducePow, Nat.zero_add]
 exact hx
theorem Jzy {l : List Nat} (h : WOk l) : stW (dg l) 32 = l := by
 obtain ⟨a, b, c, d, rfl, h1, h2, h3, h4⟩ := h.four
 have e : stW (dg [a, b, c, d]) 32 = [pw (dg [a, b, c, d]) 0 8, pw (dg [a, b, c, d]) 1 8, pw (dg [a, b, c, d]) 2 8, pw (dg [a, b, c, d]) 3 8] := rfl
 rw [e, Jcd h (by decide), Jcd h (by decide), Jcd h (by decide), Jcd h (by decide)]
 rfl
def jr (x y c : Nat) : Nat := (x + 18446744073709551616 - y - c) % 18446744073709551616
def ZA (x y c : Nat) : Nat := if x < y + c then 1 else 0
def yG (a b : List Nat) : List Nat × Int := crR jr ZA a b
theorem xF {F G : Nat → Nat → Nat → Nat} {a b : List Nat} : (crR F G a b).1.length = 4 := by
 unfold crR; split
 ·exact Zj _ _ _ _ _
 ·rfl
theorem YM (l : List Nat) : (l.map uV).all Q3 = true := by simp [uV, Q3, List.all_map, List.all_eq_true]
theorem xG (x y c : Nat) : ZA x y c ≤ 1 := by unfold ZA; split <;> omega
theorem vt {x y c : Nat} (hx : x < 18446744073709551616) (hy : y < 18446744073709551616) (hc : c ≤ 1) : jr x y c + y + c = x + 18446744073709551616 * ZA x y c ∧ jr x y c < 18446744073709551616 := by
 unfold jr ZA
 split <;> omega
theorem Jni {a b : List Nat} (ha : WOk a) (hb : WOk b) : wN (yF jr ZA a b 4).1 + wN b = wN a + (yF jr ZA a b 4).2 * 115792089237316195423570985008687907853269984665640564039457584007913129639936 := by
 obtain ⟨a0, a1, a2, a3, rfl, h1, h2, h3, h4⟩ := ha.four
 obtain ⟨b0, b1, b2, b3, rfl, k1, k2, k3, k4⟩ := hb.four
 simp only [yF, zW, List.set_cons_zero, List.set_cons_succ, wN, List.getD_cons_zero, List.getD_cons_succ]
 have e0 := vt h1 k1 (c := 0) (by omega)
 have c0 := xG a0 b0 0
 generalize jr a0 b0 0 = r0 at *
 generalize ZA a0 b0 0 = g0 at *
 have e1 := vt h2 k2 (c := g0) c0
 have c1 := xG a1 b1 g0
 generalize jr a1 b1 g0 = r1 at *
 generalize ZA a1 b1 g0 = g1 at *
 have e2 := vt h3 k3 (c := g1) c1
 have c2 := xG a2 b2 g1
 generalize jr a2 b2 g1 = r2 at *
 generalize ZA a2 b2 g1 = g2 at *
 have e3 := vt h4 k4 (c := g2) c2
 generalize jr a3 b3 g2 = r3 at *
 generalize ZA a3 b3 g2 = g3 at *
 omega
theorem Jhk {F G : Nat → Nat → Nat → Nat} (hF : ∀ x y c, F x y c < 18446744073709551616) (a b : List Nat) : ∀ i, WOk (yF F G a b i).1
 | 0 => ⟨rfl, by simp [yF, zW]⟩
 | i + 1 => ⟨Zj F G a b _, fun x hx => by
  rcases List.mem_or_eq_of_mem_set hx with h | h
  ·exact (Jhk hF a b i).2 x h
  ·rw [h]; exact hF _ _ _⟩
theorem Jzz : WOk zW := ⟨rfl, by simp [zW]⟩
theorem Jkq {a b : List Nat} (ha : WOk a) (hb : WOk b) : if wN b ≤ wN a then (yG a b).2 = 0 ∧ wN (yG a b).1 + wN b = wN a else yG a b = (zW, 6) := by
 have h := Jni ha hb
 have hlt := Jwm (Jhk (G := ZA) (F := jr) (fun _ _ _ => Nat.mod_lt _ (by decide)) a b 4)
 have hb1 := Jwm hb
 unfold yG crR
 split
 ·rename_i hs
  have hc : (yF jr ZA a b 4).2 = 0 := by omega
  rw [if_pos hc]
  rw [hc] at h
  exact ⟨rfl, by simpa using h⟩
 ·rename_i hs
  have hc : (yF jr ZA a b 4).2 ≠ 0 := fun hc => by rw [hc] at h; omega
  rw [if_neg hc]
def zf (a b : List Nat) : Bool := !decide (a = b) && ((yG a b).2 != 0)
theorem Jnj {a b : List Nat} (ha : WOk a) (hb : WOk b) : zf a b = decide (wN a < wN b) := by
 have h := Jkq ha hb
 unfold zf
 by_cases hab : a = b
 ·subst hab; simp
 ·split at h
  ·rename_i hle
   rw [h.1]
   have : ¬ wN a < wN b := by omega
   simp [this]
  ·rename_i hle
   rw [h]
   have : wN a < wN b := by omega
   simp [this, hab]
def xH (l : List Nat) : Bool := decide (l = [l.getD 0 0, 0, 0, 0])
open Go Go.ChangeShapes Go.WideShapes Go.RowKit
section
variable {H : Type} {enc : TypeId × Value → H} {P : Program} {w : World} {base : Nat} {sp : Nat → Bool} {held : Bool}
theorem Jce : ∀ (cs : List Value), (List.range cs.length).map (fun i => (cs.drop (i * 1)).take 1) = cs.map fun c => [c] := fun cs => by
 apply List.ext_getElem
 ·simp
 ·intro i h1 h2
  simp only [List.length_map, List.length_range] at h1
  simp only [List.getElem_map, List.getElem_range, Nat.mul_one]
  rw [List.drop_eq_getElem_cons h1]; rfl
theorem Yr {α β γ : Type} (f : α → β) (g : β → Option γ) : ∀ l : List α, (l.map f).mapM g = l.mapM fun a => g (f a)
 | [] => rfl
 | a :: l => by simp [List.mapM_cons, Yr f g l]
theorem Jnk {fuel t e n : Nat} {cs : List Value} {x : DataW H × List MemPlace} (ht : P.underlying t = some (.array n e)) (hc : P.cellsOf t = n) (he : P.cellsOf e = 1) :
  DataW.trod enc P w base sp held (fuel + 1) t cs = some x ↔ cs.length = n ∧ ∃ xs, (cs.map fun c => [c]).mapM (DataW.trod enc P w base sp held fuel e) = some xs ∧ x = (.agg (xs.map (·.1)), xs.flatMap (·.2)) := by
 simp only [DataW.trod, ht, hc, he]
 constructor
 ·intro h
  split at h
  ·rename_i hl
   refine ⟨hl, ?_⟩
   rw [← Yr (fun i => (cs.drop (i * 1)).take 1), ← hl, Jce, Option.map_eq_some_iff] at h
   obtain ⟨xs, h1, h2⟩ := h
   exact ⟨xs, h1, h2.symm⟩
  ·cases h
 ·rintro ⟨hl, xs, h1, rfl⟩
  rw [if_pos hl, ← Yr (fun i => (cs.drop (i * 1)).take 1), ← hl, Jce, h1]; rfl
theorem zg {α : Type} {V : α → Value} {D : α → DataW H} {ok : α → Prop} {g : List Value → Option (DataW H × List MemPlace)} (hg : ∀ c x, g [c] = some x → ∃ z, c = V z ∧ x = (D z, []) ∧ ok z) : ∀ (cs : List Value) (xs : List (DataW H × List MemPlace)), (cs.map fun c => [c]).mapM g = some xs →
  ∃ zs : List α, cs = zs.map V ∧ xs = zs.map (fun z => (D z, [])) ∧ ∀ z ∈ zs, ok z
 | [], xs, h => by simp at h; exact ⟨[], rfl, by simp [h], by simp⟩
 | c :: cs, xs, h => by
  simp only [List.map_cons, List.mapM_cons] at h
  cases h1 : g [c] with
  | none => simp [h1] at h
  | some x =>
   cases h2 : (cs.map fun c => [c]).mapM g with
   | none => simp [h1, h2] at h
   | some ys =>
    simp [h1, h2] at h
    subst h
    obtain ⟨z, e1, e2, e3⟩ := hg c x h1
    obtain ⟨zs, f1, f2, f3⟩ := zg hg cs ys h2
    exact ⟨z :: zs, by simp [e1, f1], by simp [e2, f2], by simpa using ⟨e3, f3⟩⟩
end
open Go
theorem vb {a b : Bool} (h : a = b) : Value.bool a = Value.bool b := by rw [h]
theorem Jxl {x y : Int} (h : x = y) : (x == y) = true := by simpa using h
theorem J1q {x y : Int} (h : ¬ x = y) : (x == y) = false := by simpa using h
def jt (n : Nat) : Nat → List UInt8
 | 0 => []
 | w + 1 => UInt8.ofNat (n % 256) :: jt (n / 256) w
def leV : List UInt8 → Nat
 | [] => 0
 | b :: s => b.toNat + 256 * leV s
theorem Vr : ∀ (w n : Nat), (jt n w).length = w
 | 0, _ => rfl
 | w + 1, n => by simp [jt, Vr w]
theorem Jcf : ∀ (w n : Nat), jt n (w + 1) = jt n w ++ [UInt8.ofNat (n / 256 ^ w % 256)]
 | 0, n => by simp [jt]
 | w + 1, n => by
  rw [jt, Jcf w (n / 256), jt, List.cons_append, Nat.pow_succ, Nat.mul_comm, Nat.div_div_eq_div_mul]
section
variable {c : Cx} {l : Kw} {L : Jm} {X : XP} {d : List Deferred}
variable {i : Nat} {v : Value} {t : TypeId} {ps : String} {af : Array Edge} {gd : Option (Nat × Bool)} {ty t2 : TypeId}
theorem Jnm {x y : Operand} {k k' : IntKind} {a b r : Int} {ats : Array TypeId} (hx : Kg l x = some (.int k a)) (hy : Kg l y = some (.int k' b)) (hr : (if b < a then b else a) = r) :
  J9 c d l L X ⟨some i, .call ⟨.builtin .min, #[x, y], ats⟩, ty, ps, af, gd⟩ (.int k r) := fun a' w hf _ => by
 subst hr
 simp only [execOp, Sem.run_bind, resolve]
 have h1 := hf.eval hx
 have h2 := hf.eval hy
 have h3 := run_min_int2 (P := c.P) (w := w) ats ty k k' a b
 simp [h1, h2, invoke, builtin, Result.andThen, h3]
theorem xI {op : BinOp} {x y : Operand} {m n : Nat} {f : Nat → Nat → Nat} {b : Int} (hf : xu op = some f) (hx : Kg l x = some (.int .u8 (m : Int))) (hy : Kg l y = some (.int .u8 (n : Int))) (hm : m < 256) (hn : n < 256) (hb : ((f m n : Nat) : Int) = b) :
  J9 c d l L X ⟨some i, .binOp op t x y t2, ty, ps, af, gd⟩ (.int .u8 b) := fun a' w hfr _ => by
 subst hb
 have e1 : (BitVec.ofInt 8 (m : Int)).toNat = m := by simp [BitVec.toNat_ofInt]; omega
 have e2 : (BitVec.ofInt 8 (n : Int)).toNat = n := by simp [BitVec.toNat_ofInt]; omega
 have hm' : m < 2 ^ 8 := hm
 have hn' : n < 2 ^ 8 := hn
 have wr : ∀ q : Nat, q < 2 ^ 8 → IntKind.u8.wrap (q : Int) = q := fun q hq => jg (by omega) (by omega)
 simp only [execOp]
 rw [hfr.eval hx, hfr.eval hy]
 cases op <;> simp only [xu, Option.some.injEq, reduceCtorEq] at hf
 all_goals subst hf
 ·have := wr (m &&& n) (Nat.lt_of_le_of_lt Nat.and_le_left hm')
  have e3 : (BitVec.ofInt 8 (m : Int) &&& BitVec.ofInt 8 (n : Int)).toNat = m &&& n := by rw [BitVec.toNat_and, e1, e2]
  show Sem.run c.P (pure (Next.value (Value.int .u8 (IntKind.u8.wrap (((BitVec.ofInt 8 (m : Int) &&& BitVec.ofInt 8 (n : Int)).toNat : Nat) : Int))))) w = _
  rw [e3, this]; rfl
 ·have := wr (m ||| n) (Nat.or_lt_two_pow hm' hn')
  have e3 : (BitVec.ofInt 8 (m : Int) ||| BitVec.ofInt 8 (n : Int)).toNat = m ||| n := by rw [BitVec.toNat_or, e1, e2]
  show Sem.run c.P (pure (Next.value (Value.int .u8 (IntKind.u8.wrap (((BitVec.ofInt 8 (m : Int) ||| BitVec.ofInt 8 (n : Int)).toNat : Nat) : Int))))) w = _
  rw [e3, this]; rfl
 ·have := wr (m ^^^ n) (Nat.xor_lt_two_pow hm' hn')
  have e3 : (BitVec.ofInt 8 (m : Int) ^^^ BitVec.ofInt 8 (n : Int)).toNat = m ^^^ n := by rw [BitVec.toNat_xor, e1, e2]
  show Sem.run c.P (pure (Next.value (Value.int .u8 (IntKind.u8.wrap (((BitVec.ofInt 8 (m : Int) ^^^ BitVec.ofInt 8 (n : Int)).toNat : Nat) : Int))))) w = _
  rw [e3, this]; rfl
end
theorem Jz0 (m : Nat) : IntKind.u64.wrap (m : Int) = ((m % 18446744073709551616 : Nat) : Int) := by
 have h : IntKind.u64.wrap (m : Int) = (m : Int) % 18446744073709551616 := by rw [IntKind.wrap_u64]
 rw [h]; rfl
structure PureM (P : Program) (f : FuncId) (args : Array Value) (v : Value) (r : Nat) (o o' : Obj) : Prop where
  run : ∀ w, w.heap[r]? = some o → Calls P f args w fun e w' => e = .returned v ∧ Keep [r] w w' ∧ w'.heap[r]? = some o'
def cxM (P : Program) (w : World) (r n : Nat) : Cx := ⟨P, none, w, [r], [], [], n⟩
theorem St.startM {P : Program} {w : World} {r n : Nat} {o : Obj} (h : w.heap[r]? = some o) : St (cxM P w r n) [(r, o)] (fun _ _ => True) w :=
 ⟨Keep.refl _ _, fun p hp => by rw [List.mem_singleton.1 hp]; exact ⟨.inl List.mem_cons_self, by simp [cxM], h⟩, List.pairwise_singleton _ _, by simp [cxM], by simp [cxM], ⟨[], by simp, fun _ _ => trivial⟩⟩
theorem qG {P : Program} {f : FuncId} {fn : Func} {code : Code} {vs : List Value} {v : Value} {r : Nat} {o o' : Obj} (hf : P.funcs[f]? = some fn) (hb : fn.body = some code) (hlen : Nat.ble vs.length fn.ntmps = true)
  (h : ∀ w, HC (cxM P w r fn.ntmps) [] (VB 0 vs) [(r, o)] (fun _ _ => True) code (bodyPostM (FW none) 0 P fn (fun e w' => e = .returned v ∧ ∃ L, (r, o') ∈ L ∧ St (cxM P w r fn.ntmps) L (fun _ _ => True) w'))) : PureM P f vs.toArray v r o o' := ⟨fun w hr =>
 (Q7 (cxM P w r fn.ntmps) hf hb rfl rfl rfl hlen (St.startM hr) (h w)).mono fun _ _ ⟨he, L, hm, hs⟩ => ⟨he, by have := hs.keep; simpa [cxM] using this, (hs.own _ hm).2.2⟩⟩
section
variable {c : Cx} {l : Kw} {L : Jm} {X : XP} {Q : Exit → Act → World → Prop} {d : List Deferred}
variable {ops : Array Oper} {rest : List Oper} {i : Nat} {v : Value} {t : TypeId} {ps : String} {af : Array Edge} {gd : Option (Nat × Bool)} {ty t2 : TypeId}
theorem Jcg {k r : Nat} {o o' : Obj} {L' : Jm} {f : Operand} {args : Array Operand} {at_ : Array TypeId} {g : FuncId} {vs : List Value}
  (hg : Kj l ops ⟨some i, .call ⟨.value f, args, at_⟩, ty, ps, af, gd⟩ = some true) (hi : Nat.ble (i + 1) c.n = true) (hca : Kq l f args = some (g, vs)) (eg : Enters c.P g) (hk : L[k]? = some (r, o))
  (hp : PureM c.P g vs.toArray v r o o') (hL : L.set k (r, o') = L') (h : HL c d ((i, v) :: l) L' X ops rest Q) : HL c d l L X ops (⟨some i, .call ⟨.value f, args, at_⟩, ty, ps, af, gd⟩ :: rest) Q :=
 WZ (α := Unit) (V := fun _ => v) (L' := fun _ => L') (X' := fun _ => X) hg hi hca eg (fun w hs => (hp.run w (hs.get hk)).mono fun _ _ ⟨he, hkp, ho⟩ => ⟨(), he, hL ▸ hs.set hk hkp ho⟩) (fun _ => h)
theorem Jtc {x : Operand} {m : Nat} (hx : Kg l x = some (.int .u64 (m : Int))) (hm : m < 18446744073709551616) :
  J9 c d l L X ⟨some i, .unOp .xor t x, ty, ps, af, gd⟩ (.int .u64 ((18446744073709551615 ^^^ m : Nat) : Int)) := fun a' w hfr _ => by
 have e1 : (BitVec.ofInt 64 (m : Int)).toNat = m := by simp [BitVec.toNat_ofInt]; omega
 have e2 : (BitVec.ofInt 64 (IntKind.u64.max)).toNat = 18446744073709551615 := by decide
 have hx' : 18446744073709551615 ^^^ m < 2 ^ 64 := Nat.xor_lt_two_pow (by decide) hm
 have e3 : (BitVec.ofInt 64 (IntKind.u64.max) ^^^ BitVec.ofInt 64 (m : Int)).toNat = 18446744073709551615 ^^^ m := by rw [BitVec.toNat_xor, e1, e2]
 have e4 : IntKind.u64.wrap ((18446744073709551615 ^^^ m : Nat) : Int) = ((18446744073709551615 ^^^ m : Nat) : Int) := wrap_u64 (by omega) (by omega)
 simp only [execOp]
 rw [hfr.eval hx]
 show Sem.run c.P (pure (Next.value (Value.int .u64 (IntKind.u64.wrap (((BitVec.ofInt 64 (IntKind.u64.max) ^^^ BitVec.ofInt 64 (m : Int)).toNat : Nat) : Int))))) w = _
 rw [e3, e4]; rfl
theorem Jch (a : List UInt8) (cap : Nat) : bytesRow (bs a) cap = (a.map bV ++ List.replicate (cap - a.length) (Value.int .u8 0)).toArray := by
 simp only [bytesRow, Yp]
 apply Array.toList_inj.1
 simp [bs, bV]
theorem XA {x : Operand} {a : List UInt8} {e src dst : TypeId} (hg : Kj l ops ⟨some i, .convert src dst x, ty, ps, af, gd⟩ = some true) (hi : Nat.ble (i + 1) c.n = true) (hx : Kg l x = some (.string (bs a)))
  (hs : vR c.P src = true) (hd : Kp c.P dst = some e) (he : c.P.underlying e = some (.int .u8))
  (h : ∀ r k, HL c d ((i, .slice (some ⟨r, 0, none⟩) a.length (a.length + k)) :: l) ((r, .cells (a.map bV ++ List.replicate k (Value.int .u8 0)).toArray e (a.length + k, a.length + k + 1)) :: L) X ops rest Q) : HL c d l L X ops (⟨some i, .convert src dst x, ty, ps, af, gd⟩ :: rest) Q :=
 V9 (α := Nat × Nat) (V := fun p => .slice (some ⟨p.1, 0, none⟩) a.length (a.length + p.2)) (L' := fun p => (p.1, .cells (a.map bV ++ List.replicate p.2 (Value.int .u8 0)).toArray e (a.length + p.2, a.length + p.2 + 1)) :: L) (X' := fun _ => X) hg rfl rfl hi (fun aa w hf hst => by
  have hr := Go.run_bytes_of_string (P := c.P) w src dst e (bs a) (QT hs) (Kc hd) he
  have hge := grownCap_ge w (bs a).size 0 e
  rw [Jch] at hr
  rw [Yp] at hr hge
  obtain ⟨k, hk⟩ : ∃ k, grownCap w a.length 0 e = a.length + k := ⟨grownCap w a.length 0 e - a.length, by omega⟩
  rw [hk, show a.length + k - a.length = k from by omega] at hr
  have hsz : (a.map bV ++ List.replicate k (Value.int .u8 0)).toArray.size = a.length + k := by simp
  rw [hsz] at hr
  refine ⟨(w.heap.size, k), _, ?_, hst.drew.alloc _⟩
  simp only [execOp]
  rw [hf.eval hx]
  simp [Sem.run_bind, hr, Result.andThen]) (fun p => h p.1 p.2)
def Jhl (l : Kw) : Option Operand → Option Nat → Prop
 | none, none => True
 | some x, some n => ∃ k, Kg l x = some (.int k (n : Int))
 | _, _ => False
theorem JU {x : Operand} {lo hi mx : Option Operand} {kl kh km : Option Nat} {r off n cap e sz m q z off' : Nat} (hx : Kg l x = some (.slice (some ⟨r, off, none⟩) n cap)) (ht : Kp c.P t = some e) (hsz : KJ c.P e = some sz)
  (hl : Jhl l lo kl) (hh : Jhl l hi kh) (hm : Jhl l mx km) (e1 : kl.getD 0 = m) (e2 : kh.getD n = q) (e3 : km.getD cap = z) (h1 : m ≤ q) (h2 : q ≤ z) (h3 : z ≤ cap) (h4 : kh = none → km = none) (ho : (if z = m then off else off + m * sz) = off') :
  J9 c d l L X ⟨some i, .slice t x lo hi mx, ty, ps, af, gd⟩ (.slice (some ⟨r, off', none⟩) (q - m) (z - m)) := fun a' w hf _ => by
 have ex := hf.eval hx
 subst e1 e2 e3 ho
 have low : ∀ {o : Option Operand} {k : Option Nat}, Jhl l o k → (o.map a'.eval = none ∧ k = none) ∨ (∃ y n, o.map a'.eval = some (.int y ((n : Nat) : Int)) ∧ k = some n) := by
  intro o k h
  cases o with
  | none => cases k with
   | none => exact .inl ⟨rfl, rfl⟩
   | some k => exact h.elim
  | some o => cases k with
   | none => exact h.elim
   | some k => obtain ⟨y, hy⟩ := h; exact .inr ⟨y, k, by simp [hf.eval hy], rfl⟩
 simp only [execOp, ex]
 have hadd : ∀ k : Nat, Addr.add ⟨r, off, none⟩ k = ⟨r, off + k, none⟩ := fun k => Xa r off k
 rcases low hl with ⟨f1, rfl⟩ | ⟨y1, n1, f1, rfl⟩ <;> rcases low hh with ⟨f2, rfl⟩ | ⟨y2, n2, f2, rfl⟩ <;> rcases low hm with ⟨f3, rfl⟩ | ⟨y3, n3, f3, rfl⟩ <;> simp only [Option.getD_none, Option.getD_some] at h1 h2 h3 ⊢ <;>
  (try (have := h4 rfl; cases this)) <;> rw [f1, f2, f3] <;>
  simp [Instr.sliceAt, Instr.slice, Sem.run_bind, KF (Kc ht), QW hsz, Result.andThen, Instr.sliceBounds, Instr.sliceBound, asIntOf, h1, h2, h3, hadd]
 all_goals split <;> simp_all
end
open Go Go.RowKit Go.Shelf Go.ChangeShapes Go.WideShapes
abbrev Pl : Type := Option (Addr × Nat)
def plA : Pl → Option Addr
 | none => none
 | some (a, _) => some a
def plC : Pl → Nat
 | none => 0
 | some (_, cap) => cap
def KB (n : Nat) (p : Pl) : Value := .slice (plA p) n (plC p)
def plB : Pl → Nat
 | none => 0
 | some (a, _) => a.block
def WP : Pl → Nat
 | none => 0
 | some (a, _) => a.off
def Seg (R : Jm) (n : Nat) (cs : List Value) : Pl → Prop
 | none => n = 0
 | some (a, cap) => n ≤ cap ∧ (0 < n → a.spot = none ∧ ∃ all e fr, (a.block, Obj.cells all e fr) ∈ R ∧ (all.toList.drop a.off).take cs.length = cs)
theorem Seg.nil {R : Jm} : Seg R 0 [] none := rfl
theorem Seg.mono {R R' : Jm} {n : Nat} {cs : List Value} {p : Pl} (h : Seg R n cs p) (hs : ∀ q ∈ R, q ∈ R') : Seg R' n cs p := by
 cases p with
 | none => exact h
 | some q => obtain ⟨a, cap⟩ := q; exact ⟨h.1, fun h0 => by obtain ⟨h1, all, e, fr, h2, h3⟩ := h.2 h0; exact ⟨h1, all, e, fr, hs _ h2, h3⟩⟩
theorem Jnn {α : Type} {all cs : List α} {o j : Nat} {v : α} (h : (all.drop o).take cs.length = cs) (hv : cs[j]? = some v) : all[o + j]? = some v := by
 rw [← h, List.getElem?_take] at hv
 split at hv
 ·rwa [List.getElem?_drop] at hv
 ·cases hv
theorem Jci {α : Type} {all cs vs : List α} {o j m : Nat} (h : (all.drop o).take cs.length = cs) (hv : (cs.drop j).take m = vs) (hm : vs.length = m) : (all.drop (o + j)).take m = vs := by
 have h1 : j + m ≤ cs.length ∨ m = 0 := by
  have := congrArg List.length hv
  rw [List.length_take, List.length_drop, hm] at this
  omega
 rcases h1 with h1 | h1
 ·rw [← hv, ← h, List.drop_take, List.drop_drop, List.take_take, Nat.min_eq_left (by omega)]
 ·subst h1; rw [List.take_zero] at hv ⊢; exact hv
theorem Wn {α : Type} {f : α → List Value} {m : Nat} (hf : ∀ x, (f x).length = m) : ∀ {l : List α} {j : Nat} {x : α}, l[j]? = some x → ((l.flatMap f).drop (j * m)).take m = f x
 | [], _, _, h => by simp at h
 | y :: l, 0, x, h => by
  obtain rfl : y = x := by simpa using h
  rw [Nat.zero_mul, List.drop_zero, List.flatMap_cons, List.take_left' (hf y)]
 | y :: l, j + 1, x, h => by
  have e : (j + 1) * m = (f y).length + j * m := by rw [hf, Nat.succ_mul, Nat.add_comm]
  rw [e, List.flatMap_cons, ← List.drop_drop, List.drop_left' rfl]
  exact Wn hf (by simpa using h)
theorem Kt {α : Type} {f : α → List Value} {m : Nat} (hf : ∀ x, (f x).length = m) : ∀ l : List α, (l.flatMap f).length = l.length * m
 | [] => by simp
 | y :: l => by rw [List.flatMap_cons, List.length_append, hf, Kt hf l, List.length_cons, Nat.succ_mul, Nat.add_comm]
section
variable {c : Cx} {l : Kw} {L : Jm} {X : XP} {Q : Exit → Act → World → Prop} {d : List Deferred}
variable {ops : Array Oper} {rest : List Oper} {i : Nat} {v : Value} {t : TypeId} {ps : String} {af : Array Edge} {gd : Option (Nat × Bool)} {ty : TypeId}
theorem Jz {x : Operand} {p : Pl} {n : Nat} {R : Jm} {cs : List Value} {e : TypeId} (hx : Kg l x = some (KB n p)) (hs : Seg R n cs p) (ht : Kp c.P t = some e) :
  J9 c d l L X ⟨some i, .call ⟨.builtin .len, #[x], #[t]⟩, ty, ps, af, gd⟩ (.int .i64 n) := by
 cases p with
 | none => have h : n = 0 := hs; subst h; exact Ka hx ht
 | some q => obtain ⟨a, cap⟩ := q; exact Ka hx ht
theorem Jk {x y : Operand} {p : Pl} {R : Jm} {cs : List Value} {n e m j : Nat} {k : IntKind} {z : Int} (hx : Kg l x = some (KB n p)) (hs : Seg R n cs p) (hy : Kg l y = some (.int k z)) (ha : Kp c.P t = some e) (hm : KJ c.P e = some m) (hz : z = (j : Int)) (hj : j < n) :
  J9 c d l L X ⟨some i, .indexAddr t x y, ty, ps, af, gd⟩ (.pointer (some ⟨plB p, WP p + j * m, none⟩)) := by
 cases p with
 | none => have h : n = 0 := hs; omega
 | some q =>
  obtain ⟨⟨b, o, s⟩, cap⟩ := q
  have h1 : s = none := (hs.2 (by omega)).1
  subst h1
  exact JF hx hy ha hm hz hj rfl
theorem vZ {x : Operand} {p : Pl} {R : Jm} {cs : List Value} {n j : Nat} (hR : ∀ q ∈ R, known c L q.1 q.2) (hx : Kg l x = some (.pointer (some ⟨plB p, WP p + j, none⟩))) (hs : Seg R n cs p) (hn : 0 < n) (ht : VL c.P t = some false) (hv : cs[j]? = some v) :
  J9 c d l L X ⟨some i, .load t x, ty, ps, af, gd⟩ v := by
 cases p with
 | none => have h : n = 0 := hs; omega
 | some q =>
  obtain ⟨⟨b, o, s⟩, cap⟩ := q
  obtain ⟨_, all, e, fr, h1, h2⟩ := hs.2 hn
  exact Je hx (hR _ h1) ht (by rw [W9]; exact Jnn h2 hv)
theorem qe {x : Operand} {p : Pl} {R : Jm} {cs vs : List Value} {n j m : Nat} (hR : ∀ q ∈ R, known c L q.1 q.2) (hx : Kg l x = some (.pointer (some ⟨plB p, WP p + j, none⟩))) (hs : Seg R n cs p) (hn : 0 < n) (ht : VL c.P t = some true) (hm : KJ c.P t = some m) (hv : (cs.drop j).take m = vs) (hl : vs.length = m) :
  J9 c d l L X ⟨some i, .load t x, ty, ps, af, gd⟩ (.agg vs.toArray) := by
 cases p with
 | none => have h : n = 0 := hs; omega
 | some q =>
  obtain ⟨⟨b, o, s⟩, cap⟩ := q
  obtain ⟨_, all, e, fr, h1, h2⟩ := hs.2 hn
  exact Js hx (hR _ h1) ht hm (Jci h2 hv hl) hl
end
theorem JO (z : Array Value) (n : Nat) : (madeCells z n).toList = (List.range n).map (fun i => z.toList.getD (i % z.size) default) := by
 unfold madeCells
 simp
 intro a _
 rw [getElem!_def]
 cases z[a % z.size]? <;> rfl
def qH (z : Int) : Prop := -9223372036854775808 ≤ z ∧ z ≤ 9223372036854775807
inductive Ty : Type
  | mk (k n : Int) (p : Pl) (ins : List Ty)
def Ty.k : Ty → Int
 | .mk k _ _ _ => k
def Ty.n : Ty → Int
 | .mk _ n _ _ => n
def Ty.p : Ty → Pl
 | .mk _ _ p _ => p
def Ty.ins : Ty → List Ty
 | .mk _ _ _ ins => ins
def Ty.cells : Ty → List Value
 | .mk k n p ins => [.int .i64 k, .int .i64 n, KB ins.length p]
def Ty.val (t : Ty) : Value := .agg t.cells.toArray
def Jcj (l : List Ty) : List Value := l.flatMap Ty.cells
theorem Ty.one (t : Ty) : t.cells.all Q3 = true := by cases t; rfl
theorem Ty.len (t : Ty) : t.cells.length = 3 := by cases t; rfl
inductive Ty.In (R : Jm) : Ty → Prop
  | mk {k n : Int} {p : Pl} {ins : List Ty} (hk : qH k) (hn : qH n) (hl : ins.length ≤ 9223372036854775807) (hs : Seg R ins.length (Jcj ins) p) (hi : ∀ x ∈ ins, Ty.In R x) : Ty.In R (.mk k n p ins)
theorem Ty.In.mono {R R' : Jm} (hs : ∀ q ∈ R, q ∈ R') {t : Ty} (h : Ty.In R t) : Ty.In R' t := by
 induction h with
 | mk hk hn hl hg hi ih => exact .mk hk hn hl (hg.mono hs) ih
theorem Ty.In.sub {R : Jm} {k n : Int} {p : Pl} {ins : List Ty} (h : Ty.In R (.mk k n p ins)) : ∀ x ∈ ins, Ty.In R x := by
 cases h; assumption
inductive Vl : Type
  | mk (a b c d : Nat) (bits : List Bool) (pb : Pl) (items : List Vl) (pi : Pl) (pick : Int)
def Vl.num : Vl → List Nat
 | .mk a b c d _ _ _ _ _ => [a, b, c, d]
def Vl.bits : Vl → List Bool
 | .mk _ _ _ _ l _ _ _ _ => l
def Vl.items : Vl → List Vl
 | .mk _ _ _ _ _ _ l _ _ => l
def Vl.pick : Vl → Int
 | .mk _ _ _ _ _ _ _ _ k => k
def Vl.cells : Vl → List Value
 | .mk a b c d bits pb items pi pick => [uV a, uV b, uV c, uV d, KB bits.length pb, KB items.length pi, .int .i64 pick]
def Vl.val (t : Vl) : Value := .agg t.cells.toArray
def QE (l : List Vl) : List Value := l.flatMap Vl.cells
def ju (l : List Bool) : List Value := l.map .bool
theorem Vl.one (t : Vl) : t.cells.all Q3 = true := by cases t; rfl
theorem Vl.len (t : Vl) : t.cells.length = 7 := by cases t; rfl
def VV (n : Nat) : Prop := n < 18446744073709551616
inductive Vl.In (R : Jm) : Vl → Prop
  | mk {a b c d : Nat} {bits : List Bool} {pb : Pl} {items : List Vl} {pi : Pl} {pick : Int} (ha : VV a) (hb : VV b) (hc : VV c) (hd : VV d) (hlb : bits.length ≤ 9223372036854775807) (hsb : Seg R bits.length (ju bits) pb)
      (hl : items.length ≤ 9223372036854775807) (hs : Seg R items.length (QE items) pi) (hp : qH pick) (hi : ∀ x ∈ items, Vl.In R x) : Vl.In R (.mk a b c d bits pb items pi pick)
theorem Vl.In.mono {R R' : Jm} (hs : ∀ q ∈ R, q ∈ R') {t : Vl} (h : Vl.In R t) : Vl.In R' t := by
 induction h with
 | mk ha hb hc hd hlb hsb hl hg hp hi ih => exact .mk ha hb hc hd hlb (hsb.mono hs) hl (hg.mono hs) hp ih
theorem Vl.In.sub {R : Jm} {a b c d : Nat} {bits : List Bool} {pb : Pl} {items : List Vl} {pi : Pl} {pick : Int} (h : Vl.In R (.mk a b c d bits pb items pi pick)) : ∀ x ∈ items, Vl.In R x := by
 cases h; assumption
section
variable {c : Cx} {l : Kw} {L : Jm} {X : XP} {d : List Deferred} {i : Nat} {t : TypeId} {ps : String} {af : Array Edge} {gd : Option (Nat × Bool)} {ty : TypeId}
theorem jv {α : Type} {l : List α} {j : Nat} {y : α} (h : l[j]? = some y) : 0 < l.length := by
 have := (List.getElem?_eq_some_iff.1 h).1; omega
theorem Qr {x : Operand} {p : Pl} {R : Jm} {ins : List Ty} {j : Nat} {y : Ty} (hR : ∀ q ∈ R, known c L q.1 q.2) (hx : Kg l x = some (.pointer (some ⟨plB p, WP p + j * 3, none⟩))) (hs : Seg R ins.length (Jcj ins) p) (hy : ins[j]? = some y) (ht : VL c.P t = some true) (hm : KJ c.P t = some 3) :
  J9 c d l L X ⟨some i, .load t x, ty, ps, af, gd⟩ y.val :=
 qe hR hx hs (jv hy) ht hm (Wn Ty.len hy) y.len
theorem Wv {x : Operand} {p : Pl} {R : Jm} {ins : List Vl} {j : Nat} {y : Vl} (hR : ∀ q ∈ R, known c L q.1 q.2) (hx : Kg l x = some (.pointer (some ⟨plB p, WP p + j * 7, none⟩))) (hs : Seg R ins.length (QE ins) p) (hy : ins[j]? = some y) (ht : VL c.P t = some true) (hm : KJ c.P t = some 7) :
  J9 c d l L X ⟨some i, .load t x, ty, ps, af, gd⟩ y.val :=
 qe hR hx hs (jv hy) ht hm (Wn Vl.len hy) y.len
theorem QL {x : Operand} {p : Pl} {R : Jm} {cs : List Value} {n j : Nat} {v : Value} (hR : ∀ q ∈ R, known c L q.1 q.2) (hx : Kg l x = some (.pointer (some ⟨plB p, WP p + j * 1, none⟩))) (hs : Seg R n cs p) (hn : j < n) (ht : VL c.P t = some false) (hv : cs[j]? = some v) :
  J9 c d l L X ⟨some i, .load t x, ty, ps, af, gd⟩ v :=
 vZ hR (by rw [Nat.mul_one] at hx; exact hx) hs (by omega) ht hv
theorem XZ {x : Operand} {p : Pl} {R : Jm} {bits : List Bool} {j : Nat} {y : Bool} (hR : ∀ q ∈ R, known c L q.1 q.2) (hx : Kg l x = some (.pointer (some ⟨plB p, WP p + j * 1, none⟩))) (hs : Seg R bits.length (ju bits) p) (hy : bits[j]? = some y) (ht : VL c.P t = some false) :
  J9 c d l L X ⟨some i, .load t x, ty, ps, af, gd⟩ (.bool y) :=
 vZ hR (by rw [Nat.mul_one] at hx; exact hx) hs (jv hy) ht (by unfold ju; rw [List.getElem?_map, hy]; rfl)
end
section
variable {c : Cx} {l : Kw} {L : Jm} {X : XP} {d : List Deferred} {i : Nat} {v : Value} {ps : String} {af : Array Edge} {gd : Option (Nat × Bool)} {ty : TypeId}
theorem V3 {ops : Array Oper} {rest : List Oper} {T : Act → Prop} {f : Operand} {args : Array Operand} {at_ : Array TypeId} {g : FuncId} {vs : List Value} {Rl : Jm}
  (hg : Kj l ops ⟨some i, .call ⟨.value f, args, at_⟩, ty, ps, af, gd⟩ = some true) (hi : Nat.ble (i + 1) c.n = true) (hca : Kq l f args = some (g, vs)) (eg : Enters c.P g)
  (hp : PureR c.P g vs.toArray v Rl) (hk : ∀ p ∈ Rl, known c L p.1 p.2) (h : HD c d ((i, v) :: l) L X ops rest T) : HD c d l L X ops (⟨some i, .call ⟨.value f, args, at_⟩, ty, ps, af, gd⟩ :: rest) T := fun a hf => by
 refine ⟨fun _ _ _ _ => trivial, ?_⟩
 rw [if_pos (JL hf hg)]
 refine ⟨v, fun w hs => ?_, h _ (hf.put (Nat.le_of_ble_eq_true hi))⟩
 unfold Oper.quietAtIn
 rw [WL hf hca c.P w _ rfl eg]
 refine ⟨rfl, fun hdep => (by cases hdep), ?_⟩
 have hc := callsIn_wide (n := 0) |>.2 (hp.run w fun p hp => hs.known (hk p hp))
 refine CallsIn.mono (show CallsIn (FW c.ro) 0 c.P g vs.toArray w _ from hc) ?_
 rintro e w' ⟨rfl, hk⟩
 exact ⟨rfl, hs.more hk⟩
end
theorem Qs {α : Type} {l : List α} {j : Nat} (h : j < l.length) : ∃ y, l[j]? = some y ∧ y ∈ l := ⟨l[j], List.getElem?_eq_getElem h, List.getElem_mem h⟩
theorem WH {α : Type} {l : List α} {j : Nat} {y : α} (h : l[j]? = some y) : l.drop j = y :: l.drop (j + 1) := by
 obtain ⟨h1, rfl⟩ := List.getElem?_eq_some_iff.1 h
 exact List.drop_eq_getElem_cons h1
def Jfe (w : World) : Jm := w.heap.toList.zipIdx.map fun p => (p.2, p.1)
theorem has_allB (w : World) : Has (Jfe w) w := by
 intro p hp
 obtain ⟨q, hq, rfl⟩ := List.mem_map.1 hp
 have := List.mem_zipIdx_iff_getElem?.1 hq
 rw [Array.getElem?_toList] at this
 exact this
theorem Jno {w : World} {r : Nat} {o : Obj} (h : w.heap[r]? = some o) : (r, o) ∈ Jfe w :=
 List.mem_map.2 ⟨(o, r), List.mem_zipIdx_iff_getElem?.2 (by rw [Array.getElem?_toList]; exact h), rfl⟩
def Qd (k n : Int) (m : Nat) : Bool :=
 if k = 1 then decide (m = 0) && (decide (n = 1) || decide (n = 2) || decide (n = 4) || decide (n = 8) || decide (n = 32))
 else if k = 2 then decide (m = 0) && decide (n = 0)
 else if k = 3 ∨ k = 4 then decide (m = 1) && decide (1 ≤ n) && decide (n ≤ 512)
 else if k = 5 ∨ k = 6 then decide (m = 0) && decide (1 ≤ n) && decide (n ≤ 512)
 else if k = 7 then decide (n = 0) && decide (1 ≤ m) && decide (m ≤ 16)
 else decide (n = 0) && decide (1 ≤ m) && decide (m ≤ 8)
mutual
def chk : Ty → Int → Int
 | .mk k n _ ins, d => if k < 1 ∨ 8 < k then 9 else if Qd k n ins.length = false then 2 else if 6 ≤ d then 7 else XO ins (d + 1)
def XO : List Ty → Int → Int
 | [], _ => 0
 | x :: xs, d => if chk x d = 0 then XO xs d else chk x d
end
mutual
def Xh : Ty → Bool
 | .mk k _ _ ins => !(decide (k = 4) || decide (k = 6) || decide (k = 8)) && qf ins
def qf : List Ty → Bool
 | [] => true
 | x :: xs => Xh x && qf xs
end
mutual
def KW : Ty → Int
 | .mk k n _ ins => if k = 1 then n else if k = 2 then 1 else if k = 5 then (n + 7) / 8 else if k = 3 then n * VY ins else VY ins
def VY : List Ty → Int
 | [] => 0
 | x :: xs => KW x + VY xs
end
def V4 (t : Ty) : Bool := decide (chk t 0 = 0) && Xh t
def zh (t : Ty) : Int := if V4 t then KW t else 0
mutual
def Xi : Vl → Vl → Bool
 | .mk a b c d bits _ items _ pick, v => decide ([a, b, c, d] = v.num) && decide (pick = v.pick) && decide (bits = v.bits) && VG items v.items
def VG : List Vl → List Vl → Bool
 | [], [] => true
 | x :: xs, y :: ys => Xi x y && VG xs ys
 | _, _ => false
end
theorem Ty.ind {M : Ty → Prop} (h : ∀ k n p ins, (∀ x ∈ ins, M x) → M (.mk k n p ins)) : ∀ t, M t
 | .mk k n p ins => h k n p ins fun x hx => Ty.ind h x
theorem Vl.ind {M : Vl → Prop} (h : ∀ a b c d bits pb items pi pick, (∀ x ∈ items, M x) → M (.mk a b c d bits pb items pi pick)) : ∀ t, M t
 | .mk a b c d bits pb items pi pick => h a b c d bits pb items pi pick fun x hx => Vl.ind h x
theorem chkL_mem : ∀ {l : List Ty} {d : Int}, XO l d = 0 → ∀ x ∈ l, chk x d = 0
 | [], _, _, x, hx => by simp at hx
 | y :: l, d, h, x, hx => by
  rw [XO] at h
  split at h
  ·rename_i h0
   rcases List.mem_cons.1 hx with rfl | hx
   ·exact h0
   ·exact chkL_mem h x hx
  ·rename_i h0; exact absurd h h0
theorem jw : ∀ {l : List Ty}, qf l = true ↔ ∀ x ∈ l, Xh x = true
 | [] => by simp [qf]
 | y :: l => by rw [qf, Bool.and_eq_true, jw]; simp
theorem Vg {k n : Int} {p : Pl} {ins : List Ty} {d : Int} (h : chk (.mk k n p ins) d = 0) : (1 ≤ k ∧ k ≤ 8) ∧ Qd k n ins.length = true ∧ d < 6 ∧ ∀ x ∈ ins, chk x (d + 1) = 0 := by
 rw [chk] at h
 split at h
 ·cases h
 ·split at h
  ·cases h
  ·split at h
   ·cases h
   ·rename_i h1 h2 h3
    exact ⟨by omega, by simpa using h2, by omega, chkL_mem h⟩
def bnd : Nat → Int
 | 0 => 64
 | m + 1 => 512 * bnd m
theorem vu : ∀ m, 64 ≤ bnd m
 | 0 => by decide
 | m + 1 => by have := vu m; rw [bnd]; omega
theorem Jnp {m : Nat} (h : m ≤ 5) : bnd m ≤ 2251799813685248 := by
 have : ∀ m : Nat, m < 6 → bnd m ≤ 2251799813685248 := by decide
 exact this m (by omega)
theorem xJ {B : Int} : ∀ {l : List Ty}, (∀ x ∈ l, 1 ≤ KW x ∧ KW x ≤ B) → (l.length : Int) ≤ VY l ∧ VY l ≤ l.length * B
 | [], _ => by simp [VY]
 | y :: l, h => by
  have h1 := h y (by simp)
  have h2 := xJ (l := l) fun x hx => h x (by simp [hx])
  rw [VY, List.length_cons]
  have e : ((l.length + 1 : Nat) : Int) * B = l.length * B + B := by rw [Int.natCast_add, Int.add_mul]; simp
  omega
theorem Jff (t : Ty) : ∀ d : Int, 0 ≤ d → chk t d = 0 → Xh t = true → 1 ≤ KW t ∧ KW t ≤ bnd (5 - d).toNat := by
 induction t using Ty.ind with
 | h k n p ins ih =>
  intro d hd hc hf
  obtain ⟨hk, ho, h6, hi⟩ := Vg hc
  rw [Xh, Bool.and_eq_true] at hf
  have hb := vu (5 - d).toNat
  have hfix := jw.1 hf.2
  have hne : (k ≠ 4 ∧ k ≠ 6) ∧ k ≠ 8 := by simpa using hf.1
  unfold Qd at ho
  rw [KW]
  by_cases h1 : k = 1
  ·subst h1; simp at ho ⊢; omega
  by_cases h2 : k = 2
  ·subst h2; simp; omega
  by_cases h5 : k = 5
  ·subst h5; simp at ho ⊢; omega
  have hne0 : 1 ≤ ins.length ∧ ins.length ≤ 16 := by
   by_cases h3 : k = 3
   ·subst h3; simp at ho; omega
   ·have : k = 7 := by omega
    subst this; simp at ho; omega
  have hd5 : d < 5 := by
   obtain ⟨x, hx⟩ : ∃ x, x ∈ ins := ⟨ins[0], List.getElem_mem (by omega)⟩
   cases x with
   | mk a b c e => have := (Vg (hi _ hx)).2.2.1; omega
  have hs := xJ (B := bnd (5 - (d + 1)).toNat) fun x hx => ih x hx (d + 1) (by omega) (hi x hx) (hfix x hx)
  have e : (5 - d).toNat = (5 - (d + 1)).toNat + 1 := by omega
  rw [e, bnd]
  have hb2 := vu (5 - (d + 1)).toNat
  generalize bnd (5 - (d + 1)).toNat = B at *
  rw [if_neg h1, if_neg h2, if_neg h5]
  by_cases h3 : k = 3
  ·subst h3
   simp at ho
   have hl : (ins.length : Int) = 1 := by omega
   rw [hl] at hs
   rw [if_pos rfl]
   generalize VY ins = z at *
   constructor
   ·exact Int.le_trans (by omega) (Int.mul_le_mul ho.1.2 hs.1 (by omega) (by omega))
   ·exact Int.le_trans (Int.mul_le_mul ho.2 hs.2 (by omega) (by omega)) (by omega)
  ·rw [if_neg h3]
   generalize VY ins = z at *
   have : (ins.length : Int) * B ≤ 16 * B := Int.mul_le_mul_of_nonneg_right (by omega) (by omega)
   omega
theorem Wf : ∀ {xs ys : List Vl}, VG xs ys = true ↔ xs.length = ys.length ∧ ∀ (i : Nat) (x y : Vl), xs[i]? = some x → ys[i]? = some y → Xi x y = true
 | [], [] => by simp [VG]
 | [], y :: ys => by simp [VG]
 | x :: xs, [] => by simp [VG]
 | x :: xs, y :: ys => by
  rw [VG, Bool.and_eq_true, Wf]
  constructor
  ·rintro ⟨h1, h2, h3⟩
   refine ⟨by simp [h2], fun i a b ha hb => ?_⟩
   cases i with
   | zero => simp at ha hb; subst ha; subst hb; exact h1
   | succ i => exact h3 i a b (by simpa using ha) (by simpa using hb)
  ·rintro ⟨h1, h2⟩
   exact ⟨h2 0 x y rfl rfl, by simpa using h1, fun i a b ha hb => h2 (i + 1) a b (by simpa using ha) (by simpa using hb)⟩
theorem Jfg (v : Vl) : Xi v v = true := by
 induction v using Vl.ind with
 | h a b c d bits pb items pi pick ih =>
  rw [Xi]
  have : VG items items = true := Wf.2 ⟨rfl, fun i x y hx hy => by rw [hx] at hy; cases hy; exact ih x (List.mem_of_getElem? hx)⟩
  simp [Vl.num, Vl.pick, Vl.bits, Vl.items, this]
structure PureMR (P : Program) (f : FuncId) (args : Array Value) (v : Value) (r : Nat) (o o' : Obj) (Rl : Jm) : Prop where
  run : ∀ w, w.heap[r]? = some o → Has Rl w → Calls P f args w fun e w' => e = .returned v ∧ Keep [r] w w' ∧ w'.heap[r]? = some o'
def xK (P : Program) (w : World) (r : Nat) (Rl : Jm) (n : Nat) : Cx := ⟨P, none, w, [r], [], Rl, n⟩
theorem St.startMR {P : Program} {w : World} {r n : Nat} {o : Obj} {Rl : Jm} (h : w.heap[r]? = some o) (hR : Has Rl w) (hne : ∀ p ∈ Rl, p.1 ≠ r) : St (xK P w r Rl n) [(r, o)] (fun _ _ => True) w :=
 ⟨Keep.refl _ _, fun p hp => by rw [List.mem_singleton.1 hp]; exact ⟨.inl List.mem_cons_self, by simp [xK], h⟩, List.pairwise_singleton _ _, fun p hp => ⟨by simp [xK]; exact hne p hp, by simp [xK], hR p hp⟩, by simp [xK], ⟨[], by simp, fun _ _ => trivial⟩⟩
theorem WQ {P : Program} {f : FuncId} {fn : Func} {code : Code} {vs : List Value} {v : Value} {r : Nat} {o o' : Obj} {Rl : Jm} (hne : ∀ p ∈ Rl, p.1 ≠ r) (hf : P.funcs[f]? = some fn) (hb : fn.body = some code) (hlen : Nat.ble vs.length fn.ntmps = true)
  (h : ∀ w, HC (xK P w r Rl fn.ntmps) [] (VB 0 vs) [(r, o)] (fun _ _ => True) code (bodyPostM (FW none) 0 P fn (fun e w' => e = .returned v ∧ ∃ L, (r, o') ∈ L ∧ St (xK P w r Rl fn.ntmps) L (fun _ _ => True) w'))) : PureMR P f vs.toArray v r o o' Rl := ⟨fun w hr hR =>
 (Q7 (xK P w r Rl fn.ntmps) hf hb rfl rfl rfl hlen (St.startMR hr hR hne) (h w)).mono fun _ _ ⟨he, L, hm, hs⟩ => ⟨he, by have := hs.keep; simpa [xK] using this, (hs.own _ hm).2.2⟩⟩
section
variable {c : Cx} {l : Kw} {L : Jm} {X : XP} {Q : Exit → Act → World → Prop} {d : List Deferred}
variable {ops : Array Oper} {rest : List Oper} {i : Nat} {v : Value} {t : TypeId} {ps : String} {af : Array Edge} {gd : Option (Nat × Bool)} {ty t2 : TypeId}
theorem St.apart {w : World} (hs : St c L X w) {k r : Nat} {o : Obj} (hk : L[k]? = some (r, o)) : ∀ p ∈ c.R, p.1 ≠ r := by
 rintro p hp rfl
 have h1 := (hs.own _ (List.mem_of_getElem? hk)).1
 obtain ⟨h2, _, h3⟩ := hs.ext p hp
 rcases h1 with h1 | h1
 ·exact h2 h1
 ·have := JB h3
  exact absurd this (Nat.not_lt.2 h1)
theorem Jkr {k r : Nat} {o o' : Obj} {L' : Jm} {Rl : Jm} {f : Operand} {args : Array Operand} {at_ : Array TypeId} {g : FuncId} {vs : List Value}
  (hg : Kj l ops ⟨some i, .call ⟨.value f, args, at_⟩, ty, ps, af, gd⟩ = some true) (hi : Nat.ble (i + 1) c.n = true) (hca : Kq l f args = some (g, vs)) (eg : Enters c.P g) (hk : L[k]? = some (r, o))
  (hp : (∀ p ∈ Rl, p.1 ≠ r) → PureMR c.P g vs.toArray v r o o' Rl) (hR : ∀ p ∈ Rl, p ∈ c.R) (hL : L.set k (r, o') = L') (h : HL c d ((i, v) :: l) L' X ops rest Q) : HL c d l L X ops (⟨some i, .call ⟨.value f, args, at_⟩, ty, ps, af, gd⟩ :: rest) Q :=
 WZ (α := Unit) (V := fun _ => v) (L' := fun _ => L') (X' := fun _ => X) hg hi hca eg (fun w hs => ((hp fun p hq => hs.apart hk p (hR p hq)).run w (hs.get hk) (fun p hq => hs.readR (hR p hq))).mono fun _ _ ⟨he, hkp, ho⟩ => ⟨(), he, hL ▸ hs.set hk hkp ho⟩) (fun _ => h)
theorem wa (hg : Kj l ops ⟨some i, .makeMap t none, ty, ps, af, gd⟩ = some true) (hi : Nat.ble (i + 1) c.n = true)
  (h : ∀ r, HL c d ((i, .map (some r)) :: l) ((r, .map #[] 0) :: L) X ops rest Q) : HL c d l L X ops (⟨some i, .makeMap t none, ty, ps, af, gd⟩ :: rest) Q :=
 V9 (α := Nat) (V := fun r => .map (some r)) (L' := fun r => (r, .map #[] 0) :: L) (X' := fun _ => X) hg rfl rfl hi (fun a w _ hs => ⟨w.heap.size, w.alloc (.map #[] 0), by simp only [execOp, Sem.run_bind, Option.map]; rfl, hs.alloc _⟩) h
theorem KU {m x y : Operand} {kt et r clock q : Nat} {es : Array MapEntry} {key val : Value} {dom : Value → Prop} {eq : Value → Value → Bool} {L' : Jm} (K : KeyL c.P kt dom eq) (hg : Kj l ops ⟨none, .insert t m x y, ty, ps, af, gd⟩ = some true)
  (hm : Kg l m = some (.map (some r))) (hx : Kg l x = some key) (hy : Kg l y = some val) (hq : L[q]? = some (r, .map es clock)) (ht : qC c.P t = some (kt, et)) (hk : dom key) (he : ∀ e ∈ es.toList, dom e.key) (hn : Kz eq key (es.toList.map Ve) = none)
  (hL : L.set q (r, .map (es.push { key := key, val := val, born := clock }) (clock + 1)) = L') (h : HL c d l L' X ops rest Q) : HL c d l L X ops (⟨none, .insert t m x y, ty, ps, af, gd⟩ :: rest) Q :=
 xj hg rfl rfl (fun a w hf hs => ⟨_, by
  simp only [execOp, Sem.run_bind]
  rw [hf.eval hm, hf.eval hx, hf.eval hy, vP K ht (hs.get hq) hk he hn]; rfl, hL ▸ hs.set hq (Keep.putObj r _) (World.putObj_heap_same (JB (hs.get hq)))⟩) h
end
def isI (v : Value) : Prop := ∃ n, v = .int .i64 n
def YB (x y : Value) : Bool := eqS x y
theorem wb {P : Program} {t : TypeId} (ht : P.underlying t = some (.int .i64)) (b : Bool) (n : Nat) (x : Int) (w : World) : (Instr.checkKey b (n + 1) t (.int .i64 x)).run P w = .ok () w := by
 simp [Instr.checkKey, Sem.run_bind, KF ht, Result.andThen]
theorem Xz {P : Program} {t : TypeId} (ht : P.underlying t = some (.int .i64)) : KeyL P t isI YB where
 now := ⟨_, ht, fun a b ⟨a1, ha⟩ ⟨b1, hb⟩ => by subst ha hb; exact .inr (by simp [Instr.sameNow, YB, eqS])⟩
 equal := by
  rintro _ _ w ⟨a, rfl⟩ ⟨b, rfl⟩
  exact xw (by simp [VU, ht]) (by simp [VU, ht]) 9999 w
 check := by
  rintro _ b w ⟨x, rfl⟩
  exact wb ht b 9999 x w
theorem Jnq (a b : Int) : YB (.int .i64 a) (.int .i64 b) = (a == b) := rfl
structure GE where
  α : Type
  V : α → Value
  LL : α → Jm
  x0 : α
inductive Kb
  | quiet
  | pure
  | grow (e : GE)
  | turn
  | dep (ts : List Nat) (e : List Value → GE)
abbrev ZU := Nat → Kb
def Kb.isGrow : Kb → Bool
 | .grow _ => true
 | .dep _ _ => true
 | _ => false
def Xj (a : Act) (ts : List Nat) : List Value := ts.map fun t => a.eval (.tmp t)
def Kb.ge : Kb → Act → Option GE
 | .grow e, _ => some e
 | .dep ts e, a => some (e (Xj a ts))
 | _, _ => none
def Jks (ops : Array Oper) (tb : ZU) (m : Nat) : Prop :=
 ∀ j, j < m → ∀ o, ops[j]? = some o → ∀ ts e, tb j = .dep ts e → ∀ t ∈ ts, t ∈ o.looksAt ops
theorem Jkt {ops : Array Oper} {o : Oper} {a : Act} {dst : Option Tmp} {v : Value} {ts : List Nat} (h : ∀ d, dst = some d → d ∉ o.looksAt ops) (ht : ∀ t ∈ ts, t ∈ o.looksAt ops) : Xj (a.put dst v) ts = Xj a ts :=
 List.map_congr_left fun t hm => Act.eval_put fun d hd e => by cases e; exact h t hd (ht t hm)
theorem wc {ops : Array Oper} {tb : ZU} {m j : Nat} {o : Oper} {a : Act} {dst : Option Tmp} {v : Value} (hd : Jks ops tb m) (hj : j < m) (ho : ops[j]? = some o) (h : ∀ d, dst = some d → d ∉ o.looksAt ops) : (tb j).ge (a.put dst v) = (tb j).ge a := by
 cases ht : tb j with
 | dep ts e => show some (e (Xj (a.put dst v) ts)) = some (e (Xj a ts)); rw [Jkt h (hd j hj o ho ts e ht)]
 | _ => rfl
theorem zi {k : Kb} (a : Act) (h : k.isGrow = true) : ∃ e, k.ge a = some e := by
 cases k with
 | grow e => exact ⟨e, rfl⟩
 | dep ts e => exact ⟨_, rfl⟩
 | _ => cases h
def Kb.isTurn : Kb → Bool
 | .turn => true
 | _ => false
def Kb.isQuiet : Kb → Bool
 | .quiet => true
 | _ => false
section
variable {c : Cx} {X : XP} {S : Jm} {ops : Array Oper} {md : Region.Mode}
def Jnr (LL : Jm) (w w' : World) : Prop := Keep [] w w' ∧ (∀ p ∈ LL, w.heap.size ≤ p.1 ∧ w'.heap[p.1]? = some p.2) ∧ LL.Pairwise fun p q => p.1 ≠ q.1
def YG (c : Cx) (X : XP) (S : Jm) (ops : Array Oper) (o : Oper) (e : GE) (a : Act) : Prop :=
 Region.wanted o (yielded ops a.tmps) = true ∧ ∀ E, SubS S E → ∀ w, St c E X w → actAt c o a w fun u w' => ∃ x, u = e.V x ∧ Jnr (e.LL x) w w'
theorem YG.same {o : Oper} {e : GE} {a a' : Act} (hy : YG c X S ops o e a) (he : execOp a'.eval o = execOp a.eval o) (hw : Region.wanted o (yielded ops a'.tmps) = Region.wanted o (yielded ops a.tmps)) : YG c X S ops o e a' :=
 ⟨hw.trans hy.1, fun E hE w hs => (hy.2 E hE w hs).same he⟩
def YT (c : Cx) (E : Jm) (X : XP) (ops : Array Oper) (o : Oper) {α : Type} (V : α → Value) (G : α → Jm) (a : Act) : Prop :=
 Region.wanted o (yielded ops a.tmps) = true ∧ ∀ w, St c E X w → actAt c o a w fun u w' => ∃ x, u = V x ∧ St c (G x) X w'
def stB (c : Cx) (X : XP) (S : Jm) (ops : Array Oper) (tb : ZU) (i : Nat) (K : Jm → Act → Prop) (E : Jm) (a : Act) : Prop :=
 ∃ o, ops[i]? = some o ∧ match tb i with
  | .quiet => ∃ v, YQ c E X ops o v a ∧ K E (a.put o.dst v)
  | .pure => ∃ v, YP c X S ops o v a ∧ K E (a.put o.dst v)
  | .grow e => (YG c X S ops o e a ∧ ∀ x, K (e.LL x ++ E) (a.put o.dst (e.V x))) ∨ (Region.wanted o (yielded ops a.tmps) = false ∧ K E (a.put o.dst undef))
  | .turn => (∃ (α : Type) (V : α → Value) (G : α → Jm), YT c E X ops o V G a ∧ ∀ x, SubS S (G x) ∧ K (G x) (a.put o.dst (V x))) ∨ (Region.wanted o (yielded ops a.tmps) = false ∧ K E (a.put o.dst undef))
  | .dep ts e => (YG c X S ops o (e (Xj a ts)) a ∧ ∀ x, K ((e (Xj a ts)).LL x ++ E) (a.put o.dst ((e (Xj a ts)).V x))) ∨ (Region.wanted o (yielded ops a.tmps) = false ∧ K E (a.put o.dst undef))
theorem qg {tb : ZU} {i : Nat} {K : Jm → Act → Prop} {E : Jm} {a : Act} {e : GE} (h : (tb i).ge a = some e) :
  stB c X S ops tb i K E a ↔ ∃ o, ops[i]? = some o ∧ ((YG c X S ops o e a ∧ ∀ x, K (e.LL x ++ E) (a.put o.dst (e.V x))) ∨ (Region.wanted o (yielded ops a.tmps) = false ∧ K E (a.put o.dst undef))) := by
 unfold stB
 cases ht : tb i with
 | grow e' => rw [ht] at h; cases h; exact Iff.rfl
 | dep ts e' => rw [ht] at h; cases h; exact Iff.rfl
 | _ => rw [ht] at h; cases h
def XQ (c : Cx) (X : XP) (S : Jm) (ops : Array Oper) (md : Region.Mode) (tb : ZU) (m : Nat) (T : Jm → Array Bool → Act → Prop) : Nat → Array Bool → Jm → Act → Prop
 | 0, listed, E, a => T E listed a
 | f + 1, listed, E, a => Region.ready md ops listed ≠ [] ∧ ∀ i ∈ Region.ready md ops listed, i < m ∧ stB c X S ops tb i (fun E' a' => XQ c X S ops md tb m T f (listed.setIfInBounds i true) E' a') E a
theorem SubS.grow {E LL : Jm} (h : SubS S E) : SubS S (LL ++ E) := fun p hp => List.mem_append_right _ (h p hp)
theorem YQ.perm {E E' : Jm} {o : Oper} {v : Value} {a : Act} (hy : YQ c E X ops o v a) (hp : E.Perm E') : YQ c E' X ops o v a := by
 rcases hy with ⟨h1, h2⟩ | h
 ·exact .inl ⟨h1, fun w hs => h2 w (hs.perm hp.symm)⟩
 ·exact .inr h
theorem VH {tb : ZU} {m : Nat} {T : Jm → Array Bool → Act → Prop} (hTp : ∀ E E' listed a, E.Perm E' → T E listed a → T E' listed a) :
  ∀ (f : Nat) (listed : Array Bool) (E E' : Jm) (a : Act), E.Perm E' → XQ c X S ops md tb m T f listed E a → XQ c X S ops md tb m T f listed E' a
 | 0, listed, E, E', a, hp, h => hTp _ _ _ _ hp h
 | f + 1, listed, E, E', a, hp, h => by
  refine ⟨h.1, fun i hi => ⟨(h.2 i hi).1, ?_⟩⟩
  obtain ⟨o, ho, hm⟩ := (h.2 i hi).2
  refine ⟨o, ho, ?_⟩
  cases ha : tb i with
  | quiet => rw [ha] at hm; obtain ⟨v, h1, h2⟩ := hm; exact ⟨v, h1.perm hp, VH hTp f _ _ _ _ hp h2⟩
  | pure => rw [ha] at hm; obtain ⟨v, h1, h2⟩ := hm; exact ⟨v, h1, VH hTp f _ _ _ _ hp h2⟩
  | grow e =>
   rw [ha] at hm
   rcases hm with ⟨h1, h2⟩ | ⟨h1, h2⟩
   ·exact .inl ⟨h1, fun x => VH hTp f _ _ _ _ (hp.append_left _) (h2 x)⟩
   ·exact .inr ⟨h1, VH hTp f _ _ _ _ hp h2⟩
  | turn =>
   rw [ha] at hm
   rcases hm with ⟨α, V, G, ⟨h1, h2⟩, h3⟩ | ⟨h1, h2⟩
   ·exact .inl ⟨α, V, G, ⟨h1, fun w hs => h2 w (hs.perm hp.symm)⟩, h3⟩
   ·exact .inr ⟨h1, VH hTp f _ _ _ _ hp h2⟩
  | dep ts e =>
   rw [ha] at hm
   rcases hm with ⟨h1, h2⟩ | ⟨h1, h2⟩
   ·exact .inl ⟨h1, fun x => VH hTp f _ _ _ _ (hp.append_left _) (h2 x)⟩
   ·exact .inr ⟨h1, VH hTp f _ _ _ _ hp h2⟩
theorem Jxm {tb : ZU} {i : Nat} {K : Jm → Act → Prop} {K' : Act → World → Prop} {Q' : Exit → Act → World → Prop} {E : Jm} {a : Act} {w : World} (hnd : ∀ (j : Nat) (o : Oper), ops[j]? = some o → Ku o.op = true)
  (hs : St c E X w) (hE : SubS S E) (h : ∀ E a w', SubS S E → St c E X w' → K E a → K' a w') (hh : stB c X S ops tb i K E a) : wpOpIn (FW c.ro) 0 c.P ops Q' i K' a w := by
 obtain ⟨o, ho, hm⟩ := hh
 have no : Region.wanted o (yielded ops a.tmps) = false → K E (a.put o.dst undef) → wpOpIn (FW c.ro) 0 c.P ops Q' i K' a w := fun hw hk => by
  unfold wpOpIn
  simp only [ho]
  rw [if_neg (by rw [hw]; simp)]
  exact ⟨Qt, h E _ w hE hs hk⟩
 have yes : ∀ v, YQ c E X ops o v a → K E (a.put o.dst v) → wpOpIn (FW c.ro) 0 c.P ops Q' i K' a w := fun v hy hk => by
  rcases hy with ⟨hw, hq⟩ | ⟨hw, rfl⟩
  ·exact qb ho (hnd i o ho) hw (hq w hs) fun u w' ⟨e, hk'⟩ => h E _ w' hE (hs.more hk') (e ▸ hk)
  ·exact no hw hk
 cases ha : tb i with
 | quiet => rw [ha] at hm; obtain ⟨v, h1, h2⟩ := hm; exact yes v h1 h2
 | pure => rw [ha] at hm; obtain ⟨v, h1, h2⟩ := hm; exact yes v (h1.quiet hE) h2
 | grow e =>
  rw [ha] at hm
  rcases hm with ⟨⟨hw, hr⟩, h2⟩ | ⟨hw, h2⟩
  ·exact qb ho (hnd i o ho) hw (hr E hE w hs) fun u w' ⟨x, e', hk, hf, hd⟩ => h _ _ w' hE.grow (hs.freshs hk hf hd) (e' ▸ (h2 x))
  ·exact no hw h2
 | turn =>
  rw [ha] at hm
  rcases hm with ⟨α, V, G, ⟨hw, hr⟩, h2⟩ | ⟨hw, h2⟩
  ·exact qb ho (hnd i o ho) hw (hr w hs) fun u w' ⟨x, e', hs'⟩ => h _ _ w' (h2 x).1 hs' (e' ▸ (h2 x).2)
  ·exact no hw h2
 | dep ts e =>
  rw [ha] at hm
  rcases hm with ⟨⟨hw, hr⟩, h2⟩ | ⟨hw, h2⟩
  ·exact qb ho (hnd i o ho) hw (hr E hE w hs) fun u w' ⟨x, e', hk, hf, hd⟩ => h _ _ w' hE.grow (hs.freshs hk hf hd) (e' ▸ (h2 x))
  ·exact no hw h2
theorem Jhm {tb : ZU} {m g : Nat} {T : Jm → Array Bool → Act → Prop} {Q' : Exit → Act → World → Prop} (hnd : ∀ (j : Nat) (o : Oper), ops[j]? = some o → Ku o.op = true)
  (hT : ∀ E listed a w, SubS S E → St c E X w → T E listed a → wpAnyIn (FW c.ro) 0 c.P md ops Q' g listed a w) :
  ∀ (f : Nat) (listed : Array Bool) (E : Jm) (a : Act) (w : World), SubS S E → St c E X w → XQ c X S ops md tb m T f listed E a → wpAnyIn (FW c.ro) 0 c.P md ops Q' (f + g) listed a w
 | 0, listed, E, a, w, hE, hw, h => by rw [Nat.zero_add]; exact hT _ _ _ _ hE hw h
 | f + 1, listed, E, a, w, hE, hw, h => by
  rw [show f + 1 + g = (f + g) + 1 from by omega]
  exact ⟨fun h0 => absurd h0 h.1, fun i hi => Jxm hnd hw hE (fun E' a' w' hE' hw' h' => Jhm hnd hT f _ E' a' w' hE' hw' h') (h.2 i hi).2⟩
def Jfh (md : Region.Mode) (ops : Array Oper) (tb : ZU) (m i : Nat) : Prop :=
 tb i = .quiet → ∀ j, j < m → tb j = .turn → ∀ listed, i ∈ Region.ready md ops listed → j ∈ Region.ready md ops listed → False
def okG (md : Region.Mode) (ops : Array Oper) (tb : ZU) (i : Nat) : Nat → Array Bool → Bool
 | 0, listed => (Region.ready md ops listed).all fun j => j == i
 | f + 1, listed => (Region.ready md ops listed).all fun j => j == i || ((tb j).isGrow && okG md ops tb i f (listed.setIfInBounds j true))
theorem Jfi {tb : ZU} {m i : Nat} {oi : Oper} {v : Value} {T : Jm → Array Bool → Act → Prop} (hi : ops[i]? = some oi) (hai : tb i = .quiet ∨ tb i = .pure) (hsel : ∀ (j : Nat) (o : Oper) cs b, ops[j]? = some o → o.op ≠ .select cs b)
  (hbd : Jfh md ops tb m i) (hdep : Jks ops tb m)
  (hlt : ∀ listed, HeadInv md ops m listed → listed.getD i true = false → ∀ j ∈ Region.ready md ops listed, j < m)
  (hT : ∀ E listed a, T E listed a → ∀ j ∈ Region.ready md ops listed, m ≤ j) :
  ∀ (f : Nat) (listed : Array Bool) (E : Jm) (a : Act), HeadInv md ops m listed →
   (∀ j oj, ops[j]? = some oj → j ≠ i → listed.getD j true = false → (∀ e ∈ oj.after, Region.binds md e = true → e.on ≠ i) → oi.apart ops oj = true) →
   SubS S E → i ∈ Region.ready md ops listed → (YQ c E X ops oi v a ∧ (tb i = .pure → YP c X S ops oi v a)) →
   XQ c X S ops md tb m T f (listed.setIfInBounds i true) E (a.put oi.dst v) → XQ c X S ops md tb m T (f + 1) listed E a := by
 have self : ∀ {K : Jm → Act → Prop} {E : Jm} {a : Act}, (YQ c E X ops oi v a ∧ (tb i = .pure → YP c X S ops oi v a)) → K E (a.put oi.dst v) → stB c X S ops tb i K E a := by
  intro K E a hy H
  refine ⟨oi, hi, ?_⟩
  rcases hai with h | h <;> rw [h]
  ·exact ⟨v, hy.1, H⟩
  ·exact ⟨v, hy.2 h, H⟩
 intro f
 induction f with
 | zero =>
  intro listed E a inv _ hSE hr hy H
  refine ⟨fun h => (by rw [h] at hr; cases hr), fun j hj => ⟨hlt _ inv (mem_ready.1 hr).1 j hj, ?_⟩⟩
  by_cases hji : j = i
  ·subst hji; exact self hy H
  ·have h1 := hT _ _ _ H j (ready_mono hj hji)
   have h2 := hlt _ inv (mem_ready.1 hr).1 j hj
   omega
 | succ f ih =>
  intro listed E a inv hfree hSE hr hy H
  refine ⟨fun h => (by rw [h] at hr; cases hr), fun j hj => ?_⟩
  have hjm := hlt _ inv (mem_ready.1 hr).1 j hj
  refine ⟨hjm, ?_⟩
  by_cases hji : j = i
  ·subst hji; exact self hy H
  ·obtain ⟨oj, hoj, hm⟩ := (H.2 j (ready_mono hj hji)).2
   obtain ⟨hjun, oj', hoj', hall⟩ := mem_ready.1 hj
   rw [hoj] at hoj'
   cases hoj'
   have hnot : ∀ e ∈ oj.after, Region.binds md e = true → e.on ≠ i := fun e he hb heq => by
    have h2 := hall e he hb
    rw [heq, getD_both (mem_ready.1 hr).1] at h2
    cases h2
   obtain ⟨h1, h2, h3⟩ := Oper.apart_spec (hfree j oj hoj hji hjun hnot)
   have hfree' : ∀ k ok, ops[k]? = some ok → k ≠ i → (listed.setIfInBounds j true).getD k true = false →
     (∀ e ∈ ok.after, Region.binds md e = true → e.on ≠ i) → oi.apart ops ok = true := fun k ok hk hki hun hno => by
    refine hfree k ok hk hki ?_ hno
    by_cases hjk : j = k
    ·subst hjk; exact hjun
    ·rw [getD_set_ne true hjk] at hun; exact hun
   have back1 := fun u => (execOp_put oj (fun cs b => hsel j oj cs b hoj) a oi.dst u h1)
   have back2 := fun u => (wanted_put oj a oi.dst u h1)
   have forth1 := fun u => (execOp_put oi (fun cs b => hsel i oi cs b hi) a oj.dst u h3)
   have forth2 := fun u => (wanted_put oi a oj.dst u h3)
   have go : ∀ E' u, SubS S E' → (E.Sublist E' ∨ tb i = .pure) → XQ c X S ops md tb m T f ((listed.setIfInBounds i true).setIfInBounds j true) E' ((a.put oi.dst v).put oj.dst u) →
     XQ c X S ops md tb m T (f + 1) (listed.setIfInBounds j true) E' (a.put oj.dst u) := fun E' u hSE' hsub hK => by
    refine ih (listed.setIfInBounds j true) E' (a.put oj.dst u) (inv.set hj hjm) hfree' hSE' (ready_mono hr (Ne.symm hji)) ⟨?_, fun hp => (hy.2 hp).same (forth1 u) (forth2 u)⟩ ?_
    ·rcases hsub with hsub | hp
     ·exact (hy.1.weak hsub).same (forth1 u) (forth2 u)
     ·exact ((hy.2 hp).same (forth1 u) (forth2 u)).quiet hSE'
    ·rw [Array.setIfInBounds_comm _ _ hji, ← Act.put_comm a v u h2]
     exact hK
   refine ⟨oj, hoj, ?_⟩
   cases ha : tb j with
   | quiet => rw [ha] at hm; obtain ⟨u, g1, g2⟩ := hm; exact ⟨u, g1.same (back1 v).symm (back2 v).symm, go E u hSE (.inl (List.Sublist.refl _)) g2⟩
   | pure => rw [ha] at hm; obtain ⟨u, g1, g2⟩ := hm; exact ⟨u, g1.same (back1 v).symm (back2 v).symm, go E u hSE (.inl (List.Sublist.refl _)) g2⟩
   | grow e =>
    rw [ha] at hm
    rcases hm with ⟨g1, g2⟩ | ⟨g1, g2⟩
    ·exact .inl ⟨g1.same (back1 v).symm (back2 v).symm, fun x => go _ _ hSE.grow (.inl (List.sublist_append_right _ _)) (g2 x)⟩
    ·exact .inr ⟨(back2 v).symm.trans g1, go E undef hSE (.inl (List.Sublist.refl _)) g2⟩
   | turn =>
    rw [ha] at hm
    rcases hm with ⟨α, V, G, ⟨g0, g1⟩, g2⟩ | ⟨g1, g2⟩
    ·refine .inl ⟨α, V, G, ⟨(back2 v).symm.trans g0, fun w hs => (g1 w hs).same (back1 v).symm⟩, fun x => ⟨(g2 x).1, go _ _ (g2 x).1 ?_ (g2 x).2⟩⟩
     rcases hai with hq | hp
     ·exact (hbd hq j hjm ha listed hr hj).elim
     ·exact .inr hp
    ·exact .inr ⟨(back2 v).symm.trans g1, go E undef hSE (.inl (List.Sublist.refl _)) g2⟩
   | dep ts e =>
    obtain ⟨o', ho', hm'⟩ := (qg (e := e (Xj a ts)) ((wc hdep hjm hoj h1).trans (by rw [ha]; rfl))).1 (H.2 j (ready_mono hj hji)).2
    rw [hoj] at ho'
    cases ho'
    rcases hm' with ⟨g1, g2⟩ | ⟨g1, g2⟩
    ·exact .inl ⟨g1.same (back1 v).symm (back2 v).symm, fun x => go _ _ hSE.grow (.inl (List.sublist_append_right _ _)) (g2 x)⟩
    ·exact .inr ⟨(back2 v).symm.trans g1, go E undef hSE (.inl (List.Sublist.refl _)) g2⟩
theorem Jck {tb : ZU} {m i : Nat} {oi : Oper} {T : Jm → Array Bool → Act → Prop} (hi : ops[i]? = some oi) (hai : (tb i).isGrow = true) (hdep : Jks ops tb m) (hsel : ∀ (j : Nat) (o : Oper) cs b, ops[j]? = some o → o.op ≠ .select cs b)
  (hlt : ∀ listed, HeadInv md ops m listed → listed.getD i true = false → ∀ j ∈ Region.ready md ops listed, j < m)
  (hT : ∀ E listed a, T E listed a → ∀ j ∈ Region.ready md ops listed, m ≤ j) :
  ∀ (f : Nat) (listed : Array Bool) (E : Jm) (a : Act), HeadInv md ops m listed →
   (∀ j oj, ops[j]? = some oj → j ≠ i → listed.getD j true = false → (∀ e ∈ oj.after, Region.binds md e = true → e.on ≠ i) → oi.apart ops oj = true) →
   SubS S E → i ∈ Region.ready md ops listed → Region.wanted oi (yielded ops a.tmps) = false →
   XQ c X S ops md tb m T f (listed.setIfInBounds i true) E (a.put oi.dst undef) → XQ c X S ops md tb m T (f + 1) listed E a := by
 have self : ∀ {K : Jm → Act → Prop} {E : Jm} {a : Act}, Region.wanted oi (yielded ops a.tmps) = false → K E (a.put oi.dst undef) → stB c X S ops tb i K E a := by
  intro K E a hy H
  obtain ⟨e, he⟩ := zi a hai
  exact (qg he).2 ⟨oi, hi, .inr ⟨hy, H⟩⟩
 intro f
 induction f with
 | zero =>
  intro listed E a inv _ hSE hr hy H
  refine ⟨fun h => (by rw [h] at hr; cases hr), fun j hj => ⟨hlt _ inv (mem_ready.1 hr).1 j hj, ?_⟩⟩
  by_cases hji : j = i
  ·subst hji; exact self hy H
  ·have h1 := hT _ _ _ H j (ready_mono hj hji)
   have h2 := hlt _ inv (mem_ready.1 hr).1 j hj
   omega
 | succ f ih =>
  intro listed E a inv hfree hSE hr hy H
  refine ⟨fun h => (by rw [h] at hr; cases hr), fun j hj => ?_⟩
  have hjm := hlt _ inv (mem_ready.1 hr).1 j hj
  refine ⟨hjm, ?_⟩
  by_cases hji : j = i
  ·subst hji; exact self hy H
  ·obtain ⟨oj, hoj, hm⟩ := (H.2 j (ready_mono hj hji)).2
   obtain ⟨hjun, oj', hoj', hall⟩ := mem_ready.1 hj
   rw [hoj] at hoj'
   cases hoj'
   have hnot : ∀ e ∈ oj.after, Region.binds md e = true → e.on ≠ i := fun e he hb heq => by
    have h2 := hall e he hb
    rw [heq, getD_both (mem_ready.1 hr).1] at h2
    cases h2
   obtain ⟨h1, h2, h3⟩ := Oper.apart_spec (hfree j oj hoj hji hjun hnot)
   have hfree' : ∀ k ok, ops[k]? = some ok → k ≠ i → (listed.setIfInBounds j true).getD k true = false →
     (∀ e ∈ ok.after, Region.binds md e = true → e.on ≠ i) → oi.apart ops ok = true := fun k ok hk hki hun hno => by
    refine hfree k ok hk hki ?_ hno
    by_cases hjk : j = k
    ·subst hjk; exact hjun
    ·rw [getD_set_ne true hjk] at hun; exact hun
   have back1 := fun u => (execOp_put oj (fun cs b => hsel j oj cs b hoj) a oi.dst u h1)
   have back2 := fun u => (wanted_put oj a oi.dst u h1)
   have forth1 := fun u => (execOp_put oi (fun cs b => hsel i oi cs b hi) a oj.dst u h3)
   have forth2 := fun u => (wanted_put oi a oj.dst u h3)
   have go : ∀ E' u, SubS S E' → XQ c X S ops md tb m T f ((listed.setIfInBounds i true).setIfInBounds j true) E' ((a.put oi.dst undef).put oj.dst u) →
     XQ c X S ops md tb m T (f + 1) (listed.setIfInBounds j true) E' (a.put oj.dst u) := fun E' u hSE' hK => by
    refine ih (listed.setIfInBounds j true) E' (a.put oj.dst u) (inv.set hj hjm) hfree' hSE' (ready_mono hr (Ne.symm hji)) ((forth2 u).trans hy) ?_
    rw [Array.setIfInBounds_comm _ _ hji, ← Act.put_comm a undef u h2]
    exact hK
   refine ⟨oj, hoj, ?_⟩
   cases ha : tb j with
   | quiet => rw [ha] at hm; obtain ⟨u, g1, g2⟩ := hm; exact ⟨u, g1.same (back1 undef).symm (back2 undef).symm, go E u hSE g2⟩
   | pure => rw [ha] at hm; obtain ⟨u, g1, g2⟩ := hm; exact ⟨u, g1.same (back1 undef).symm (back2 undef).symm, go E u hSE g2⟩
   | grow e =>
    rw [ha] at hm
    rcases hm with ⟨g1, g2⟩ | ⟨g1, g2⟩
    ·exact .inl ⟨g1.same (back1 undef).symm (back2 undef).symm, fun x => go _ _ hSE.grow (g2 x)⟩
    ·exact .inr ⟨(back2 undef).symm.trans g1, go E undef hSE g2⟩
   | turn =>
    rw [ha] at hm
    rcases hm with ⟨α, V, G, ⟨g0, g1⟩, g2⟩ | ⟨g1, g2⟩
    ·exact .inl ⟨α, V, G, ⟨(back2 undef).symm.trans g0, fun w hs => (g1 w hs).same (back1 undef).symm⟩, fun x => ⟨(g2 x).1, go _ _ (g2 x).1 (g2 x).2⟩⟩
    ·exact .inr ⟨(back2 undef).symm.trans g1, go E undef hSE g2⟩
   | dep ts e =>
    obtain ⟨o', ho', hm'⟩ := (qg (e := e (Xj a ts)) ((wc hdep hjm hoj h1).trans (by rw [ha]; rfl))).1 (H.2 j (ready_mono hj hji)).2
    rw [hoj] at ho'
    cases ho'
    rcases hm' with ⟨g1, g2⟩ | ⟨g1, g2⟩
    ·exact .inl ⟨g1.same (back1 undef).symm (back2 undef).symm, fun x => go _ _ hSE.grow (g2 x)⟩
    ·exact .inr ⟨(back2 undef).symm.trans g1, go E undef hSE g2⟩
theorem zj {tb : ZU} {m i : Nat} {oi : Oper} {ei : GE} {T : Jm → Array Bool → Act → Prop} (hi : ops[i]? = some oi) (him : i < m) (hdep : Jks ops tb m) (hsel : ∀ (j : Nat) (o : Oper) cs b, ops[j]? = some o → o.op ≠ .select cs b)
  (hTp : ∀ E E' listed a, E.Perm E' → T E listed a → T E' listed a)
  (hlt : ∀ listed, HeadInv md ops m listed → listed.getD i true = false → ∀ j ∈ Region.ready md ops listed, j < m)
  (hT : ∀ E listed a, T E listed a → ∀ j ∈ Region.ready md ops listed, m ≤ j) :
  ∀ (f : Nat) (listed : Array Bool) (E : Jm) (a : Act), HeadInv md ops m listed →
   (∀ j oj, ops[j]? = some oj → j ≠ i → listed.getD j true = false → (∀ e ∈ oj.after, Region.binds md e = true → e.on ≠ i) → oi.apart ops oj = true) →
   SubS S E → (tb i).ge a = some ei → i ∈ Region.ready md ops listed → okG md ops tb i f listed = true → YG c X S ops oi ei a →
   (∀ x, XQ c X S ops md tb m T f (listed.setIfInBounds i true) (ei.LL x ++ E) (a.put oi.dst (ei.V x))) → XQ c X S ops md tb m T (f + 1) listed E a := by
 have self : ∀ {K : Jm → Act → Prop} {E : Jm} {a : Act}, (tb i).ge a = some ei → YG c X S ops oi ei a → (∀ x, K (ei.LL x ++ E) (a.put oi.dst (ei.V x))) → stB c X S ops tb i K E a := by
  intro K E a hai hy H
  exact (qg hai).2 ⟨oi, hi, .inl ⟨hy, H⟩⟩
 intro f
 induction f with
 | zero =>
  intro listed E a inv _ hSE hai hr hok hy H
  refine ⟨fun h => (by rw [h] at hr; cases hr), fun j hj => ⟨hlt _ inv (mem_ready.1 hr).1 j hj, ?_⟩⟩
  by_cases hji : j = i
  ·subst hji; exact self hai hy H
  ·have h1 := hT _ _ _ (H ei.x0) j (ready_mono hj hji)
   have h2 := hlt _ inv (mem_ready.1 hr).1 j hj
   omega
 | succ f ih =>
  intro listed E a inv hfree hSE hai hr hok hy H
  refine ⟨fun h => (by rw [h] at hr; cases hr), fun j hj => ?_⟩
  have hjm := hlt _ inv (mem_ready.1 hr).1 j hj
  refine ⟨hjm, ?_⟩
  by_cases hji : j = i
  ·subst hji; exact self hai hy H
  ·unfold okG at hok
   have hokj := List.all_eq_true.1 hok j hj
   simp only [Bool.or_eq_true, beq_iff_eq, hji, false_or, Bool.and_eq_true] at hokj
   obtain ⟨hgj, hok'⟩ := hokj
   obtain ⟨ej, ha⟩ := zi a hgj
   obtain ⟨hjun, oj, hoj, hall⟩ := mem_ready.1 hj
   have hnot : ∀ e ∈ oj.after, Region.binds md e = true → e.on ≠ i := fun e he hb heq => by
    have h2 := hall e he hb
    rw [heq, getD_both (mem_ready.1 hr).1] at h2
    cases h2
   obtain ⟨h1, h2, h3⟩ := Oper.apart_spec (hfree j oj hoj hji hjun hnot)
   have hfree' : ∀ k ok, ops[k]? = some ok → k ≠ i → (listed.setIfInBounds j true).getD k true = false →
     (∀ e ∈ ok.after, Region.binds md e = true → e.on ≠ i) → oi.apart ops ok = true := fun k ok hk hki hun hno => by
    refine hfree k ok hk hki ?_ hno
    by_cases hjk : j = k
    ·subst hjk; exact hjun
    ·rw [getD_set_ne true hjk] at hun; exact hun
   have back1 := fun u => (execOp_put oj (fun cs b => hsel j oj cs b hoj) a oi.dst u h1)
   have back2 := fun u => (wanted_put oj a oi.dst u h1)
   have forth1 := fun u => (execOp_put oi (fun cs b => hsel i oi cs b hi) a oj.dst u h3)
   have forth2 := fun u => (wanted_put oi a oj.dst u h3)
   have hstep : ∀ x, (YG c X S ops oj ej (a.put oi.dst (ei.V x)) ∧ ∀ y, XQ c X S ops md tb m T f ((listed.setIfInBounds i true).setIfInBounds j true) (ej.LL y ++ (ei.LL x ++ E)) ((a.put oi.dst (ei.V x)).put oj.dst (ej.V y))) ∨
     (Region.wanted oj (yielded ops (a.put oi.dst (ei.V x)).tmps) = false ∧ XQ c X S ops md tb m T f ((listed.setIfInBounds i true).setIfInBounds j true) (ei.LL x ++ E) ((a.put oi.dst (ei.V x)).put oj.dst undef)) := fun x => by
    obtain ⟨o', ho', hm⟩ := (qg ((wc hdep hjm hoj h1).trans ha)).1 ((H x).2 j (ready_mono hj hji)).2
    rw [hoj] at ho'
    cases ho'
    exact hm
   refine (qg ha).2 ⟨oj, hoj, ?_⟩
   cases hw : Region.wanted oj (yielded ops a.tmps) with
   | true =>
    have hpos : ∀ x, YG c X S ops oj ej (a.put oi.dst (ei.V x)) ∧ ∀ y, XQ c X S ops md tb m T f ((listed.setIfInBounds i true).setIfInBounds j true) (ej.LL y ++ (ei.LL x ++ E)) ((a.put oi.dst (ei.V x)).put oj.dst (ej.V y)) := fun x => by
     rcases hstep x with h | h
     ·exact h
     ·have := (back2 (ei.V x)).symm.trans h.1; rw [hw] at this; cases this
    refine .inl ⟨(hpos ei.x0).1.same (back1 _).symm (back2 _).symm, fun y => ?_⟩
    refine ih (listed.setIfInBounds j true) (ej.LL y ++ E) (a.put oj.dst (ej.V y)) (inv.set hj hjm) hfree' hSE.grow ((wc hdep him hi h3).trans hai) (ready_mono hr (Ne.symm hji)) hok' (hy.same (forth1 _) (forth2 _)) fun x => ?_
    rw [Array.setIfInBounds_comm _ _ hji, ← Act.put_comm a _ _ h2]
    refine VH hTp f _ _ _ _ ?_ ((hpos x).2 y)
    rw [← List.append_assoc, ← List.append_assoc]
    exact List.Perm.append_right _ List.perm_append_comm
   | false =>
    have hneg : ∀ x, XQ c X S ops md tb m T f ((listed.setIfInBounds i true).setIfInBounds j true) (ei.LL x ++ E) ((a.put oi.dst (ei.V x)).put oj.dst undef) := fun x => by
     rcases hstep x with h | h
     ·have := (back2 (ei.V x)).symm.trans h.1.1; rw [hw] at this; cases this
     ·exact h.2
    refine .inr ⟨rfl, ?_⟩
    refine ih (listed.setIfInBounds j true) E (a.put oj.dst undef) (inv.set hj hjm) hfree' hSE ((wc hdep him hi h3).trans hai) (ready_mono hr (Ne.symm hji)) hok' (hy.same (forth1 _) (forth2 _)) fun x => ?_
    rw [Array.setIfInBounds_comm _ _ hji, ← Act.put_comm a _ _ h2]
    exact hneg x
def Jfj (c : Cx) (X : XP) (S : Jm) (ops : Array Oper) (tb : ZU) (T : Jm → Act → Prop) : List Nat → Jm → Act → Prop
 | [], E, a => T E a
 | k :: rest, E, a => stB c X S ops tb k (fun E' a' => Jfj c X S ops tb T rest E' a') E a
def Jns (md : Region.Mode) (ops : Array Oper) (tb : ZU) (m g : Nat) : List Nat → Array Bool → Bool
  | [], listed => Region.seqB md ops g m listed
  | k :: r, listed => Nat.blt k m && (match (tb k).isTurn with
      | true => decide (Region.ready md ops listed = [k])
      | false => (Region.ready md ops listed).contains k && Region.free md ops listed k && (!(tb k).isGrow || okG md ops tb k r.length listed)) && Jns md ops tb m g r (listed.setIfInBounds k true)
theorem Jcl {tb : ZU} {m g : Nat} {T : Jm → Act → Prop} (hsel : Region.noSelect ops = true) (hTp : ∀ E E' a, E.Perm E' → T E a → T E' a) (hbd : ∀ i, i < m → Jfh md ops tb m i) (hdep : Jks ops tb m) (hlt : ∀ i, i < m → ∀ listed, HeadInv md ops m listed → listed.getD i true = false → ∀ j ∈ Region.ready md ops listed, j < m)
  (hseq : ∀ listed, Region.seqB md ops g m listed = true → ∀ j ∈ Region.ready md ops listed, m ≤ j) :
  ∀ (l : List Nat) (listed : Array Bool) (E : Jm) (a : Act), HeadInv md ops m listed → SubS S E →
  Jns md ops tb m g l listed = true → Jfj c X S ops tb T l E a →
  XQ c X S ops md tb m (fun E' listed' a' => Region.seqB md ops g m listed' = true ∧ T E' a') l.length listed E a
 | [], listed, E, a, _, _, hB, h => ⟨by simpa [Jns] using hB, h⟩
 | k :: l, listed, E, a, inv, hSE, hB, h => by
  simp only [Jns, Bool.and_eq_true] at hB
  obtain ⟨⟨hkm, hr⟩, hB'⟩ := hB
  have hkm : k < m := by
   have : k + 1 ≤ m := Nat.le_of_ble_eq_true hkm
   omega
  have hr' : k ∈ Region.ready md ops listed := by
   cases ht : (tb k).isTurn with
   | true => rw [ht] at hr; simp only [decide_eq_true_eq] at hr; rw [hr]; exact List.mem_cons_self
   | false => rw [ht] at hr; simp only [Bool.and_eq_true] at hr; simpa using hr.1.1
  have next : ∀ E' a', SubS S E' → Jfj c X S ops tb T l E' a' → XQ c X S ops md tb m (fun E' listed' a' => Region.seqB md ops g m listed' = true ∧ T E' a') l.length (listed.setIfInBounds k true) E' a' := fun E' a' hSE' hw =>
   Jcl hsel hTp hbd hdep hlt hseq l _ E' a' (inv.set hr' hkm) hSE' hB' hw
  obtain ⟨o, h0, hm⟩ := h
  have quiet : (tb k).isTurn = false → ∀ v, (tb k = .quiet ∨ tb k = .pure) → (YQ c E X ops o v a ∧ (tb k = .pure → YP c X S ops o v a)) → Jfj c X S ops tb T l E (a.put o.dst v) →
    XQ c X S ops md tb m (fun E' listed' a' => Region.seqB md ops g m listed' = true ∧ T E' a') (l.length + 1) listed E a := fun hnt v hai hy hw => by
   rw [hnt] at hr
   simp only [Bool.and_eq_true] at hr
   exact Jfi h0 hai (Region.noSelect_spec hsel) (hbd k hkm) hdep (hlt k hkm) (fun E' listed' a' hL => hseq _ hL.1) l.length listed E a inv (Region.free_spec h0 hr.1.2) hSE hr' hy (next _ _ hSE hw)
  cases ha : tb k with
  | quiet => rw [ha] at hm; obtain ⟨v, hy, hw⟩ := hm; exact quiet (by rw [ha]; rfl) v (.inl ha) ⟨hy, fun e => by rw [ha] at e; cases e⟩ hw
  | pure => rw [ha] at hm; obtain ⟨v, hy, hw⟩ := hm; exact quiet (by rw [ha]; rfl) v (.inr ha) ⟨hy.quiet hSE, fun _ => hy⟩ hw
  | grow e =>
   rw [ha] at hm hr
   simp only [Kb.isTurn, Kb.isGrow, Bool.not_true, Bool.false_or, Bool.and_eq_true] at hr
   rcases hm with ⟨h1, h2⟩ | ⟨h1, h2⟩
   ·exact zj h0 hkm hdep (Region.noSelect_spec hsel) (fun E E' listed a hp hT => ⟨hT.1, hTp _ _ _ hp hT.2⟩) (hlt k hkm) (fun E' listed' a' hL => hseq _ hL.1) l.length listed E a inv (Region.free_spec h0 hr.1.2) hSE (by rw [ha]; rfl) hr' hr.2 h1 fun x => next _ _ hSE.grow (h2 x)
   ·exact Jck h0 (by rw [ha]; rfl) hdep (Region.noSelect_spec hsel) (hlt k hkm) (fun E' listed' a' hL => hseq _ hL.1) l.length listed E a inv (Region.free_spec h0 hr.1.2) hSE hr' h1 (next _ _ hSE h2)
  | dep ts e =>
   rw [ha] at hm hr
   simp only [Kb.isTurn, Kb.isGrow, Bool.not_true, Bool.false_or, Bool.and_eq_true] at hr
   rcases hm with ⟨h1, h2⟩ | ⟨h1, h2⟩
   ·exact zj h0 hkm hdep (Region.noSelect_spec hsel) (fun E E' listed a hp hT => ⟨hT.1, hTp _ _ _ hp hT.2⟩) (hlt k hkm) (fun E' listed' a' hL => hseq _ hL.1) l.length listed E a inv (Region.free_spec h0 hr.1.2) hSE (by rw [ha]; rfl) hr' hr.2 h1 fun x => next _ _ hSE.grow (h2 x)
   ·exact Jck h0 (by rw [ha]; rfl) hdep (Region.noSelect_spec hsel) (hlt k hkm) (fun E' listed' a' hL => hseq _ hL.1) l.length listed E a inv (Region.free_spec h0 hr.1.2) hSE hr' h1 (next _ _ hSE h2)
  | turn =>
   rw [ha] at hm hr
   simp only [Kb.isTurn, decide_eq_true_eq] at hr
   refine ⟨fun e => (by rw [e] at hr'; cases hr'), fun i hi => ?_⟩
   rw [hr] at hi
   have hik : i = k := by simpa using hi
   subst hik
   refine ⟨hkm, o, h0, ?_⟩
   rw [ha]
   rcases hm with ⟨α, V, G, h1, h2⟩ | ⟨h1, h2⟩
   ·exact .inl ⟨α, V, G, h1, fun x => ⟨(h2 x).1, next _ _ (h2 x).1 (h2 x).2⟩⟩
   ·exact .inr ⟨h1, next _ _ hSE h2⟩
def Jfk : List (Nat × Kb) → ZU
 | [], _ => .quiet
 | (j, p) :: r, k => match Nat.beq k j with | true => p | false => Jfk r k
def Jhn (md : Region.Mode) (ops : Array Oper) (tb : ZU) (m : Nat) : Bool :=
 (List.range m).all fun j => if (tb j).isTurn then (List.range m).all fun i => !(tb i).isQuiet || onB md ops j i || onB md ops i j else true
theorem xM {tb : ZU} {m : Nat} (h : Jhn md ops tb m = true) {i : Nat} (hi : i < m) : Jfh md ops tb m i := fun hq j hj he listed hir hjr => by
 have h1 := List.all_eq_true.1 h j (List.mem_range.2 hj)
 rw [he] at h1
 simp only [Kb.isTurn, if_true] at h1
 have h2 := List.all_eq_true.1 h1 i (List.mem_range.2 hi)
 rw [hq] at h2
 simp only [Kb.isQuiet, Bool.not_true, Bool.false_or, Bool.or_eq_true] at h2
 rcases h2 with h2 | h2
 ·exact xz h2 hjr hir
 ·exact xz h2 hir hjr
end
section
variable {c : Cx} {l : Kw} {L E : Jm} {X : XP} {Q : Exit → Act → World → Prop} {d : List Deferred}
variable {ops : Array Oper} {rest : List Nat} {i k : Nat} {v : Value} {o : Oper} {tb : ZU} {S : Jm} {T : Jm → Act → Prop}
def HB (c : Cx) (d : List Deferred) (l : Kw) (E : Jm) (X : XP) (S : Jm) (ops : Array Oper) (tb : ZU) (rest : List Nat) (T : Jm → Act → Prop) : Prop :=
 ∀ a, Fr c.n d l a → Jfj c X S ops tb T rest E a
def Jz1 (ops : Array Oper) (tb : ZU) (m : Nat) : Bool :=
 (List.range m).all fun j => match tb j with
  | .dep ts _ => match ops[j]? with
   | some o => ts.all fun t => (o.looksAt ops).contains t
   | none => true
  | _ => true
theorem Jku {m : Nat} (h : Jz1 ops tb m = true) : Jks ops tb m := fun j hj o ho ts e ht t hm => by
 have h1 := List.all_eq_true.1 h j (List.mem_range.2 hj)
 rw [ht] at h1
 simp only [ho] at h1
 simpa using List.all_eq_true.1 h1 t hm
def Jnt (ops : List Oper) (tb : ZU) (m : Nat) (order : List Nat) : Bool :=
 (ops.all fun o => Ku o.op) && Region.noSelect ops.toArray && Nat.ble m ops.length && Nat.beq order.length m &&
 (Nat.beq m ops.length || (Region.sinkB .any ops.toArray m && Region.chainB .any ops.toArray m)) && Jhn .any ops.toArray tb m && Jz1 ops.toArray tb m &&
 Jns .any ops.toArray tb m (ops.length - m) order (Array.replicate ops.length false)
theorem JT {id : Nat} {ops : List Oper} (S : Jm) (tab : List (Nat × Kb)) (m : Nat) (order : List Nat) (hm : c.P.follows .mixedOrders = true) (hB : Jnt ops (Jfk tab) m order = true) (hSL : SubS S L)
  (h : HB c d l L X S ops.toArray (Jfk tab) order (fun E a' => ∀ w, St c E X w → wpListIn (FW c.ro) 0 c.P ops.toArray Q (ops.drop m) a' w)) : HC c d l L X (.region id ops.toArray true) Q := fun a w hf hs => by
 simp only [Jnt, Bool.and_eq_true, Bool.or_eq_true] at hB
 obtain ⟨⟨⟨⟨⟨⟨⟨h1, hsel⟩, hle⟩, hol⟩, hsc⟩, hcr⟩, hdp⟩, hlex⟩ := hB
 have hle' := Nat.le_of_ble_eq_true hle
 have hol' := Nat.eq_of_beq_eq_true hol
 have hnd : ∀ (j : Nat) (o : Oper), ops.toArray[j]? = some o → Ku o.op = true := fun j o ho => List.all_eq_true.1 h1 o (List.mem_of_getElem? (by simpa using ho))
 have hdl : (ops.drop m).length = ops.length - m := by simp
 have hlt : ∀ i, i < m → ∀ listed, HeadInv .any ops.toArray m listed → listed.getD i true = false → ∀ j ∈ Region.ready .any ops.toArray listed, j < m := by
  intro i hi listed inv hun j hj
  rcases Nat.lt_or_ge j m with hjm | hjm
  exact hjm
  have hjs : j < ops.length := by obtain ⟨_, oj, hoj, _⟩ := mem_ready.1 hj; simpa using (Array.getElem?_eq_some_iff.1 hoj).1
  rcases hsc with h0 | ⟨h2, h3⟩
  have := Nat.eq_of_beq_eq_true h0; omega
  exact absurd hj (tail_waits h2 h3 (by simpa using (show m < ops.length by omega)) inv _ i rfl hi hun j hjm)
 have inv0 : HeadInv .any ops.toArray m (Array.replicate ops.length false) :=
  ⟨by simp, fun j oj _ hl => (by rw [getD_replicate_false] at hl; cases hl), fun t _ ht => getD_in (by simpa using ht) (getD_replicate_false _ _)⟩
 have H := Jcl (c := c) (X := X) (md := .any) (g := ops.length - m) hsel (fun E E' a hp hT w hs => hT w (hs.perm hp.symm)) (fun i hi => xM hcr hi) (Jku hdp) hlt (fun listed hq => seqB_ready hq) order _ L a inv0 hSL hlex (h a hf)
 refine wpIn_region_any hm ?_
 have := Jhm (Q' := Q) (g := ops.length - m) hnd (fun E' listed a' w' _ hw' hL => by
  have := WN (ro := c.ro) (P := c.P) (md := .any) (Q' := Q) (ops.drop m) m listed a' w' (fun j => by simp [List.getElem?_drop]) (by rw [hdl]; exact hL.1) (hL.2 w' hw')
  rwa [hdl] at this) _ _ _ _ _ hSL (show St c L X w.drew from hs.drew) H
 rw [hol', show m + (ops.length - m) = ops.toArray.size from by simp; omega] at this
 simpa using this
theorem Kx {tail : List Oper} (h : HL c d l E X ops tail Q) : HB c d l E X S ops tb [] (fun E' a' => ∀ w, St c E' X w → wpListIn (FW c.ro) 0 c.P ops Q tail a' w) :=
 fun a hf w hs => h a w hf hs
theorem KE (hk : WJ ops.toList k = some o) (hg : Kj l ops o = some true) (hd : o.dst = some i) (hi : Nat.ble (i + 1) c.n = true) (hA : tb k = .quiet) (hr : J9 c d l E X o v) (h : HB c d ((i, v) :: l) E X S ops tb rest T) : HB c d l E X S ops tb (k :: rest) T := fun a hf => by
 refine ⟨o, QG hk, ?_⟩
 rw [hA]
 refine ⟨v, .inl ⟨JL hf hg, fun w hs => X9 (hr a w hf hs) ⟨rfl, Keep.refl _ _⟩⟩, ?_⟩
 rw [hd]; exact h _ (hf.put (Nat.le_of_ble_eq_true hi))
theorem Jp (hk : WJ ops.toList k = some o) (hg : Kj l ops o = some true) (hd : o.dst = some i) (hi : Nat.ble (i + 1) c.n = true) (hA : tb k = .pure) (hr : ∀ E', SubS S E' → J9 c d l E' X o v) (h : HB c d ((i, v) :: l) E X S ops tb rest T) : HB c d l E X S ops tb (k :: rest) T := fun a hf => by
 refine ⟨o, QG hk, ?_⟩
 rw [hA]
 refine ⟨v, .inl ⟨JL hf hg, fun E' hE' w hs => X9 (hr E' hE' a w hf hs) ⟨rfl, Keep.refl _ _⟩⟩, ?_⟩
 rw [hd]; exact h _ (hf.put (Nat.le_of_ble_eq_true hi))
theorem vv (hk : WJ ops.toList k = some o) (hg : Kj l ops o = some false) (hd : o.dst = some i) (hi : Nat.ble (i + 1) c.n = true) (h : HB c d ((i, undef) :: l) E X S ops tb rest T) : HB c d l E X S ops tb (k :: rest) T := fun a hf => by
 refine ⟨o, QG hk, ?_⟩
 have hw := JL hf hg
 have hn : Jfj c X S ops tb T rest E (a.put o.dst undef) := by rw [hd]; exact h _ (hf.put (Nat.le_of_ble_eq_true hi))
 cases tb k with
 | quiet => exact ⟨undef, .inr ⟨hw, rfl⟩, hn⟩
 | pure => exact ⟨undef, .inr ⟨hw, rfl⟩, hn⟩
 | grow e => exact .inr ⟨hw, hn⟩
 | turn => exact .inr ⟨hw, hn⟩
 | dep ts e => exact .inr ⟨hw, hn⟩
theorem Jte {b : Bool} (t : Nat) (ht : QI l t = some (.bool b)) (h1 : b = true → HB c d ((t, .bool true) :: l) E X S ops tb rest T) (h0 : b = false → HB c d ((t, .bool false) :: l) E X S ops tb rest T) : HB c d l E X S ops tb rest T := fun a hf => by
 cases hb : b with
 | true => exact h1 hb a (vp hf ht hb.symm)
 | false => exact h0 hb a (vp hf ht hb.symm)
theorem Ww {v' : Value} (e : v = v') (h : HB c d ((i, v') :: l) E X S ops tb rest T) : HB c d ((i, v) :: l) E X S ops tb rest T := e ▸ h
theorem QM {f : Operand} {args : Array Operand} {at_ : Array TypeId} {g : FuncId} {vs : List Value} {ty : TypeId} {ps : String} {af : Array Edge} {gd : Option (Nat × Bool)}
  (hk : WJ ops.toList k = some ⟨some i, .call ⟨.value f, args, at_⟩, ty, ps, af, gd⟩) (hg : Kj l ops ⟨some i, .call ⟨.value f, args, at_⟩, ty, ps, af, gd⟩ = some true) (hi : Nat.ble (i + 1) c.n = true) (hA : tb k = .pure) (hca : Kq l f args = some (g, vs)) (eg : Enters c.P g)
  (hp : Pure c.P g vs.toArray v) (h : HB c d ((i, v) :: l) E X S ops tb rest T) : HB c d l E X S ops tb (k :: rest) T := fun a hf => by
 refine ⟨_, QG hk, ?_⟩
 rw [hA]
 exact ⟨v, .inl ⟨JL hf hg, fun _ _ w _ => Wu hf hca eg ((hp.run w).mono fun _ _ ⟨he, hk⟩ => ⟨v, he, rfl, hk⟩)⟩, h _ (hf.put (Nat.le_of_ble_eq_true hi))⟩
theorem Qa {f : Operand} {args : Array Operand} {at_ : Array TypeId} {g : FuncId} {vs : List Value} {Rl : Jm} {ty : TypeId} {ps : String} {af : Array Edge} {gd : Option (Nat × Bool)}
  (hk : WJ ops.toList k = some ⟨some i, .call ⟨.value f, args, at_⟩, ty, ps, af, gd⟩) (hg : Kj l ops ⟨some i, .call ⟨.value f, args, at_⟩, ty, ps, af, gd⟩ = some true) (hi : Nat.ble (i + 1) c.n = true) (hA : tb k = .quiet) (hca : Kq l f args = some (g, vs)) (eg : Enters c.P g)
  (hp : PureR c.P g vs.toArray v Rl) (hR : ∀ p ∈ Rl, known c E p.1 p.2) (h : HB c d ((i, v) :: l) E X S ops tb rest T) : HB c d l E X S ops tb (k :: rest) T := fun a hf => by
 refine ⟨_, QG hk, ?_⟩
 rw [hA]
 exact ⟨v, .inl ⟨JL hf hg, fun w hs => Wu hf hca eg ((hp.run w fun p hp => hs.known (hR p hp)).mono fun _ _ ⟨he, hk⟩ => ⟨v, he, rfl, hk⟩)⟩, h _ (hf.put (Nat.le_of_ble_eq_true hi))⟩
def VI (V : Nat → Value) (ob : Obj) : GE := ⟨Nat, V, fun r => [(r, ob)], 0⟩
def Qe {α : Type} (x0 : α) (V : α → Value) (LL : α → Jm) : GE := ⟨α, V, LL, x0⟩
theorem xN {e : GE} (hk : WJ ops.toList k = some o) (hg : Kj l ops o = some true) (hd : o.dst = some i) (hi : Nat.ble (i + 1) c.n = true) (hA : tb k = .grow e) (hr : ∀ E', SubS S E' → ∀ a w, Fr c.n d l a → St c E' X w → actAt c o a w fun u w' => ∃ x, u = e.V x ∧ Jnr (e.LL x) w w')
  (h : ∀ x, HB c d ((i, e.V x) :: l) (e.LL x ++ E) X S ops tb rest T) : HB c d l E X S ops tb (k :: rest) T := fun a hf => by
 refine ⟨o, QG hk, ?_⟩
 rw [hA]
 refine .inl ⟨⟨JL hf hg, fun E' hE' w hs => hr E' hE' a w hf hs⟩, fun x => ?_⟩
 rw [hd]; exact h x _ (hf.put (Nat.le_of_ble_eq_true hi))
def Ys (l : Kw) : List Nat → Option (List Value)
 | [] => some []
 | t :: ts => match QI l t, Ys l ts with
  | some v, some r => some (v :: r)
  | _, _ => none
theorem jx {n : Nat} {a : Act} (hf : Fr n d l a) : ∀ {ts : List Nat} {vs : List Value}, Ys l ts = some vs → Xj a ts = vs
 | [], vs, h => by cases h; rfl
 | t :: ts, vs, h => by
  unfold Ys at h
  cases h1 : QI l t with
  | none => rw [h1] at h; cases h
  | some v =>
   cases h2 : Ys l ts with
   | none => rw [h1, h2] at h; cases h
   | some r =>
    rw [h1, h2] at h
    cases h
    show a.eval (.tmp t) :: Xj a ts = v :: r
    rw [jx hf h2, hf.eval (x := .tmp t) (v := v) h1]
theorem Jxn {ts : List Nat} {e : List Value → GE} {vs : List Value} {e0 : GE} (hk : WJ ops.toList k = some o) (hg : Kj l ops o = some true) (hd : o.dst = some i) (hi : Nat.ble (i + 1) c.n = true) (hA : tb k = .dep ts e) (hv : Ys l ts = some vs) (he : e vs = e0) (hr : ∀ E', SubS S E' → ∀ a w, Fr c.n d l a → St c E' X w → actAt c o a w fun u w' => ∃ x, u = e0.V x ∧ Jnr (e0.LL x) w w')
  (h : ∀ x, HB c d ((i, e0.V x) :: l) (e0.LL x ++ E) X S ops tb rest T) : HB c d l E X S ops tb (k :: rest) T := fun a hf => by
 refine ⟨o, QG hk, ?_⟩
 rw [hA]
 subst he
 show (YG c X S ops o (e (Xj a ts)) a ∧ ∀ x, Jfj c X S ops tb T rest ((e (Xj a ts)).LL x ++ E) (a.put o.dst ((e (Xj a ts)).V x))) ∨ _
 rw [jx hf hv]
 refine .inl ⟨⟨JL hf hg, fun E' hE' w hs => hr E' hE' a w hf hs⟩, fun x => ?_⟩
 rw [hd]; exact h x _ (hf.put (Nat.le_of_ble_eq_true hi))
theorem Jnu {V : Nat → Value} {ob : Obj} (hk : WJ ops.toList k = some o) (hg : Kj l ops o = some true) (hd : o.dst = some i) (hi : Nat.ble (i + 1) c.n = true) (hA : tb k = .grow (VI V ob)) (hr : ∀ a w, Fr c.n d l a → (execOp a.eval o).run c.P w = .ok (.value (V w.heap.size)) (w.alloc ob))
  (h : ∀ r, HB c d ((i, V r) :: l) ((r, ob) :: E) X S ops tb rest T) : HB c d l E X S ops tb (k :: rest) T :=
 xN (e := VI V ob) hk hg hd hi hA (fun E' _ a w hf hs => X9 (hr a w hf) ⟨w.heap.size, rfl, Keep.alloc ob, fun p hp => by rw [List.mem_singleton.1 hp]; exact ⟨Nat.le_refl _, (MapKept.heap_alloc w _).1⟩, List.pairwise_singleton _ _⟩) h
theorem Jtf {ts : List Nat} {e : List Value → GE} {vs : List Value} {V : Nat → Value} {ob : Obj} (hk : WJ ops.toList k = some o) (hg : Kj l ops o = some true) (hd : o.dst = some i) (hi : Nat.ble (i + 1) c.n = true) (hA : tb k = .dep ts e) (hv : Ys l ts = some vs) (he : e vs = VI V ob) (hr : ∀ a w, Fr c.n d l a → (execOp a.eval o).run c.P w = .ok (.value (V w.heap.size)) (w.alloc ob))
  (h : ∀ r, HB c d ((i, V r) :: l) ((r, ob) :: E) X S ops tb rest T) : HB c d l E X S ops tb (k :: rest) T :=
 Jxn (e0 := VI V ob) hk hg hd hi hA hv he (fun E' _ a w hf hs => X9 (hr a w hf) ⟨w.heap.size, rfl, Keep.alloc ob, fun p hp => by rw [List.mem_singleton.1 hp]; exact ⟨Nat.le_refl _, (MapKept.heap_alloc w _).1⟩, List.pairwise_singleton _ _⟩) h
theorem Vh {ts : List Nat} {ev : List Value → GE} {dv : List Value} {t ty : TypeId} {ps : String} {af : Array Edge} {gd : Option (Nat × Bool)} {n e sz : Nat} {pa : List (Nat × Operand)} {vs : Kw} {r zs : List Value} {z : Value} (hk : WJ ops.toList k = some ⟨some i, .buildSlice t n pa.toArray, ty, ps, af, gd⟩) (hg : Kj l ops ⟨some i, .buildSlice t n pa.toArray, ty, ps, af, gd⟩ = some true) (hi : Nat.ble (i + 1) c.n = true)
  (hA : tb k = .dep ts ev) (hv : Ys l ts = some dv) (he : ev dv = VI (slV n) (.cells r.toArray e (0, 0)))
  (hp : WM l pa = some vs) (ht : Kp c.P t = some e) (hz : Q2 c.P e = some z) (hs : KJ c.P e = some sz) (hzs : z.cells.size = sz) (hb : Nat.ble (n * sz) 16777216 = true) (h0 : Nat.ble 1 (n * sz) = true)
  (hmk : (madeCells z.cells (n * sz)).toList = zs) (hf : YH (fun i => some (i * sz, sz)) zs (Q8 vs) = some r)
  (h : ∀ q, HB c d ((i, .slice (some ⟨q, 0, none⟩) n n) :: l) ((q, .cells r.toArray e (0, 0)) :: E) X S ops tb rest T) : HB c d l E X S ops tb (k :: rest) T :=
 Jtf (V := slV n) hk hg rfl hi hA hv he (fun a w hfr => by
  have h1 := Vp hfr hp
  have h2 : (pa.toArray.map fun (p : Nat × Operand) => (p.1, a.eval p.2)) = vs.toArray := by
   apply Array.toList_inj.1; rw [Array.toList_map]; simpa using h1
  rw [Q6] at hf
  subst hmk
  have h3 := VS ht hz hs hzs (Nat.le_of_ble_eq_true hb) (Nat.le_of_ble_eq_true h0) hf w
  rw [← h2] at h3
  simp only [execOp, Sem.run_bind]
  have h4 : (Instr.buildSlice t n (pa.toArray.map fun (i, x) => (i, a.eval x))).run c.P w = .ok (.slice (some ⟨w.heap.size, 0, none⟩) n n) (w.alloc (.cells r.toArray e)) := h3
  rw [h4]; rfl) h
def Jcm (n e : Nat) (vs : List Value) : GE := VI (slV n) (.cells (vs.flatMap fun v => v.cells.toList).toArray e (0, 0))
theorem Wx {z : Value} {cs : Array Value} {t ty : TypeId} {ps : String} {af : Array Edge} {gd : Option (Nat × Bool)} (hk : WJ ops.toList k = some ⟨some i, .alloc t, ty, ps, af, gd⟩) (hg : Kj l ops ⟨some i, .alloc t, ty, ps, af, gd⟩ = some true) (hi : Nat.ble (i + 1) c.n = true) (hA : tb k = .grow (VI vV (.cells cs t (0, 0)))) (hz : Q2 c.P t = some z) (hc : z.cells = cs)
  (h : ∀ r, HB c d ((i, .pointer (some ⟨r, 0, none⟩)) :: l) ((r, .cells cs t (0, 0)) :: E) X S ops tb rest T) : HB c d l E X S ops tb (k :: rest) T :=
 Jnu (V := vV) hk hg rfl hi hA (fun a w hf => by simp [execOp, Instr.alloc, Sem.run_bind, WY hz, Result.andThen, newVar, newRow, hc, vV]) h
theorem WV {α : Type} {x0 : α} {V : α → Value} {LL : α → Jm} {f : Operand} {args : Array Operand} {at_ : Array TypeId} {g : FuncId} {vs : List Value} {ty : TypeId} {ps : String} {af : Array Edge} {gd : Option (Nat × Bool)}
  (hk : WJ ops.toList k = some ⟨some i, .call ⟨.value f, args, at_⟩, ty, ps, af, gd⟩) (hg : Kj l ops ⟨some i, .call ⟨.value f, args, at_⟩, ty, ps, af, gd⟩ = some true) (hi : Nat.ble (i + 1) c.n = true) (hA : tb k = .grow (Qe x0 V LL)) (hca : Kq l f args = some (g, vs)) (eg : Enters c.P g)
  (hp : PureE c.P g vs.toArray V LL) (h : ∀ x, HB c d ((i, V x) :: l) (LL x ++ E) X S ops tb rest T) : HB c d l E X S ops tb (k :: rest) T :=
 xN (e := Qe x0 V LL) hk hg rfl hi hA (fun E' _ a w hf hs => Wu hf hca eg ((hp.run w).mono fun _ _ ⟨x, he, hk, h1, h2⟩ => ⟨V x, he, x, rfl, hk, h1, h2⟩)) h
theorem jy {E' : Jm} (hk : WJ ops.toList k = some o) (hg : Kj l ops o = some true) (hd : o.dst = none) (hA : tb k = .turn) (hr : ∀ a w, Fr c.n d l a → St c E X w → ∃ w', (execOp a.eval o).run c.P w = .ok .skip w' ∧ St c E' X w') (hS : SubS S E')
  (h : HB c d l E' X S ops tb rest T) : HB c d l E X S ops tb (k :: rest) T := fun a hf => by
 refine ⟨o, QG hk, ?_⟩
 rw [hA]
 refine .inl ⟨Unit, fun _ => undef, fun _ => E', ⟨JL hf hg, fun w hs => ?_⟩, fun _ => ⟨hS, ?_⟩⟩
 ·obtain ⟨w', h1, h2⟩ := hr a w hf hs
  exact Jm3 h1 ⟨(), rfl, h2⟩
 ·rw [hd]; exact h _ hf
theorem Vi {t ty : TypeId} {ps : String} {af : Array Edge} {gd : Option (Nat × Bool)} {x y : Operand} {q r n : Nat} {cs : Array Value} {ys : List Value} {e : TypeId} {E' : Jm} (hko : WJ ops.toList k = some ⟨none, .store t x y, ty, ps, af, gd⟩) (hg : Kj l ops ⟨none, .store t x y, ty, ps, af, gd⟩ = some true) (hA : tb k = .turn)
  (hx : Kg l x = some (.pointer (some ⟨r, 0, none⟩))) (hk : E[q]? = some (r, .cells cs e (0, 0))) (hy : Kg l y = some (.agg ys.toArray)) (ht : KJ c.P t = some n) (hn : ys.length = n) (hcz : cs.size = n) (ho : ys.all Q3 = true) (hL : E.set q (r, .cells ys.toArray e (0, 0)) = E') (hS : SubS S E')
  (h : HB c d l E' X S ops tb rest T) : HB c d l E X S ops tb (k :: rest) T :=
 jy hko hg rfl hA (fun a w hf hst => ⟨w.setRow r ys.toArray, by
  have hcs : (cs.toList.take 0 ++ ys.toArray.toList ++ cs.toList.drop (0 + n)).toArray = ys.toArray := by
   apply Array.toList_inj.1
   simp [← hcz]
  simp only [execOp]; rw [hf.eval hx, hf.eval hy]
  have h1 := run_storeCells_at (P := c.P) r 0 e ys.toArray.toList 0 cs w (hst.get hk) (by simp [hn]; omega) (fun u hu => by rw [WK]; exact List.all_eq_true.1 ho u (by simpa using hu))
  simp only [Nat.add_zero, Array.length_toList, List.size_toArray, hn] at h1
  rw [hcs] at h1
  simp [Instr.storeAt, Instr.sureAddr, Sem.run_bind, Result.andThen, storeVar, QW ht, Value.cells, hn, h1], by
  subst hL
  exact hst.set hk (Keep.setRow r ys.toArray) (setRow_heap _ _ _ _ _ _ (hst.get hk))⟩) hS h
theorem Ya {t ty : TypeId} {ps : String} {af : Array Edge} {gd : Option (Nat × Bool)} {x y : Operand} {q r off : Nat} {cs cs' : Array Value} {e : TypeId} {E' : Jm} (hko : WJ ops.toList k = some ⟨none, .store t x y, ty, ps, af, gd⟩) (hg : Kj l ops ⟨none, .store t x y, ty, ps, af, gd⟩ = some true) (hA : tb k = .turn)
  (hx : Kg l x = some (.pointer (some ⟨r, off, none⟩))) (hk : E[q]? = some (r, .cells cs e (0, 0))) (hy : Kg l y = some v) (ht : KJ c.P t = some 1) (ho : Q3 v = true) (hc : (cs[off]?).isSome = true)
  (hcs : cs.setIfInBounds off v = cs') (hL : E.set q (r, .cells cs' e (0, 0)) = E') (hS : SubS S E')
  (h : HB c d l E' X S ops tb rest T) : HB c d l E X S ops tb (k :: rest) T :=
 jy hko hg rfl hA (fun a w hf hs => ⟨w.setCell ⟨r, off, none⟩ v, by
  simp only [execOp]; rw [hf.eval hx, hf.eval hy]
  obtain ⟨old, hold⟩ := Option.isSome_iff_exists.1 hc
  have h1 := run_store c.P w ⟨r, off, none⟩ v .plain (by rw [WK]; exact ho)
  rw [Vo (hs.get hk), hold, XX (hs.get hk) (Jzq off)] at h1
  have hcell : v.cells = #[v] := by cases v <;> first | rfl | cases ho
  simp [Instr.storeAt, Instr.sureAddr, Sem.run_bind, Result.andThen, storeVar, QW ht, hcell, storeCells, Addr.add, h1], by
  subst hL; subst hcs
  exact hs.set hk (Keep.setCell r off v) (heap_setCell_same v (hs.get hk))⟩) hS h
end
def leW (w : List Nat) (n : Nat) : List UInt8 := (Yq w 32).reverse.take n
theorem xO (w : List Nat) {n : Nat} (h : n ≤ 32) : (leW w n).length = n := by
 unfold leW; rw [List.length_take, List.length_reverse, Vq]; omega
def yH (s : List UInt8) : List UInt8 := s ++ List.replicate (32 - s.length) 0
theorem wd {s : List UInt8} (h : s.length ≤ 32) : (yH s).length = 32 := by unfold yH; rw [List.length_append, List.length_replicate]; omega
def KV (l : List Bool) (N : Nat) : Nat → List UInt8
 | 0 => List.replicate N 0
 | i + 1 => if l.getD i false = true then (KV l N i).set (i / 8) (UInt8.ofNat (((KV l N i).getD (i / 8) 0).toNat ||| 2 ^ (i % 8))) else KV l N i
theorem Vs (l : List Bool) (N : Nat) : ∀ i, (KV l N i).length = N
 | 0 => by rw [KV, List.length_replicate]
 | i + 1 => by
  rw [KV]
  split
  ·rw [List.length_set, Vs l N i]
  ·exact Vs l N i
theorem Jz2 {x m : Nat} (hx : x < 256) (hm : m < 8) : x ||| 2 ^ m < 256 := Nat.or_lt_two_pow (n := 8) hx (Nat.pow_lt_pow_right (by decide) hm)
def WI (l : List Bool) : List UInt8 := KV l ((l.length + 7) / 8) l.length
theorem Zk (l : List Bool) : (WI l).length = (l.length + 7) / 8 := Vs _ _ _
def SOk (n : Nat) (a : List Nat) : Prop := a.length = n ∧ ∀ x ∈ a, x < 18446744073709551616
theorem SOk.get {n : Nat} {a : List Nat} (h : SOk n a) (j : Nat) : a.getD j 0 < 18446744073709551616 := by
 by_cases hj : j < a.length
 ·have : a.getD j 0 ∈ a := by simp [List.getD_eq_getElem?_getD, hj]
  exact h.2 _ this
 ·rw [List.getD_eq_getElem?_getD, List.getElem?_eq_none (by omega)]; decide
theorem SOk.set {n : Nat} {a : List Nat} (h : SOk n a) (j : Nat) {x : Nat} (hx : x < 18446744073709551616) : SOk n (a.set j x) :=
 ⟨by rw [List.length_set, h.1], fun y hy => (List.mem_or_eq_of_mem_set hy).elim (h.2 y) fun e => e ▸ hx⟩
def Jcn (n k : Nat) : Nat := n * 2 ^ (k % 64) % 18446744073709551616 ||| n / 2 ^ (64 - k % 64)
theorem Jtg {a b : Nat} (ha : a < 18446744073709551616) (hb : b < 18446744073709551616) : a ||| b < 18446744073709551616 := Nat.or_lt_two_pow (n := 64) ha hb
theorem Wy {a b : Nat} (ha : a < 18446744073709551616) (hb : b < 18446744073709551616) : a ^^^ b < 18446744073709551616 := Nat.xor_lt_two_pow (n := 64) ha hb
theorem Jco {a b : Nat} (hb : b < 18446744073709551616) : a &&& b < 18446744073709551616 := Nat.lt_of_le_of_lt Nat.and_le_right hb
theorem vw {n : Nat} (hn : n < 18446744073709551616) (k : Nat) : Jcn n k < 18446744073709551616 :=
 Jtg (Nat.mod_lt _ (by decide)) (Nat.lt_of_le_of_lt (Nat.div_le_self _ _) hn)
def cS (a : List Nat) : Nat → List Nat
 | 0 => [0, 0, 0, 0, 0]
 | i + 1 => (cS a i).set (i % 5) ((cS a i).getD (i % 5) 0 ^^^ a.getD i 0)
theorem Jcp {a : List Nat} (h : SOk 25 a) : ∀ i, SOk 5 (cS a i)
 | 0 => ⟨rfl, by simp [cS]⟩
 | i + 1 => (Jcp h i).set _ (Wy ((Jcp h i).get _) (h.get _))
def mS (c a : List Nat) : Nat → List Nat
 | 0 => a
 | i + 1 => (mS c a i).set i ((mS c a i).getD i 0 ^^^ (c.getD ((i % 5 + 5 - 1) % 5) 0 ^^^ Jcn (c.getD ((i % 5 + 1) % 5) 0) 1))
theorem Jho {c a : List Nat} (hc : SOk 5 c) (h : SOk 25 a) : ∀ i, SOk 25 (mS c a i)
 | 0 => h
 | i + 1 => (Jho hc h i).set _ (Wy ((Jho hc h i).get _) (Wy (hc.get _) (vw (hc.get _) 1)))
def Jkv (a : List Nat) : List Nat := mS (cS a 25) a 25
theorem xP {a : List Nat} (h : SOk 25 a) : SOk 25 (Jkv a) := Jho (Jcp h 25) h 25
def z25 : List Nat := [0, 0, 0, 0, 0, 0, 0, 0, 0, 0, 0, 0, 0, 0, 0, 0, 0, 0, 0, 0, 0, 0, 0, 0, 0]
theorem Jnv : SOk 25 z25 := ⟨rfl, by simp [z25]⟩
def rS (a b : List Nat) : Nat → List Nat
 | 0 => z25
 | i + 1 => (rS a b i).set (i / 5 + 5 * ((2 * (i % 5) + 3 * (i / 5)) % 5)) (Jcn (a.getD i 0) (b.getD i 0))
theorem Jcq {a : List Nat} (b : List Nat) (h : SOk 25 a) : ∀ i, SOk 25 (rS a b i)
 | 0 => Jnv
 | i + 1 => (Jcq b h i).set _ (vw (h.get _) _)
def Jxo (b : List Nat) (i : Nat) : Nat := b.getD i 0 ^^^ ((18446744073709551615 ^^^ b.getD (i - i % 5 + (i % 5 + 1) % 5) 0) &&& b.getD (i - i % 5 + (i % 5 + 2) % 5) 0)
theorem Jth {b : List Nat} (h : SOk 25 b) (i : Nat) : Jxo b i < 18446744073709551616 := Wy (h.get _) (Jco (h.get _))
def xS (b a : List Nat) : Nat → List Nat
 | 0 => a
 | i + 1 => (xS b a i).set i (Jxo b i)
theorem Jhp {b a : List Nat} (hb : SOk 25 b) (h : SOk 25 a) : ∀ i, SOk 25 (xS b a i)
 | 0 => h
 | i + 1 => (Jhp hb h i).set _ (Jth hb _)
def Jhq (a : List Nat) (n : Nat) : List Nat := a.set 0 (a.getD 0 0 ^^^ n)
def we (by_ a : List Nat) (n : Nat) : List Nat := Jhq (xS (rS (Jkv a) by_ 25) (Jkv a) 25) n
theorem Jnw {a : List Nat} (h : SOk 25 a) {n : Nat} (hn : n < 18446744073709551616) : SOk 25 (Jhq a n) := h.set _ (Wy (h.get _) hn)
theorem Jkw {a : List Nat} (by_ : List Nat) (h : SOk 25 a) {n : Nat} (hn : n < 18446744073709551616) : SOk 25 (we by_ a n) :=
 Jnw (Jhp (Jcq by_ (xP h) 25) (xP h) 25) hn
def turnsL : List Nat := [0, 1, 62, 28, 27, 36, 44, 6, 55, 20, 3, 10, 43, 25, 39, 41, 45, 15, 21, 8, 18, 2, 61, 56, 14]
def numsL : List Nat := [0x0000000000000001, 0x0000000000008082, 0x800000000000808A, 0x8000000080008000, 0x000000000000808B, 0x0000000080000001,
 0x8000000080008081, 0x8000000000008009, 0x000000000000008A, 0x0000000000000088, 0x0000000080008009, 0x000000008000000A,
 0x000000008000808B, 0x800000000000008B, 0x8000000000008089, 0x8000000000008003, 0x8000000000008002, 0x8000000000000080,
 0x000000000000800A, 0x800000008000000A, 0x8000000080008081, 0x8000000000008080, 0x0000000080000001, 0x8000000080008008]
theorem numsL_ok : SOk 24 numsL := ⟨rfl, by decide +kernel⟩
def jz (a : List Nat) : Nat → List Nat
 | 0 => a
 | i + 1 => we turnsL (jz a i) (numsL.getD i 0)
theorem Yb {a : List Nat} (h : SOk 25 a) : ∀ i, SOk 25 (jz a i)
 | 0 => h
 | i + 1 => Jkw turnsL (Yb h i) (numsL_ok.get i)
def zk (a : List Nat) : List Nat := jz a 24
theorem Jcr {a : List Nat} (h : SOk 25 a) : SOk 25 (zk a) := by unfold zk; exact Yb h 24
def abS (a : List Nat) (s : List UInt8) : Nat → List Nat
 | 0 => a
 | i + 1 => (abS a s i).set (i / 8) ((abS a s i).getD (i / 8) 0 ^^^ (s.getD i 0).toNat * 2 ^ (i % 8 * 8))
theorem xQ {a : List Nat} (s : List UInt8) (h : SOk 25 a) : ∀ i, SOk 25 (abS a s i)
 | 0 => h
 | i + 1 => (xQ s h i).set _ (Wy ((xQ s h i).get _) (Jnd (YL _) (by omega)))
def Jcs (t : List UInt8) : Nat → List Nat
 | 0 => z25
 | j + 1 => zk (abS (Jcs t j) (t.drop (136 * j)) 136)
theorem xR (t : List UInt8) : ∀ j, SOk 25 (Jcs t j)
 | 0 => Jnv
 | j + 1 => by unfold Jcs; exact Jcr (xQ _ (xR t j) 136)
def vh (n : Nat) : List UInt8 := if 136 - n % 136 = 1 then [129] else 1 :: (List.replicate (134 - n % 136) 0 ++ [128])
theorem j0 (n : Nat) : (vh n).length = 136 - n % 136 := by
 unfold vh; split
 ·simp; omega
 ·simp; omega
def j3 (a : List Nat) : Nat → List UInt8
 | 0 => []
 | i + 1 => j3 a i ++ [UInt8.ofNat (a.getD (i / 8) 0 / 2 ^ (i % 8 * 8) % 256)]
theorem Wz (a : List Nat) : ∀ i, (j3 a i).length = i
 | 0 => rfl
 | i + 1 => by simp [j3, Wz a i]
def W8 (s : List UInt8) : List UInt8 := j3 (Jcs (s ++ vh s.length) ((s ++ vh s.length).length / 136)) 32
theorem Zl (s : List UInt8) : (W8 s).length = 32 := Wz _ _
theorem Jfm (s : List UInt8) : (s ++ vh s.length).length % 136 = 0 := by rw [List.length_append, j0]; omega
abbrev BS : Type := List UInt8
theorem Vy : ∀ a : BS, Op.bytesLess a a = false
 | [] => rfl
 | x :: a => by simp [Op.bytesLess, Vy a]
theorem QA : ∀ {a b c : BS}, Op.bytesLess a b = true → Op.bytesLess b c = true → Op.bytesLess a c = true
 | _, [], _, h, _ => by simp [Op.bytesLess] at h
 | _, _ :: _, [], _, h => by simp [Op.bytesLess] at h
 | [], y :: b, z :: c, _, _ => rfl
 | x :: a, y :: b, z :: c, h, h2 => by
  simp only [Op.bytesLess, Bool.or_eq_true, decide_eq_true_eq, Bool.and_eq_true, beq_iff_eq] at h h2 ⊢
  rcases h with h | ⟨rfl, h⟩
  ·rcases h2 with h2 | ⟨rfl, h2⟩
   ·exact .inl (UInt8.lt_trans h h2)
   ·exact .inl h
  ·rcases h2 with h2 | ⟨rfl, h2⟩
   ·exact .inl h2
   ·exact .inr ⟨rfl, QA h h2⟩
theorem Xk : ∀ a b : BS, a = b ∨ Op.bytesLess a b = true ∨ Op.bytesLess b a = true
 | [], [] => .inl rfl
 | [], _ :: _ => .inr (.inl rfl)
 | _ :: _, [] => .inr (.inr rfl)
 | x :: a, y :: b => by
  simp only [Op.bytesLess, Bool.or_eq_true, decide_eq_true_eq, Bool.and_eq_true, beq_iff_eq]
  by_cases h1 : x < y
  ·exact .inr (.inl (.inl h1))
  by_cases h2 : y < x
  ·exact .inr (.inr (.inl h2))
  have e : x = y := UInt8.le_antisymm (UInt8.not_lt.1 h2) (UInt8.not_lt.1 h1)
  subst e
  rcases Xk a b with rfl | h | h
  ·exact .inl rfl
  ·exact .inr (.inl (.inr ⟨rfl, h⟩))
  ·exact .inr (.inr (.inr ⟨rfl, h⟩))
theorem Wo {a b : BS} (h : Op.bytesLess a b = true) : Op.bytesLess b a = false := by
 cases h2 : Op.bytesLess b a
 ·rfl
 ·have := QA h h2; rw [Vy] at this; cases this
theorem ZE {a b : BS} (h : Op.bytesLess a b = true) : a ≠ b := by rintro rfl; rw [Vy] at h; cases h
theorem Jfn {a b : BS} (h : Op.bytesLess a b = false) (hn : a ≠ b) : Op.bytesLess b a = true := by
 rcases Xk a b with h1 | h1 | h1
 ·exact absurd h1 hn
 ·rw [h] at h1; cases h1
 ·exact h1
section
variable {α : Type} (kf : α → BS)
def Q4 : List α → Bool
 | [] => true
 | [_] => true
 | x :: y :: l => Op.bytesLess (kf x) (kf y) && Q4 (y :: l)
abbrev Ks (l : List α) : Prop := l.Pairwise fun x y => Op.bytesLess (kf x) (kf y) = true
theorem qh : ∀ l : List α, Q4 kf l = true ↔ Ks kf l
 | [] => by simp [Q4]
 | [_] => by simp [Q4]
 | x :: y :: l => by
  rw [Q4, Bool.and_eq_true, qh (y :: l)]
  refine Iff.trans ?_ List.pairwise_cons.symm
  constructor
  ·rintro ⟨h1, h2⟩
   refine ⟨fun z hz => ?_, h2⟩
   rcases List.mem_cons.1 hz with rfl | hz
   ·exact h1
   ·exact QA h1 ((List.pairwise_cons.1 h2).1 z hz)
  ·rintro ⟨h1, h2⟩
   exact ⟨h1 y List.mem_cons_self, h2⟩
def V5 (k : BS) (l : List α) : Option α := l.find? fun x => kf x == k
def KQ (x : α) : List α → List α
 | [] => [x]
 | y :: ys => if Op.bytesLess (kf y) (kf x) then y :: KQ x ys else if kf y = kf x then x :: ys else x :: y :: ys
def YD (k : BS) (l : List α) : List α := l.filter fun y => !(kf y == k)
variable {kf}
theorem Qv {k : BS} {y : α} {l : List α} : V5 kf k (y :: l) = if kf y = k then some y else V5 kf k l := by
 unfold V5
 rw [List.find?_cons]
 by_cases h : kf y = k
 ·simp [h]
 ·rw [if_neg h, show (kf y == k) = false from by simpa using h]
theorem qj {k : BS} {y : α} {l : List α} (h : V5 kf k l = some y) : kf y = k ∧ y ∈ l := ⟨by have := List.find?_some h; simpa using this, List.mem_of_find?_eq_some h⟩
theorem Jfo {k : BS} {l : List α} (h : ∀ y ∈ l, kf y ≠ k) : V5 kf k l = none := by
 unfold V5; rw [List.find?_eq_none]; intro x hx; simpa using h x hx
theorem qk {y : α} : ∀ {l : List α}, Ks kf l → y ∈ l → V5 kf (kf y) l = some y
 | z :: l, hs, hm => by
  rw [Qv]
  obtain ⟨h1, h2⟩ := List.pairwise_cons.1 hs
  rcases List.mem_cons.1 hm with rfl | hm
  ·rw [if_pos rfl]
  ·rw [if_neg (ZE (h1 y hm)), qk h2 hm]
theorem j4 {x y : α} : ∀ {l : List α}, y ∈ KQ kf x l → y = x ∨ y ∈ l
 | [], h => by simpa [KQ] using h
 | z :: l, h => by
  unfold KQ at h
  split at h
  ·rcases List.mem_cons.1 h with rfl | h
   ·exact .inr List.mem_cons_self
   ·exact (j4 h).elim .inl fun h => .inr (List.mem_cons_of_mem _ h)
  ·split at h
   ·rcases List.mem_cons.1 h with rfl | h
    ·exact .inl rfl
    ·exact .inr (List.mem_cons_of_mem _ h)
   ·exact List.mem_cons.1 h
theorem ZL {x : α} : ∀ {l : List α}, Ks kf l → Ks kf (KQ kf x l)
 | [], _ => by simp [KQ]
 | z :: l, h => by
  obtain ⟨h1, h2⟩ := List.pairwise_cons.1 h
  unfold KQ
  split
  ·rename_i hz
   refine List.pairwise_cons.2 ⟨fun y hy => ?_, ZL h2⟩
   rcases j4 hy with rfl | hy
   ·exact hz
   ·exact h1 y hy
  ·rename_i hz
   split
   ·rename_i he
    exact List.pairwise_cons.2 ⟨fun y hy => he ▸ h1 y hy, h2⟩
   ·rename_i he
    have hx := Jfn (by simpa using hz) he
    refine List.pairwise_cons.2 ⟨fun y hy => ?_, h⟩
    rcases List.mem_cons.1 hy with rfl | hy
    ·exact hx
    ·exact QA hx (h1 y hy)
theorem wf {x : α} {k : BS} : ∀ {l : List α}, Ks kf l → V5 kf k (KQ kf x l) = if kf x = k then some x else V5 kf k l
 | [], _ => by unfold KQ; rw [Qv]
 | z :: l, h => by
  obtain ⟨h1, h2⟩ := List.pairwise_cons.1 h
  unfold KQ
  split
  ·rename_i hz
   rw [Qv, Qv, wf h2]
   by_cases hk : kf z = k
   ·subst hk
    rw [if_pos rfl, if_neg (fun e => ZE hz e.symm), if_pos rfl]
   ·rw [if_neg hk, if_neg hk]
  ·split
   ·rename_i he
    rw [Qv, Qv, he]
    split <;> rfl
   ·rw [Qv]
theorem xT {x : α} : ∀ {l : List α}, Ks kf l → (KQ kf x l).length = if (V5 kf (kf x) l).isSome then l.length else l.length + 1
 | [], _ => rfl
 | z :: l, h => by
  obtain ⟨h1, h2⟩ := List.pairwise_cons.1 h
  unfold KQ
  rw [Qv]
  split
  ·rename_i hz
   rw [List.length_cons, xT h2, if_neg (ZE hz)]
   split <;> rfl
  ·rename_i hz
   split
   ·rename_i he
    rfl
   ·rename_i he
    have hx := Jfn (by simpa using hz) he
    rw [Jfo (fun y hy e => ?_)]
    ·rfl
    ·have := QA hx (h1 y hy)
     rw [e, Vy] at this; cases this
theorem Jfp {k : BS} {l : List α} (h : Ks kf l) : Ks kf (YD kf k l) := h.filter _
theorem Jct {k j : BS} : ∀ {l : List α}, V5 kf j (YD kf k l) = if k = j then none else V5 kf j l
 | [] => by simp [YD, V5]
 | z :: l => by
  have ih := Jct (k := k) (j := j) (l := l)
  unfold YD at ih ⊢
  rw [List.filter_cons, Qv]
  by_cases hz : kf z = k
  ·subst hz
   rw [if_neg (by simp), ih]
   split
   ·rfl
   ·rfl
  ·rw [if_pos (by simpa using hz), Qv, ih]
   by_cases hj : kf z = j
   ·subst hj
    rw [if_pos rfl, if_pos rfl, if_neg (fun e => hz e.symm)]
   ·rw [if_neg hj, if_neg hj]
theorem Jti {k : BS} {l : List α} {y : α} (h : y ∈ YD kf k l) : y ∈ l := (List.mem_filter.1 h).1
theorem Jhr {x : α} : ∀ {l : List α}, YD kf (kf x) (KQ kf x l) = YD kf (kf x) l
 | [] => by simp [YD, KQ]
 | z :: l => by
  have ih := Jhr (x := x) (l := l)
  unfold YD at ih ⊢
  unfold KQ
  split
  ·rw [List.filter_cons, ih, List.filter_cons]
  ·split
   ·rename_i he
    rw [List.filter_cons, List.filter_cons, he]
    simp
   ·rw [List.filter_cons]
    simp
def QP (kf : α → BS) (x : α) : Bool → List α → List α
 | p, [] => if p then [] else [x]
 | p, y :: ys => (if !p && !Op.bytesLess (kf y) (kf x) then [x] else []) ++ (if kf y = kf x then [] else [y]) ++ QP kf x (p || !Op.bytesLess (kf y) (kf x)) ys
theorem Yt {x : α} : ∀ l : List α, QP kf x true l = YD kf (kf x) l
 | [] => rfl
 | y :: ys => by
  rw [QP, Bool.true_or, Yt ys]
  unfold YD
  rw [List.filter_cons]
  by_cases h : kf y = kf x
  ·simp [h]
  ·simp [h]
theorem Jny {k : BS} {l : List α} (h : ∀ y ∈ l, kf y ≠ k) : YD kf k l = l := List.filter_eq_self.2 fun y hy => by simpa using h y hy
theorem ql {x : α} : ∀ {l : List α}, Ks kf l → QP kf x false l = KQ kf x l
 | [], _ => rfl
 | y :: ys, h => by
  obtain ⟨h1, h2⟩ := List.pairwise_cons.1 h
  rw [QP, KQ]
  by_cases hy : Op.bytesLess (kf y) (kf x) = true
  ·simp [hy, ZE hy, ql h2]
  ·have hy : Op.bytesLess (kf y) (kf x) = false := by simpa using hy
   by_cases he : kf y = kf x
   ·have hd : YD kf (kf x) ys = ys := Jny fun z hz q => ZE (h1 z hz) (he.trans q.symm)
    simp [hy, he, Yt, hd, Vy]
   ·have hx := Jfn hy he
    have hd : YD kf (kf x) ys = ys := Jny fun z hz q => by have := QA hx (h1 z hz); rw [q, Vy] at this; cases this
    simp [hy, he, Yt, hd]
theorem Jnz {x : α} : ∀ {p q : List α}, (∀ y ∈ p, Op.bytesLess (kf y) (kf x) = true) → (∀ y ∈ q, Op.bytesLess (kf y) (kf x) = false) →
  KQ kf x (p ++ q) = match q with
   | [] => p ++ [x]
   | y :: q' => if kf y = kf x then p ++ x :: q' else p ++ x :: y :: q'
 | [], [], _, _ => rfl
 | [], y :: q', _, h => by
  rw [List.nil_append, KQ, h y List.mem_cons_self]
  simp
 | z :: p, q, h1, h2 => by
  rw [List.cons_append, KQ, if_pos (h1 z List.mem_cons_self), Jnz (p := p) (fun y hy => h1 y (List.mem_cons_of_mem _ hy)) h2]
  cases q with
  | nil => rfl
  | cons y q' => dsimp only; split <;> rfl
end
def Qc : BS := List.replicate 32 0
structure W4 : Type where
  a : Nat
  b : Nat
  c : Nat
  d : Nat
deriving DecidableEq
def W4.l (w : W4) : List Nat := [w.a, w.b, w.c, w.d]
def w40 : W4 := ⟨0, 0, 0, 0⟩
def W4.of (l : List Nat) : W4 := ⟨l.getD 0 0, l.getD 1 0, l.getD 2 0, l.getD 3 0⟩
theorem W4.of_l {l : List Nat} (h : l.length = 4) : (W4.of l).l = l := by
 match l, h with
 | [a, b, c, d], _ => rfl
theorem W4.l_inj {x y : W4} (h : x.l = y.l) : x = y := by
 cases x; cases y; simp [W4.l] at h; simp [h]
structure AcE : Type where
  addr : BS
  nonce : Nat
  bal : W4
  code : BS
  slots : List (BS × BS)
deriving DecidableEq
def ac0 : AcE := ⟨[], 0, w40, [], []⟩
def YN (x : BS × BS) : Bool := decide (x.1.length ≠ 32) || decide (x.2.length ≠ 32)
def WA (x : BS × BS) : Bool := decide (x.2 = Qc)
def VM (a : AcE) : Int := if a.addr.length ≠ 20 ∨ a.slots.any YN = true then 2 else if Q4 Prod.fst a.slots = false then 11 else if a.code.length > 512 ∨ a.slots.length > 16 then 5 else if a.slots.any WA = true then 8 else 0
def QQ (last : Option BS) (a : AcE) : Int := if VM a ≠ 2 ∧ (∃ b, last = some b ∧ Op.bytesLess b a.addr = false) then 11 else VM a
instance (last : Option BS) (a : AcE) : Decidable (∃ b, last = some b ∧ Op.bytesLess b a.addr = false) := match last with
  | none => .isFalse (by simp)
  | some b => if h : Op.bytesLess b a.addr = false then .isTrue ⟨b, rfl, h⟩ else .isFalse (by simpa using h)
def goS : Option BS → List AcE → Int
 | _, [] => 0
 | last, a :: l => if QQ last a ≠ 0 then QQ last a else goS (some a.addr) l
def KC (s : List AcE) : Int := if s.length > 32 then 5 else goS none s
def KP (s : List AcE) (k : BS) : Option AcE := V5 AcE.addr k s
def YO (s : List AcE) (a : AcE) : List AcE × Int := if KC s ≠ 0 then (s, KC s) else if VM a ≠ 0 then (s, VM a) else if (KQ AcE.addr a s).length > 32 then (s, 5) else (KQ AcE.addr a s, 0)
def QR (a : AcE) (k : BS) : BS := match V5 Prod.fst k a.slots with
 | some x => x.2
 | none => Qc
def Ko (l : List (BS × BS)) (k v : BS) : List (BS × BS) := if v = Qc then YD Prod.fst k l else KQ Prod.fst (k, v) l
def Vz (a : AcE) (k v : BS) : AcE × Int := if VM a ≠ 0 then (a, VM a) else if k.length ≠ 32 ∨ v.length ≠ 32 then (a, 2) else if (Ko a.slots k v).length > 16 then (a, 5) else ({ a with slots := Ko a.slots k v }, 0)
theorem QH {a : AcE} (h : VM a = 0) : a.addr.length = 20 ∧ (∀ x ∈ a.slots, x.1.length = 32 ∧ x.2.length = 32 ∧ x.2 ≠ Qc) ∧ Ks Prod.fst a.slots ∧ a.code.length ≤ 512 ∧ a.slots.length ≤ 16 := by
 unfold VM at h
 split at h
 ·cases h
 rename_i h1
 split at h
 ·cases h
 rename_i h2
 split at h
 ·cases h
 rename_i h3
 split at h
 ·cases h
 rename_i h4
 simp only [not_or, Decidable.not_not] at h1 h3
 refine ⟨h1.1, fun x hx => ?_, (qh _ _).1 (by simpa using h2), by omega, by omega⟩
 have a1 := h1.2
 simp only [Bool.not_eq_true, List.any_eq_false] at a1 h4
 have := a1 x hx
 have h5 := h4 x hx
 unfold YN at this
 unfold WA at h5
 simp at this h5
 exact ⟨this.1, this.2, h5⟩
theorem xU {a : AcE} (h1 : a.addr.length = 20) (h2 : ∀ x ∈ a.slots, x.1.length = 32 ∧ x.2.length = 32 ∧ x.2 ≠ Qc) (h3 : Ks Prod.fst a.slots) (h4 : a.code.length ≤ 512) (h5 : a.slots.length ≤ 16) : VM a = 0 := by
 unfold VM
 have e1 : ¬ a.slots.any YN = true := by
  simp only [Bool.not_eq_true, List.any_eq_false]
  intro x hx
  obtain ⟨a1, a2, _⟩ := h2 x hx
  simp [YN, a1, a2]
 have e2 : ¬ a.slots.any WA = true := by
  simp only [Bool.not_eq_true, List.any_eq_false]
  intro x hx
  obtain ⟨_, _, a3⟩ := h2 x hx
  simp [WA, a3]
 have e3 := (qh Prod.fst a.slots).2 h3
 rw [if_neg (fun h => h.elim (fun h => h h1) e1), if_neg (by rw [e3]; simp), if_neg (by omega), if_neg e2]
theorem qm (a : AcE) : QQ none a = VM a := by unfold QQ; rw [if_neg (by simp)]
theorem Jhs {last : Option BS} {a : AcE} : QQ last a = 0 ↔ VM a = 0 ∧ ∀ b, last = some b → Op.bytesLess b a.addr = true := by
 unfold QQ
 split
 ·rename_i h
  obtain ⟨h1, b, h2, h3⟩ := h
  constructor
  ·intro h; cases h
  ·rintro ⟨_, h⟩; rw [h b h2] at h3; cases h3
 ·rename_i h
  constructor
  ·intro h0
   refine ⟨h0, fun b hb => ?_⟩
   cases h4 : Op.bytesLess b a.addr
   ·exact absurd ⟨by omega, b, hb, h4⟩ h
   ·rfl
  ·exact fun h => h.1
theorem Jwq : ∀ {last : Option BS} {s : List AcE}, goS last s = 0 ↔ (∀ a ∈ s, VM a = 0) ∧ Ks AcE.addr s ∧ (∀ b, last = some b → ∀ a ∈ s, Op.bytesLess b a.addr = true)
 | last, [] => by simp [goS]
 | last, a :: l => by
  rw [goS]
  split
  ·rename_i h
   constructor
   ·intro h0; exact absurd h0 h
   ·rintro ⟨h1, h2, h3⟩
    exact absurd (Jhs.2 ⟨h1 a List.mem_cons_self, fun b hb => h3 b hb a List.mem_cons_self⟩) h
  ·rename_i h
   have h := Jhs.1 (Decidable.not_not.1 h)
   rw [Jwq]
   constructor
   ·rintro ⟨h1, h2, h3⟩
    refine ⟨fun x hx => ?_, List.pairwise_cons.2 ⟨fun x hx => h3 _ rfl x hx, h2⟩, fun b hb x hx => ?_⟩
    ·rcases List.mem_cons.1 hx with rfl | hx
     ·exact h.1
     ·exact h1 x hx
    ·rcases List.mem_cons.1 hx with rfl | hx
     ·exact h.2 b hb
     ·exact QA (h.2 b hb) (h3 _ rfl x hx)
   ·rintro ⟨h1, h2, h3⟩
    obtain ⟨h4, h5⟩ := List.pairwise_cons.1 h2
    exact ⟨fun x hx => h1 x (List.mem_cons_of_mem _ hx), h5, fun b hb x hx => by cases hb; exact h4 x hx⟩
theorem Xl {s : List AcE} : KC s = 0 ↔ s.length ≤ 32 ∧ (∀ a ∈ s, VM a = 0) ∧ Ks AcE.addr s := by
 unfold KC
 split
 ·constructor
  ·intro h; cases h
  ·rintro ⟨h, _⟩; omega
 ·rw [Jwq]
  constructor
  ·rintro ⟨h1, h2, _⟩; exact ⟨by omega, h1, h2⟩
  ·rintro ⟨_, h1, h2⟩; exact ⟨h1, h2, by simp⟩
theorem chk_one (a : AcE) : KC [a] = VM a := by
 unfold KC goS goS
 rw [if_neg (by simp), qm]
 split
 ·rfl
 ·rename_i h; exact (Decidable.not_not.1 h).symm
structure PureT {α : Type} (P : Program) (f : FuncId) (args : Array Value) (V : α → Value) (T : Jm) (LL : α → Jm) (Rl : Jm) : Prop where
  run : ∀ w, Has T w → Has Rl w → (T.Pairwise fun p q => p.1 ≠ q.1) → (∀ p ∈ Rl, ∀ q ∈ T, p.1 ≠ q.1) → Calls P f args w fun e w' => ∃ x, e = .returned (V x) ∧ Keep (T.map (·.1)) w w' ∧ (∀ p ∈ LL x, (p.1 ∈ T.map (·.1) ∨ w.heap.size ≤ p.1) ∧ w'.heap[p.1]? = some p.2) ∧ (LL x).Pairwise fun p q => p.1 ≠ q.1
def cxT (P : Program) (w : World) (T Rl : Jm) (n : Nat) : Cx := ⟨P, none, w, T.map (·.1), [], Rl, n⟩
theorem St.startT {P : Program} {w : World} {n : Nat} {T Rl : Jm} (hT : Has T w) (hR : Has Rl w) (hd : T.Pairwise fun p q => p.1 ≠ q.1) (hne : ∀ p ∈ Rl, ∀ q ∈ T, p.1 ≠ q.1) : St (cxT P w T Rl n) T (fun _ _ => True) w :=
 ⟨Keep.refl _ _, fun p hp => ⟨.inl (List.mem_map.2 ⟨p, hp, rfl⟩), by simp [cxT], hT p hp⟩, hd, fun p hp => ⟨fun h => by obtain ⟨q, hq, e⟩ := List.mem_map.1 h; exact hne p hp q hq e.symm, by simp [cxT], hR p hp⟩, by simp [cxT], ⟨[], by simp, fun _ _ => trivial⟩⟩
theorem Jw {α : Type} {P : Program} {f : FuncId} {fn : Func} {code : Code} {vs : List Value} {V : α → Value} {T Rl : Jm} {LL : α → Jm} (hf : P.funcs[f]? = some fn) (hb : fn.body = some code) (hlen : Nat.ble vs.length fn.ntmps = true)
  (h : ∀ w, HC (cxT P w T Rl fn.ntmps) [] (VB 0 vs) T (fun _ _ => True) code (bodyPostM (FW none) 0 P fn (fun e w' => ∃ x, e = .returned (V x) ∧ St (cxT P w T Rl fn.ntmps) (LL x) (fun _ _ => True) w'))) : PureT P f vs.toArray V T LL Rl := ⟨fun w hT hR hd hne =>
 (Q7 (cxT P w T Rl fn.ntmps) hf hb rfl rfl rfl hlen (St.startT hT hR hd hne) (h w)).mono fun _ _ ⟨x, he, hs⟩ => ⟨x, he, by have := hs.keep; simpa [cxT] using this, fun p hp => ⟨(hs.own p hp).1, (hs.own p hp).2.2⟩, hs.distinct⟩⟩
section
variable {c : Cx} {l : Kw} {L : Jm} {X : XP} {Q : Exit → Act → World → Prop} {d : List Deferred}
variable {ops : Array Oper} {rest : List Oper} {i : Nat} {v : Value} {t : TypeId} {ps : String} {af : Array Edge} {gd : Option (Nat × Bool)} {ty t2 : TypeId}
theorem St.turnT {T L0 LL : Jm} {w w' : World} (hs : St c (T ++ L0) X w) (hk : Keep (T.map (·.1)) w w') (hL : ∀ p ∈ LL, (p.1 ∈ T.map (·.1) ∨ w.heap.size ≤ p.1) ∧ w'.heap[p.1]? = some p.2) (hd : LL.Pairwise fun p q => p.1 ≠ q.1) : St c (LL ++ L0) X w' := by
 have hT : ∀ p ∈ T, p ∈ T ++ L0 := fun p hp => List.mem_append_left _ hp
 have hle := hs.keep.size
 obtain ⟨hd1, hd2, hd3⟩ := List.pairwise_append.1 hs.distinct
 have hin : ∀ k ∈ T.map (·.1), ∃ p ∈ T, p.1 = k := fun k hk => by obtain ⟨p, hp, e⟩ := List.mem_map.1 hk; exact ⟨p, hp, e⟩
 refine ⟨hs.keep.glue hk ?_, fun p hp => ?_, ?_, hs.ext, hs.xlt, ?_⟩
 ·intro k hk
  obtain ⟨p, hp, rfl⟩ := hin k hk
  exact (hs.own p (hT p hp)).1.imp (fun h => List.mem_append_left _ h) id
 ·rcases List.mem_append.1 hp with hp | hp
  ·obtain ⟨h1, h2⟩ := hL p hp
   rcases h1 with h1 | h1
   ·obtain ⟨q, hq, e⟩ := hin _ h1
    obtain ⟨g1, g2, _⟩ := hs.own q (hT q hq)
    rw [e] at g1 g2
    exact ⟨g1, g2, h2⟩
   ·exact ⟨.inr (by omega), fun hx => (by have := hs.xlt _ hx; omega), h2⟩
  ·obtain ⟨g1, g2, g3⟩ := hs.own p (List.mem_append_right _ hp)
   refine ⟨g1, g2, ?_⟩
   rw [hk.block _ (JB g3) (fun h => by obtain ⟨q, hq, e⟩ := hin _ h; exact hd3 q hq p hp e)]
   exact g3
 ·refine List.pairwise_append.2 ⟨hd, hd2, fun p hp q hq => ?_⟩
  rcases (hL p hp).1 with h1 | h1
  ·obtain ⟨u, hu, e⟩ := hin _ h1
   rw [← e]; exact hd3 u hu q hq
  ·have := JB (hs.own q (List.mem_append_right _ hq)).2.2
   omega
 ·obtain ⟨xs, e1, e2⟩ := hs.x
  refine ⟨xs, fun k hkx => ?_, fun w2 hw2 => e2 w2 fun k hkx => (hw2 k hkx).trans (hk.block k (e1 k hkx).2.1 (fun h => by obtain ⟨q, hq, e⟩ := hin _ h; exact (e1 k hkx).2.2 q (hT q hq) e))⟩
  obtain ⟨a1, a2, a3⟩ := e1 k hkx
  refine ⟨a1, Nat.lt_of_lt_of_le a2 hk.size, fun p hp => ?_⟩
  rcases List.mem_append.1 hp with hp | hp
  ·rcases (hL p hp).1 with h1 | h1
   ·obtain ⟨u, hu, e⟩ := hin _ h1
    rw [← e]; exact a3 u (hT u hu)
   ·omega
  ·exact a3 p (List.mem_append_right _ hp)
theorem Qw {α : Type} {T L0 Rl : Jm} {f : Operand} {args : Array Operand} {at_ : Array TypeId} {g : FuncId} {vs : List Value} {V : α → Value} {LL : α → Jm}
  (hp : L.Perm (T ++ L0)) (hg : Kj l ops ⟨some i, .call ⟨.value f, args, at_⟩, ty, ps, af, gd⟩ = some true) (hi : Nat.ble (i + 1) c.n = true) (hca : Kq l f args = some (g, vs)) (eg : Enters c.P g)
  (hpt : PureT c.P g vs.toArray V T LL Rl) (hR : ∀ p ∈ Rl, known c L0 p.1 p.2) (h : ∀ x, HL c d ((i, V x) :: l) (LL x ++ L0) X ops rest Q) : HL c d l L X ops (⟨some i, .call ⟨.value f, args, at_⟩, ty, ps, af, gd⟩ :: rest) Q :=
 WZ (V := V) (L' := fun x => LL x ++ L0) (X' := fun _ => X) hg hi hca eg (fun w hs => by
  have hs := hs.perm hp
  obtain ⟨hd1, _, hd3⟩ := List.pairwise_append.1 hs.distinct
  refine (hpt.run w (fun p hp => (hs.own p (List.mem_append_left _ hp)).2.2) (fun p hp => ?_) hd1 (fun p hp q hq => ?_)).mono fun _ _ ⟨x, he, hk, h1, h2⟩ => ⟨x, he, hs.turnT hk h1 h2⟩
  ·exact (hR p hp).elim (fun h => (hs.own _ (List.mem_append_right _ h)).2.2) hs.readR
  ·rcases hR p hp with h | h
   ·exact fun e => hd3 q hq _ h e.symm
   ·rintro e
    obtain ⟨h1, _, h3⟩ := hs.ext _ h
    have h3 := JB h3
    rcases (hs.own q (List.mem_append_left _ hq)).1 with h4 | h4
    ·exact h1 (e ▸ h4)
    ·simp only at h3 e; omega) h
theorem Ke {α : Type} {Rl : Jm} {f : Operand} {args : Array Operand} {at_ : Array TypeId} {g : FuncId} {vs : List Value} {V : α → Value} {LL : α → Jm}
  (hg : Kj l ops ⟨some i, .call ⟨.value f, args, at_⟩, ty, ps, af, gd⟩ = some true) (hi : Nat.ble (i + 1) c.n = true) (hca : Kq l f args = some (g, vs)) (eg : Enters c.P g)
  (hpt : PureT c.P g vs.toArray V [] LL Rl) (hR : ∀ p ∈ Rl, known c L p.1 p.2) (h : ∀ x, HL c d ((i, V x) :: l) (LL x ++ L) X ops rest Q) : HL c d l L X ops (⟨some i, .call ⟨.value f, args, at_⟩, ty, ps, af, gd⟩ :: rest) Q :=
 Qw (T := []) (L0 := L) (List.Perm.refl _) hg hi hca eg hpt hR h
theorem PureR.toT {P : Program} {f : FuncId} {args : Array Value} {v : Value} {Rl : Jm} (h : PureR P f args v Rl) : PureT (α := Unit) P f args (fun _ => v) [] (fun _ => []) Rl :=
 ⟨fun w _ hR _ _ => (h.run w hR).mono fun _ _ ⟨he, hk⟩ => ⟨(), he, hk, by simp, List.Pairwise.nil⟩⟩
theorem PureT.map {α β : Type} {P : Program} {f : FuncId} {args : Array Value} {V : α → Value} {V' : β → Value} {T Rl : Jm} {LL : α → Jm} {LL' : β → Jm} (h : PureT P f args V T LL Rl) (g : α → β) (hv : ∀ x, V x = V' (g x)) (hl : ∀ x, (LL' (g x)).Sublist (LL x)) : PureT P f args V' T LL' Rl :=
 ⟨fun w hT hR hd hne => (h.run w hT hR hd hne).mono fun _ _ ⟨x, he, hk, h1, h2⟩ => ⟨g x, he.trans (by rw [hv]), hk, fun p hp => h1 p ((hl x).subset hp), h2.sublist (hl x)⟩⟩
theorem Jkx {α : Type} {k r : Nat} {o : Obj} {L0 Rl : Jm} {f : Operand} {args : Array Operand} {at_ : Array TypeId} {g : FuncId} {vs : List Value} {V : α → Value} {LL : α → Jm}
  (hk : L[k]? = some (r, o)) (hL : L.eraseIdx k = L0) (hg : Kj l ops ⟨some i, .call ⟨.value f, args, at_⟩, ty, ps, af, gd⟩ = some true) (hi : Nat.ble (i + 1) c.n = true) (hca : Kq l f args = some (g, vs)) (eg : Enters c.P g)
  (hpt : PureT c.P g vs.toArray V [(r, o)] LL Rl) (hR : ∀ p ∈ Rl, known c L0 p.1 p.2) (h : ∀ x, HL c d ((i, V x) :: l) (LL x ++ L0) X ops rest Q) : HL c d l L X ops (⟨some i, .call ⟨.value f, args, at_⟩, ty, ps, af, gd⟩ :: rest) Q :=
 Qw (T := [(r, o)]) (L0 := L0) (by
  obtain ⟨h1, h2⟩ := List.getElem?_eq_some_iff.1 hk
  have := jh h1 (r, o)
  rw [hL] at this
  rwa [show L.set k (r, o) = L from by rw [← h2, List.set_getElem_self]] at this) hg hi hca eg hpt hR h
theorem Jcv {P : Program} (w : World) (dT sT ty e : TypeId) (inf : TypeInfo) (hu : P.underlying dT = some (.slice e)) (hi : P.info? e = some inf) {r off dl dc r2 off2 sl sc n : Nat} {cs : Array Value} {e1 : TypeId} {vs : List Value}
  (hn : Nat.min sl dl = n) (hb : w.heap[r]? = some (.cells cs e1 (0, 0))) (hl : vs.length = n * inf.size) (hsrc : ∀ j v, vs[j]? = some v → w.cell? ((⟨r2, off2, none⟩ : Addr).add j) = some v) (hfit : off + n * inf.size ≤ cs.size) (h1 : ∀ v ∈ vs, v.oneCell' = true) :
  (Builtin.copy_ #[dT, sT] ty #[.slice (some ⟨r, off, none⟩) dl dc, .slice (some ⟨r2, off2, none⟩) sl sc]).run P w = .ok (.int .i64 n) (w.setRow r (cs.toList.take off ++ vs ++ cs.toList.drop (off + n * inf.size)).toArray) := by
 have hl1 := run_loadCells_list (P := P) w ⟨r2, off2, none⟩ vs hsrc
 rw [hl] at hl1
 have hst := run_storeCells_at (P := P) r off e1 vs 0 cs w hb (by rw [Nat.add_zero, hl]; exact hfit) h1
 rw [Nat.add_zero, hl] at hst
 have hn' : min sl dl = n := hn
 simp [Builtin.copy_, run_underlying hu, Builtin.lenOf, Builtin.firstCells, sizeOf, typeInfo, hi, hn', hl1, hst, Result.andThen, goInt]
theorem XB {x y : Operand} {e sz k r off dl dc r2 off2 sl sc n : Nat} {cs cs2 : Array Value} {e1 e2 : TypeId} {fr2 : Nat × Nat} {vs cs' : List Value} {L' : Jm}
  (hg : Kj l ops ⟨some i, .call ⟨.builtin .copy, #[x, y], #[t, t2]⟩, ty, ps, af, gd⟩ = some true) (hi : Nat.ble (i + 1) c.n = true)
  (hx : Kg l x = some (.slice (some ⟨r, off, none⟩) dl dc)) (hy : Kg l y = some (.slice (some ⟨r2, off2, none⟩) sl sc)) (hk : L[k]? = some (r, .cells cs e1 (0, 0))) (hk2 : known c L r2 (.cells cs2 e2 fr2))
  (ht : Kp c.P t = some e) (hs : KJ c.P e = some sz) (hn : Nat.min sl dl = n) (hvs : (cs2.toList.drop off2).take (n * sz) = vs) (hl : vs.length = n * sz) (hone : vs.all Q3 = true) (hfit : off + n * sz ≤ cs.size)
  (hcs : cs.toList.take off ++ vs ++ cs.toList.drop (off + n * sz) = cs') (hL : L.set k (r, .cells cs'.toArray e1 (0, 0)) = L')
  (h : HL c d ((i, .int .i64 n) :: l) L' X ops rest Q) : HL c d l L X ops (⟨some i, .call ⟨.builtin .copy, #[x, y], #[t, t2]⟩, ty, ps, af, gd⟩ :: rest) Q := by
 obtain ⟨inf, hinf, hs'⟩ : ∃ inf, c.P.info? e = some inf ∧ inf.size = sz := by
  unfold KJ at hs
  cases hq : c.P.info? e with
  | none => simp [hq] at hs
  | some inf => simp only [hq, Option.some.injEq] at hs; exact ⟨inf, rfl, hs⟩
 subst hs'
 refine Jmq (v := .int .i64 n) (L' := L') hg rfl rfl hi (fun a w hf hst => ⟨w.setRow r cs'.toArray, ?_, ?_⟩) h
 ·have hr := Jcv (P := c.P) w t t2 ty e inf (Kc ht) hinf (dc := dc) (sc := sc) hn (hst.get hk) hl (Xc (hst.known hk2) hvs) hfit (fun u hu => by rw [WK]; exact List.all_eq_true.1 hone u hu)
  rw [hcs] at hr
  have ex := hf.eval hx
  have ey := hf.eval hy
  simp [execOp, resolve, Sem.run_bind, ex, ey, Result.andThen, invoke, builtin, hr]
 ·subst hL
  exact hst.set hk (Keep.setRow r cs'.toArray) (setRow_heap _ _ _ _ _ _ (hst.get hk))
theorem Jfq (z : Array Value) (n : Nat) : (Builtin.zeroCells z n).toList = (List.range (n * z.size)).map (fun i => z.toList.getD (i % z.size) default) := by
 unfold Builtin.zeroCells
 simp
 intro a _
 rw [getElem!_def]
 cases z[a % z.size]? <;> rfl
theorem Jtj {o : Oper} {L' : Jm} (hg : Kj l ops o = some true) (hn : Ku o.op = true) (hd : o.dst = none)
  (hr : ∀ a w, Fr c.n d l a → St c L X w → ∃ w', (execOp a.eval o).run c.P w = .ok (.value v) w' ∧ St c L' X w') (h : HL c d l L' X ops rest Q) : HL c d l L X ops (o :: rest) Q := fun a w hf hs => by
 obtain ⟨w', h1, h2⟩ := hr a w hf hs
 refine Vd (JL hf hg) hn ?_
 rw [h1, Oper.uponIn_value, hd]
 exact h a w' hf h2
theorem zm {x : Operand} {e sz k r off n cap : Nat} {z : Value} {cs : Array Value} {e1 : TypeId} {cs' : List Value} {L' : Jm}
  (hg : Kj l ops ⟨none, .call ⟨.builtin .clear, #[x], #[t]⟩, ty, ps, af, gd⟩ = some true)
  (hx : Kg l x = some (.slice (some ⟨r, off, none⟩) n cap)) (hk : L[k]? = some (r, .cells cs e1 (0, 0))) (ht : Kp c.P t = some e) (hz : Q2 c.P e = some z) (hs : z.cells.size = sz) (hone : z.cells.toList.all Q3 = true) (hsz : 0 < sz) (hfit : off + n * sz ≤ cs.size)
  (hcs : cs.toList.take off ++ (Builtin.zeroCells z.cells n).toList ++ cs.toList.drop (off + n * sz) = cs') (hL : L.set k (r, .cells cs'.toArray e1 (0, 0)) = L')
  (h : HL c d l L' X ops rest Q) : HL c d l L X ops (⟨none, .call ⟨.builtin .clear, #[x], #[t]⟩, ty, ps, af, gd⟩ :: rest) Q := by
 have hlen : (Builtin.zeroCells z.cells n).toList.length = n * sz := by rw [Array.length_toList, size_zeroCells, hs]
 have hone' : ∀ u ∈ (Builtin.zeroCells z.cells n).toList, u.oneCell' = true := fun u hu => by
  rw [Jfq] at hu
  obtain ⟨j, hj, rfl⟩ := List.mem_map.1 hu
  rw [WK]
  have hj2 : j % z.cells.size < z.cells.toList.length := by rw [Array.length_toList]; exact Nat.mod_lt _ (by omega)
  rw [List.getD_eq_getElem?_getD, List.getElem?_eq_getElem hj2]
  exact List.all_eq_true.1 hone _ (List.getElem_mem _)
 refine Jtj (v := .tuple #[]) (L' := L') hg rfl rfl (fun a w hf hst => ?_) h
 have ex := hf.eval hx
 have hst2 := run_storeCells_at (P := c.P) r off e1 (Builtin.zeroCells z.cells n).toList 0 cs w (hst.get hk) (by rw [Nat.add_zero, hlen]; exact hfit) hone'
 rw [Nat.add_zero, hlen, hcs] at hst2
 cases n with
 | zero =>
  refine ⟨w, ?_, ?_⟩
  ·simp [execOp, resolve, Sem.run_bind, ex, Result.andThen, invoke, builtin, Builtin.clear_, KF (Kc ht)]
  ·have : cs' = cs.toList := by
    rw [← hcs]
    have : (Builtin.zeroCells z.cells 0).toList = [] := List.length_eq_zero_iff.1 (by rw [hlen, Nat.zero_mul])
    rw [this, List.append_nil, Nat.zero_mul, Nat.add_zero, List.take_append_drop]
   rw [this] at hL
   have e2 : L.set k (r, .cells cs.toList.toArray e1 (0, 0)) = L := by
    obtain ⟨h1, h2⟩ := List.getElem?_eq_some_iff.1 hk
    rw [Array.toArray_toList, ← h2, List.set_getElem_self]
   rw [e2] at hL
   exact hL ▸ hst
 | succ n =>
  refine ⟨w.setRow r cs'.toArray, ?_, hL ▸ hst.set hk (Keep.setRow r cs'.toArray) (setRow_heap _ _ _ _ _ _ (hst.get hk))⟩
  simp [execOp, resolve, Sem.run_bind, ex, Result.andThen, invoke, builtin, Builtin.clear_, KF (Kc ht), WY hz, hst2]
theorem wg {x y : Operand} {e tn sz b r off n cap m : Nat} {kk : IntKind} {z : Value} {cs : Array Value} {e1 : TypeId} {fr : Nat × Nat} {xs : List Value} {kn : IntKind}
  (hg : Kj l ops ⟨some i, .call ⟨.builtin .append, #[x, y], #[t, tn]⟩, ty, ps, af, gd⟩ = some true) (hi : Nat.ble (i + 1) c.n = true)
  (hx : Kg l x = some (.slice (some ⟨r, off, none⟩) n cap)) (hy : Kg l y = some (.int kk (m : Int))) (hk : known c L r (.cells cs e1 fr)) (ht : Kp c.P t = some e) (htn : c.P.underlying tn = some (.int kn)) (hz : Q2 c.P e = some z) (hs : KJ c.P e = some sz) (hb : Jb0 c.P e = some b) (hzs : z.cells.size = sz) (hsz : 0 < sz)
  (hxs : (cs.toList.drop off).take (n * sz) = xs) (hl : xs.length = n * sz) (hm : 0 < m) (hno : cap < n + m) (hcap : n ≤ cap) (h63 : n + m ≤ 9223372036854775807) (h47 : (n + m) * b ≤ 140737488355328)
  (h : ∀ r' cap' (Z spare : List Value), Z.length = m * sz → (n + m) * sz + spare.length = cap' * sz → HL c d ((i, .slice (some ⟨r', 0, none⟩) (n + m) cap') :: l) ((r', .cells (xs ++ Z ++ spare).toArray e (0, 0)) :: L) X ops rest Q) :
  HL c d l L X ops (⟨some i, .call ⟨.builtin .append, #[x, y], #[t, tn]⟩, ty, ps, af, gd⟩ :: rest) Q := by
 obtain ⟨inf, hinf, hz', hs', hb'⟩ := vq hz hs hb
 subst hs' hb'
 refine V9 (α := { p : Nat × Nat × List Value // (n + m) * inf.size + p.2.2.length = p.2.1 * inf.size }) (V := fun p => .slice (some ⟨p.1.1, 0, none⟩) (n + m) p.1.2.1)
  (L' := fun p => (p.1.1, .cells (xs ++ (Builtin.zeroCells z.cells m).toList ++ p.1.2.2).toArray e (0, 0)) :: L) (X' := fun _ => X) hg rfl rfl hi (fun a w hf hst => ?_) (fun p => h p.1.1 p.1.2.1 _ p.1.2.2 (by rw [Array.length_toList, size_zeroCells, hzs]) p.2)
 have ex := hf.eval hx
 have ey := hf.eval hy
 have hold : (Builtin.firstCells inf.size n (.slice (some ⟨r, off, none⟩) n cap)).run c.P w.drew = .ok xs.toArray w.drew :=
  run_firstCells_some (P := c.P) w.drew inf.size n ⟨r, off, none⟩ n cap xs hl (fun j u hj => Xc (hst.drew.known hk) hxs j u hj)
 have hmb : m * inf.bytes ≤ 281474976710656 := Nat.le_trans (Nat.mul_le_mul_right _ (Nat.le_add_left m n)) (by omega)
 have hr := Lib.run_append_grow_zeros (P := c.P) w t tn ty e inf z kk kn (Kc ht) htn hinf hz' (some ⟨r, off, none⟩) n cap xs hold m hm hsz hno (by omega) hmb (growslice_fits (by omega) h47)
 have hge := grownCap_ge w (n + m) cap e
 have e1 : (xs.toArray ++ Builtin.zeroCells z.cells m ++ Builtin.zeroCells z.cells (grownCap w (n + m) cap e - (n + m))) = (xs ++ (Builtin.zeroCells z.cells m).toList ++ (Builtin.zeroCells z.cells (grownCap w (n + m) cap e - (n + m))).toList).toArray := by
  apply Array.toList_inj.1; simp
 refine ⟨⟨(w.heap.size, grownCap w (n + m) cap e, (Builtin.zeroCells z.cells (grownCap w (n + m) cap e - (n + m))).toList), ?_⟩, w.drew.alloc (.cells (xs ++ (Builtin.zeroCells z.cells m).toList ++ (Builtin.zeroCells z.cells (grownCap w (n + m) cap e - (n + m))).toList).toArray e (0, 0)), ?_, hst.drew.alloc _⟩
 ·simp only
  rw [Array.length_toList, size_zeroCells, hzs, ← Nat.add_mul]
  congr 1; omega
 ·rw [e1] at hr
  simp [execOp, resolve, Sem.run_bind, ex, ey, Result.andThen, invoke, builtin, hr]
theorem Jfr {x y f : Operand} {e sz r1 r2 o1 o2 n1 c1 n2 c2 : Nat} {fn : Func} {g : FuncId} {at_ : Array TypeId} {cs1 cs2 : Array Value} {e1 e2 tR : TypeId}
  (hf : Kg l f = some (.func (.func g) #[] #[])) (hx : Kg l x = some (.slice (some ⟨r1, o1, none⟩) n1 c1)) (hy : Kg l y = some (.slice (some ⟨r2, o2, none⟩) n2 c2)) (hne : r1 ≠ r2) (hk1 : known c L r1 (.cells cs1 e1 (0, 0))) (hk2 : known c L r2 (.cells cs2 e2 (0, 0)))
  (ht : Kp c.P t = some e) (hs : KJ c.P e = some sz) (h0 : 0 < cs2.size) (hF : c.P.funcs[g]? = some fn) (hn1 : (fn.name == "runtime.NumGoroutine") = false) (hb : fn.body.isNone = true) (hn2 : Extern.findNext fn = none) (he : Extern.find fn = some (Extern.SlicesOverlaps.overlaps #[t, t] #[tR])) :
  J9 c d l L X ⟨some i, .call ⟨.value f, #[x, y], at_⟩, ty, ps, af, gd⟩ (.bool false) := fun a w hfr hst => by
 have ef := hfr.eval hf
 have ex := hfr.eval hx
 have ey := hfr.eval hy
 have h1 := hst.known hk1
 have h2 := hst.known hk2
 have hov := Lib.run_overlaps_apart (P := c.P) w t tR e (Kc ht) sz (fun w => QW hs w) ⟨r1, o1, none⟩ ⟨r2, o2, none⟩ n1 c1 n2 c2 hne e1 e2 cs1.size cs2.size (by simp [World.shape?, h1]) (by simp [World.shape?, h2]) (by omega) (by simp [World.frozen?, h1]) (by simp [World.frozen?, h1])
 have hcf : (callFunc g #[.slice (some ⟨r1, o1, none⟩) n1 c1, .slice (some ⟨r2, o2, none⟩) n2 c2]).run c.P w = .ok (.value (.bool false)) w := by
  rw [run_callFunc_extern hF hn1 hb hn2 he, hov]; rfl
 simp [execOp, resolve, Sem.run_bind, ef, ex, ey, Deferred.ofValue, Result.andThen, invoke, hcf]
end
section
variable {H : Type} {enc : TypeId × Value → H} {P : Program} {w : World} {base : Nat} {sp : Nat → Bool} {held : Bool}
theorem zn {a : Addr} {m : Nat} {cs : List Value} (h : w.cells? base a m = some cs) : cs.length = m ∧ ∀ i, i < m → w.cell? (a.add i) = cs[i]? := by
 unfold World.cells? at h
 split at h
 ·exact ⟨by simpa using mapM_some_length h, fun i hi => mapM_some_get h i i (by simp [hi])⟩
 ·cases h
theorem Jfs {a : Addr} {v : Value} (h : w.cell? a = some v) : a.spot = none ∧ ∃ all e fr, w.heap[a.block]? = some (.cells all e fr) ∧ all[a.off]? = some v := by
 unfold World.cell? at h
 split at h
 ·rename_i c e fr hc
  split at h
  ·cases h
  ·rename_i hs
   exact ⟨by simpa using hs, c, e, fr, hc, h⟩
 ·cases h
theorem Jft {b o m : Nat} {cs : List Value} {all : Array Value} {e : TypeId} {fr : Nat × Nat} (h : w.cells? base ⟨b, o, none⟩ m = some cs) (hb : w.heap[b]? = some (.cells all e fr)) : (all.toList.drop o).take m = cs := by
 obtain ⟨hl, hg⟩ := zn h
 apply List.ext_getElem?
 intro i
 rw [List.getElem?_take]
 split
 ·rename_i hi
  rw [← hg i hi, Xa, List.getElem?_drop, Array.getElem?_toList]
  simp only [World.cell?, hb]
  rfl
 ·rename_i hi
  rw [List.getElem?_eq_none (by omega)]
theorem Jcw {α : Type} {f : α → List Value} {m b : Nat} {all : Array Value} {e : TypeId} {fr : Nat × Nat} (hb : w.heap[b]? = some (.cells all e fr)) :
  ∀ (l : List α) (o : Nat), (∀ i x, l[i]? = some x → w.cells? base ⟨b, o + i * m, none⟩ m = some (f x)) → (all.toList.drop o).take (l.length * m) = l.flatMap f
 | [], o, _ => by simp
 | y :: l, o, h => by
  have h0 := Jft (h 0 y rfl) hb
  have hr := Jcw hb l (o + m) (fun i x hx => by
   have := h (i + 1) x hx
   rwa [Nat.succ_mul, Nat.add_comm (i * m) m, ← Nat.add_assoc] at this)
  rw [Nat.zero_mul, Nat.add_zero] at h0
  rw [List.length_cons, Nat.succ_mul, Nat.add_comm, List.take_add, h0, List.drop_drop, hr, List.flatMap_cons]
theorem xV {α : Type} {f : α → List Value} {m : Nat} (hm : 0 < m) (hf : ∀ x, (f x).length = m) {l : List α} {a : Addr} {cap : Nat} (hle : l.length ≤ cap) (h : ∀ i x, l[i]? = some x → w.cells? base (a.add (i * m)) m = some (f x)) :
  Seg (Jfe w) l.length (l.flatMap f) (some (a, cap)) := by
 refine ⟨hle, fun h0 => ?_⟩
 obtain ⟨y, hy⟩ : ∃ y, l[0]? = some y := ⟨_, List.getElem?_eq_getElem h0⟩
 have h1 := h 0 y hy
 rw [Nat.zero_mul] at h1
 have e0 : a.add 0 = a := by simp [Addr.add]
 rw [e0] at h1
 obtain ⟨hl, hg⟩ := zn h1
 have h2 := hg 0 hm
 rw [e0] at h2
 obtain ⟨v, hv⟩ : ∃ v, (f y)[0]? = some v := ⟨_, List.getElem?_eq_getElem (by omega)⟩
 rw [hv] at h2
 obtain ⟨hs, all, e, fr, hb, _⟩ := Jfs h2
 refine ⟨hs, all, e, fr, Jno hb, ?_⟩
 rw [Kt hf]
 refine Jcw (base := base) hb l a.off fun i x hx => ?_
 have := h i x hx
 have e1 : a.add (i * m) = ⟨a.block, a.off + i * m, none⟩ := by
  obtain ⟨b, o, s⟩ := a
  have : s = none := hs
  subst this
  exact Xa _ _ _
 rwa [e1] at this
theorem qI {α : Type} {Q : Nat → α → Prop} : ∀ (n : Nat), (∀ i, i < n → ∃ x, Q i x) → ∃ l : List α, l.length = n ∧ ∀ i x, l[i]? = some x → Q i x
 | 0, _ => ⟨[], rfl, fun i x h => by simp at h⟩
 | n + 1, h => by
  obtain ⟨l, hl, hq⟩ := qI n (fun i hi => h i (by omega))
  obtain ⟨x, hx⟩ := h n (by omega)
  refine ⟨l ++ [x], by simp [hl], fun i y hy => ?_⟩
  rw [List.getElem?_append] at hy
  split at hy
  ·exact hq i y hy
  ·rename_i hi
   have hn : i = n := by
    have := (List.getElem?_eq_some_iff.1 hy).1
    simp at this; omega
   subst hn
   rw [hl, Nat.sub_self] at hy
   obtain rfl : x = y := by simpa using hy
   exact hx
theorem YR {α : Type} {f : α → List Value} {ok : α → Prop} {m t e fuel : Nat} {cs : List Value} {x : DataW H × List MemPlace} (hm : 0 < m) (hf : ∀ x, (f x).length = m) (ht : P.underlying t = some (.slice e)) (hc : P.cellsOf e = m)
  (hE : ∀ n, n < fuel → ∀ cs x, DataW.trod enc P w base sp held n e cs = some x → ∃ y, cs = f y ∧ ok y)
  (h : DataW.trod enc P w base sp held fuel t cs = some x) : ∃ (l : List α) (p : Pl), cs = [KB l.length p] ∧ Seg (Jfe w) l.length (l.flatMap f) p ∧ l.length ≤ 9223372036854775807 ∧ ∀ y ∈ l, ok y := by
 rcases DataW.trod_slice ht h with ⟨rfl, _⟩ | ⟨a, len, cap, elems, rest, n, hn, rfl, _, _, hlc, hcm, hlen, hel, _⟩
 ·exact ⟨[], none, rfl, rfl, by simp, fun y hy => by simp at hy⟩
 ·have hex : ∀ i, i < len → ∃ y, w.cells? base (a.add (i * m)) m = some (f y) ∧ ok y := by
   intro i hi
   have h1 := hel i hi
   rw [hc] at h1
   obtain ⟨z, hz⟩ : ∃ z, elems[i]? = some z := ⟨_, List.getElem?_eq_getElem (by omega)⟩
   rw [hz, Option.bind_eq_some_iff] at h1
   obtain ⟨cs1, h2, h3⟩ := h1
   obtain ⟨y, rfl, hy⟩ := hE n (by omega) _ _ h3
   exact ⟨y, h2, hy⟩
  obtain ⟨l, rfl, hq⟩ := qI len hex
  have hcap : cap ≤ 9223372036854775807 := by simpa [maxLen] using hcm
  refine ⟨l, some (a, cap), rfl, xV hm hf hlc (fun i y hy => (hq i y hy).1), by omega, fun y hy => ?_⟩
  obtain ⟨i, hi, rfl⟩ := List.mem_iff_getElem.1 hy
  exact (hq i _ (List.getElem?_eq_getElem hi)).2
theorem Kl {t tf off m fuel i : Nat} {fs : Array Field} {cs : List Value} {x : DataW H × List MemPlace} (ht : P.underlying t = some (.struct fs)) (hi : (fs[i]?).map (fun f => (f.type, f.offset)) = some (tf, off)) (hm : P.cellsOf tf = m)
  (h : DataW.trod enc P w base sp held fuel t cs = some x) : ∃ n y, n < fuel ∧ DataW.trod enc P w base sp held n tf ((cs.drop off).take m) = some y := by
 obtain ⟨xs, n, rfl, _, _, hl, hg⟩ := DataW.trod_struct ht h
 obtain ⟨f, hf, he⟩ := Option.map_eq_some_iff.1 hi
 obtain ⟨rfl, rfl⟩ := Prod.mk.inj he
 have hi2 : i < xs.length := by rw [hl]; exact (Array.getElem?_eq_some_iff.1 hf).1
 subst hm
 exact ⟨n, xs[i], by omega, by rw [hg i f hf]; exact List.getElem?_eq_getElem hi2⟩
theorem Zm {t m fuel : Nat} {fs : Array Field} {cs : List Value} {x : DataW H × List MemPlace} (ht : P.underlying t = some (.struct fs)) (hm : P.cellsOf t = m) (h : DataW.trod enc P w base sp held fuel t cs = some x) : cs.length = m := by
 obtain ⟨xs, n, rfl, _, hl, _, _⟩ := DataW.trod_struct ht h
 rw [hl, hm]
theorem W0 {t fuel : Nat} {cs : List Value} {x : DataW H × List MemPlace} (ht : P.underlying t = some (.int .u64)) (h : DataW.trod enc P w base sp held fuel t cs = some x) : ∃ n : Nat, cs = [uV n] ∧ VV n := by
 obtain ⟨n, rfl, _, hw⟩ := DataW.trod_int ht h
 have := bounds_u64 hw
 exact ⟨n.toNat, by unfold uV; congr 2; omega, by unfold VV; omega⟩
theorem vx {t e fuel : Nat} {cs : List Value} {x : DataW H × List MemPlace} (ht : P.underlying t = some (.array 4 e)) (hc : P.cellsOf t = 4) (he : P.cellsOf e = 1) (hu : P.underlying e = some (.int .u64)) (h : DataW.trod enc P w base sp held fuel t cs = some x) :
  ∃ a b c d : Nat, cs = [uV a, uV b, uV c, uV d] ∧ VV a ∧ VV b ∧ VV c ∧ VV d := by
 cases fuel with
 | zero => simp [DataW.trod] at h
 | succ fuel =>
  obtain ⟨hl, xs, h1, _⟩ := (Jnk ht hc he).1 h
  obtain ⟨zs, rfl, _, hz⟩ := zg (V := uV) (D := fun n : Nat => .lit (.int .u64 (n : Int))) (ok := VV) (fun c x hx => by
   obtain ⟨n, h2, h3, h4⟩ := DataW.trod_int hu hx
   have h5 := bounds_u64 h4
   refine ⟨n.toNat, ?_, ?_, by unfold VV; omega⟩
   ·rw [List.singleton_inj.1 h2]; unfold uV; congr 1; omega
   ·rw [h3]; congr 3; omega) _ _ h1
  rw [List.length_map] at hl
  match zs, hl, hz with
  | [a, b, c, d], _, hz => exact ⟨a, b, c, d, rfl, hz a (by simp), hz b (by simp), hz c (by simp), hz d (by simp)⟩
theorem Jcx {t : Nat} {fs : Array Field} {r : Reach} {b0 : Nat} {v : Value} (ht : P.underlying t = some (.struct fs)) (h : Value.okWide P w r b0 t v) {cs : List Value} (hc : v.cells.toList = cs) : v = .agg cs.toArray := by
 obtain ⟨c1, rfl, _⟩ := okWide_struct ht h
 subst hc
 simp [Value.cells]
end
abbrev J1 (s : BS) : Value := .string (bs s)
structure W4.ok (w : W4) : Prop where
  a : VV w.a
  b : VV w.b
  c : VV w.c
  d : VV w.d
theorem W4.ok.wok {w : W4} (h : w.ok) : WOk w.l := ⟨rfl, fun x hx => by
 unfold W4.l at hx
 simp only [List.mem_cons, List.not_mem_nil, or_false] at hx
 rcases hx with rfl | rfl | rfl | rfl
 ·exact h.a
 ·exact h.b
 ·exact h.c
 ·exact h.d⟩
theorem QC : VV 0 := by unfold VV; decide
theorem w40_ok : w40.ok := ⟨QC, QC, QC, QC⟩
structure Rec : Type where
  number : Nat
  time : Nat
  base : W4
  blob : W4
  overhead : W4
  scalar : Nat
  extra : Nat
  operator : Nat
deriving DecidableEq
def rec0 : Rec := ⟨0, 0, w40, w40, w40, 0, 0, 0⟩
def Rec.nats (r : Rec) : List Nat := [r.number, r.time, r.base.a, r.base.b, r.base.c, r.base.d, r.blob.a, r.blob.b, r.blob.c, r.blob.d, r.overhead.a, r.overhead.b, r.overhead.c, r.overhead.d, r.scalar, r.extra, r.operator]
def Rec.cells (r : Rec) : List Value := r.nats.map uV
def Rec.val (r : Rec) : Value := .agg r.cells.toArray
theorem Rec.len (r : Rec) : r.cells.length = 17 := rfl
theorem Rec.one (r : Rec) : r.cells.all Q3 = true := rfl
structure Rec.ok (r : Rec) : Prop where
  number : VV r.number
  time : VV r.time
  base : r.base.ok
  blob : r.blob.ok
  overhead : r.overhead.ok
  scalar : VV r.scalar
  extra : VV r.extra
  operator : VV r.operator
theorem Jtk : rec0.ok := ⟨QC, QC, w40_ok, w40_ok, w40_ok, QC, QC, QC⟩
def Qk (x : BS × BS) : List Value := [J1 x.1, J1 x.2]
theorem JW (x : BS × BS) : (Qk x).length = 2 := rfl
theorem j5 (x : BS × BS) : (Qk x).all Q3 = true := rfl
def J1s (x : BS × BS) : Value := .agg (Qk x).toArray
def Jtl (l : List (BS × BS)) : List Value := l.flatMap Qk
abbrev YU : Nat := 9223372036854775807
structure AcL : Type where
  addr : BS
  nonce : Nat
  bal : W4
  code : BS
  slots : List (BS × BS)
  p : Pl
def AcL.cells (a : AcL) : List Value := [J1 a.addr, uV a.nonce, uV a.bal.a, uV a.bal.b, uV a.bal.c, uV a.bal.d, J1 a.code, KB a.slots.length a.p]
def AcL.val (a : AcL) : Value := .agg a.cells.toArray
def AcL.er (a : AcL) : AcE := ⟨a.addr, a.nonce, a.bal, a.code, a.slots⟩
theorem AcL.len (a : AcL) : a.cells.length = 8 := rfl
theorem AcL.one (a : AcL) : a.cells.all Q3 = true := rfl
structure AcL.In (R : Jm) (a : AcL) : Prop where
  addr : a.addr.length ≤ YU
  nonce : VV a.nonce
  bal : a.bal.ok
  code : a.code.length ≤ YU
  len : a.slots.length ≤ YU
  seg : Seg R a.slots.length (Jtl a.slots) a.p
  slots : ∀ x ∈ a.slots, x.1.length ≤ YU ∧ x.2.length ≤ YU
theorem AcL.In.mono {R R' : Jm} {a : AcL} (h : a.In R) (hs : ∀ q ∈ R, q ∈ R') : a.In R' := ⟨h.addr, h.nonce, h.bal, h.code, h.len, h.seg.mono hs, h.slots⟩
def ac0L : AcL := ⟨[], 0, w40, [], [], none⟩
theorem Jxp {R : Jm} : ac0L.In R := ⟨Nat.zero_le _, QC, w40_ok, Nat.zero_le _, Nat.zero_le _, rfl, by simp [ac0L]⟩
def KA (l : List AcL) : List Value := l.flatMap AcL.cells
structure StL : Type where
  accts : List AcL
  p : Pl
def StL.cells (s : StL) : List Value := [KB s.accts.length s.p]
def StL.val (s : StL) : Value := .agg s.cells.toArray
def StL.er (s : StL) : List AcE := s.accts.map AcL.er
theorem StL.er_len (s : StL) : s.er.length = s.accts.length := by simp [StL.er]
structure StL.In (R : Jm) (s : StL) : Prop where
  len : s.accts.length ≤ YU
  seg : Seg R s.accts.length (KA s.accts) s.p
  accts : ∀ a ∈ s.accts, a.In R
theorem StL.In.mono {R R' : Jm} {s : StL} (h : s.In R) (hs : ∀ q ∈ R, q ∈ R') : s.In R' := ⟨h.len, h.seg.mono hs, fun a ha => (h.accts a ha).mono hs⟩
def st0L : StL := ⟨[], none⟩
theorem qn {R : Jm} : st0L.In R := ⟨Nat.zero_le _, rfl, by simp [st0L]⟩
theorem Jcy {α : Type} {f : α → List Value} {m : Nat} (hf : ∀ x, (f x).length = m) {l : List α} {j k : Nat} {x : α} {v : Value} (h : l[j]? = some x) (hk : (f x)[k]? = some v) : (l.flatMap f)[j * m + k]? = some v := by
 have h1 := Wn hf h
 have hlt : k < m := by have := (List.getElem?_eq_some_iff.1 hk).1; rwa [hf] at this
 rw [← h1, List.getElem?_take, if_pos hlt, List.getElem?_drop] at hk
 exact hk
section
variable {c : Cx} {l : Kw} {L : Jm} {X : XP} {d : List Deferred} {i : Nat} {t : TypeId} {ps : String} {af : Array Edge} {gd : Option (Nat × Bool)} {ty : TypeId}
theorem JV {α : Type} {f : α → List Value} {m : Nat} (hf : ∀ x, (f x).length = m) {x : Operand} {p : Pl} {R : Jm} {xs : List α} {j : Nat} {y : α} (hR : ∀ q ∈ R, known c L q.1 q.2) (hx : Kg l x = some (.pointer (some ⟨plB p, WP p + j * m, none⟩))) (hs : Seg R xs.length (xs.flatMap f) p) (hy : xs[j]? = some y) (ht : VL c.P t = some true) (hm : KJ c.P t = some m) :
  J9 c d l L X ⟨some i, .load t x, ty, ps, af, gd⟩ (.agg (f y).toArray) :=
 qe hR hx hs (jv hy) ht hm (Wn hf hy) (hf y)
theorem KN {α : Type} {f : α → List Value} {m k : Nat} (hf : ∀ x, (f x).length = m) {x : Operand} {p : Pl} {R : Jm} {xs : List α} {j : Nat} {y : α} {v : Value} (hR : ∀ q ∈ R, known c L q.1 q.2) (hx : Kg l x = some (.pointer (some ⟨plB p, WP p + (j * m + k), none⟩))) (hs : Seg R xs.length (xs.flatMap f) p) (hy : xs[j]? = some y) (hv : (f y)[k]? = some v) (ht : VL c.P t = some false) :
  J9 c d l L X ⟨some i, .load t x, ty, ps, af, gd⟩ v :=
 vZ hR hx hs (jv hy) ht (Jcy hf hy hv)
end
section
variable {H : Type} {enc : TypeId × Value → H} {P : Program} {w : World} {base : Nat} {sp : Nat → Bool} {held : Bool}
theorem j6 {t fuel : Nat} {cs : List Value} {x : DataW H × List MemPlace} (ht : P.underlying t = some .string) (h : DataW.trod enc P w base sp held fuel t cs = some x) : ∃ s : BS, cs = [J1 s] ∧ s.length ≤ YU := by
 obtain ⟨s, rfl, _, hl⟩ := DataW.trod_string ht h
 exact ⟨s.data.toList, by unfold J1; rw [Jsy], by rw [Array.length_toList]; exact hl⟩
theorem Jtm {tT tS fuel : Nat} {fs : Array Field} (ht : P.underlying tT = some (.struct fs)) (hT : P.cellsOf tT = 2) (h0 : (fs[0]?).map (fun f => (f.type, f.offset)) = some (tS, 0)) (h1 : (fs[1]?).map (fun f => (f.type, f.offset)) = some (tS, 1)) (hS : P.underlying tS = some .string) (hSc : P.cellsOf tS = 1)
  {cs : List Value} {x : DataW H × List MemPlace} (h : DataW.trod enc P w base sp held fuel tT cs = some x) : ∃ y : BS × BS, cs = Qk y ∧ (y.1.length ≤ YU ∧ y.2.length ≤ YU) := by
 have hl := Zm ht hT h
 match cs, hl with
 | [a, b], _ =>
  obtain ⟨n0, y0, _, e0⟩ := Kl ht h0 hSc h
  obtain ⟨n1, y1, _, e1⟩ := Kl ht h1 hSc h
  obtain ⟨k, ek, hk⟩ := j6 hS e0
  obtain ⟨v, ev, hv⟩ := j6 hS e1
  obtain rfl : a = J1 k := by simpa using ek
  obtain rfl : b = J1 v := by simpa using ev
  exact ⟨(k, v), rfl, hk, hv⟩
theorem Jtn {tA tT tS tL tW tu tI fuel : Nat} {fs fa : Array Field} (ht : P.underlying tT = some (.struct fs)) (hT : P.cellsOf tT = 2) (h0 : (fs[0]?).map (fun f => (f.type, f.offset)) = some (tS, 0)) (h1 : (fs[1]?).map (fun f => (f.type, f.offset)) = some (tS, 1)) (hS : P.underlying tS = some .string) (hSc : P.cellsOf tS = 1)
  (ha : P.underlying tA = some (.struct fa)) (hA : P.cellsOf tA = 8) (a0 : (fa[0]?).map (fun f => (f.type, f.offset)) = some (tS, 0)) (a1 : (fa[1]?).map (fun f => (f.type, f.offset)) = some (tI, 1)) (a2 : (fa[2]?).map (fun f => (f.type, f.offset)) = some (tW, 2)) (a3 : (fa[3]?).map (fun f => (f.type, f.offset)) = some (tS, 6)) (a4 : (fa[4]?).map (fun f => (f.type, f.offset)) = some (tL, 7))
  (hI : P.underlying tI = some (.int .u64)) (hIc : P.cellsOf tI = 1) (hW : P.underlying tW = some (.array 4 tu)) (hWc : P.cellsOf tW = 4) (hu : P.underlying tu = some (.int .u64)) (huc : P.cellsOf tu = 1) (hL : P.underlying tL = some (.slice tT)) (hLc : P.cellsOf tL = 1)
  {cs : List Value} {x : DataW H × List MemPlace} (h : DataW.trod enc P w base sp held fuel tA cs = some x) : ∃ a : AcL, cs = a.cells ∧ a.In (Jfe w) := by
 have hl := Zm ha hA h
 match cs, hl with
 | [c0, c1, c2, c3, c4, c5, c6, c7], _ =>
  obtain ⟨n0, y0, _, e0⟩ := Kl ha a0 hSc h
  obtain ⟨n1, y1, _, e1⟩ := Kl ha a1 hIc h
  obtain ⟨n2, y2, _, e2⟩ := Kl ha a2 hWc h
  obtain ⟨n3, y3, _, e3⟩ := Kl ha a3 hSc h
  obtain ⟨n4, y4, _, e4⟩ := Kl ha a4 hLc h
  obtain ⟨s, es, hs⟩ := j6 hS e0
  obtain ⟨n, en, hn⟩ := W0 hI e1
  obtain ⟨w0, w1, w2, w3, ew, k0, k1, k2, k3⟩ := vx hW hWc huc hu e2
  obtain ⟨cd, ec, hc⟩ := j6 hS e3
  obtain ⟨l, p, ep, hsg, hlen, hok⟩ := YR (f := Qk) (ok := fun y => y.1.length ≤ YU ∧ y.2.length ≤ YU) (by decide) JW hL hT (fun m hm cs x hx => Jtm ht hT h0 h1 hS hSc hx) e4
  obtain rfl : c0 = J1 s := by simpa using es
  obtain rfl : c1 = uV n := by simpa using en
  obtain ⟨rfl, rfl, rfl, rfl⟩ : c2 = uV w0 ∧ c3 = uV w1 ∧ c4 = uV w2 ∧ c5 = uV w3 := by simpa using ew
  obtain rfl : c6 = J1 cd := by simpa using ec
  obtain rfl : c7 = KB l.length p := by simpa using ep
  exact ⟨⟨s, n, ⟨w0, w1, w2, w3⟩, cd, l, p⟩, rfl, ⟨hs, hn, ⟨k0, k1, k2, k3⟩, hc, hlen, hsg, hok⟩⟩
end
theorem Jxq {l : List Nat} (hl : WOk l) : Jta (Yq l 32) = l := by
 have : Jta (Yq l 32) = stW (dg l) 32 := Jkp fun i hi => by
  have h := xD l (n := 32) (m := 31 - i) (by omega)
  have e : 32 - 1 - (31 - i) = i := by omega
  rw [e] at h
  rw [List.getD_eq_getElem?_getD, h, Option.getD_some, UInt8.toNat_ofNat', Nat.mod_eq_of_lt (Jhj l i)]
 rw [this, Jzy hl]
def bW (w : W4) : BS := Yq w.l 32
def uW (s : BS) : W4 := W4.of (Jnf s).1
theorem Jn0 (s : BS) : WOk (Jnf s).1 := by
 unfold Jnf; split
 ·exact Jtb _
 ·exact Jzz
theorem J1t (s : BS) : (uW s).l = (Jnf s).1 := W4.of_l (Jn0 s).1
theorem Jxr {w : W4} (h : w.ok) : uW (bW w) = w := by
 apply W4.l_inj
 rw [J1t]
 unfold Jnf bW
 rw [if_pos (Vq _ _)]
 exact Jxq h.wok
theorem Jxs {x y : W4} (hx : x.ok) (hy : y.ok) (h : bW x = bW y) : x = y := by rw [← Jxr hx, h, Jxr hy]
theorem Jxt : Qc = bW w40 := by decide +kernel
def wN1 (n : Nat) : W4 := ⟨n, 0, 0, 0⟩
theorem xW {n : Nat} (h : VV n) : (wN1 n).ok := ⟨h, QC, QC, QC⟩
def Wg (n : Nat) : BS := bW (wN1 n)
theorem Jn1 {n m : Nat} (hn : VV n) (hm : VV m) (h : Wg n = Wg m) : n = m := by
 have := Jxs (xW hn) (xW hm) h
 simpa [wN1] using this
def VN : Nat → Nat
 | 0 => 0
 | 1 => 1
 | 2 => 5
 | 3 => 6
 | 4 => 3
 | 5 => 7
 | _ => 8
def YE (f : Int) : Nat → Bool
 | 0 => true
 | 1 => true
 | 2 => decide (f ≤ 2)
 | 3 => decide (f ≤ 2)
 | 4 => decide (f ≥ 3)
 | 5 => decide (f ≥ 3)
 | _ => decide (f = 5)
def Xm (r : Rec) : Nat → W4
 | 0 => ⟨r.number, r.time, 0, 0⟩
 | 1 => r.base
 | 2 => r.overhead
 | 3 => ⟨r.scalar, 0, 0, 0⟩
 | 4 => ⟨r.scalar, r.extra, 0, 0⟩
 | 5 => r.blob
 | _ => ⟨r.operator, 0, 0, 0⟩
def wh (r : Rec) (w : W4) : Nat → Rec
 | 0 => { r with number := w.a, time := w.b }
 | 1 => { r with base := w }
 | 2 => { r with overhead := w }
 | 3 => { r with scalar := w.a }
 | 4 => { r with scalar := w.a, extra := w.b }
 | 5 => { r with blob := w }
 | _ => { r with operator := w.a }
theorem Jcz {r : Rec} (h : r.ok) (i : Nat) : (Xm r i).ok := by
 unfold Xm
 split
 ·exact ⟨h.number, h.time, QC, QC⟩
 ·exact h.base
 ·exact h.overhead
 ·exact ⟨h.scalar, QC, QC, QC⟩
 ·exact ⟨h.scalar, h.extra, QC, QC⟩
 ·exact h.blob
 ·exact ⟨h.operator, QC, QC, QC⟩
def Yc (f : Int) (g : Nat → W4) : List Nat → Rec → Rec
 | [], out => out
 | i :: l, out => Yc f g l (if YE f i then wh out (g i) i else out)
def tab : List Nat := [0, 1, 2, 3, 4, 5, 6]
def qJ (f : Int) (r : Rec) : Rec := Yc f (Xm r) tab rec0
def Jht (f : Int) (a : AcE) : Rec := Yc f (fun i => uW (QR a (Wg (VN i)))) tab rec0
def Qf (f : Int) : Prop := 0 ≤ f ∧ f ≤ 5
instance (f : Int) : Decidable (Qf f) := inferInstanceAs (Decidable (_ ∧ _))
theorem Yu {f : Int} (h : Qf f) : f = 0 ∨ f = 1 ∨ f = 2 ∨ f = 3 ∨ f = 4 ∨ f = 5 := by unfold Qf at h; omega
def j7 (f : Int) (r : Rec) : Bool := !((decide (f ≥ 3) && decide (r.overhead ≠ w40)) || (decide (f < 3) && (decide (r.extra ≠ 0) || decide (r.blob ≠ w40))) || (decide (f < 5) && decide (r.operator ≠ 0)))
def V6 (f : Int) (r : Rec) : Int := if ¬ Qf f then 10 else if j7 f r then 0 else 2
theorem wi {f : Int} {r : Rec} (h : Qf f) : qJ f r = r ↔ j7 f r = true := by
 obtain ⟨n, t, b, l, o, s, e, p⟩ := r
 rcases Yu h with rfl | rfl | rfl | rfl | rfl | rfl <;>
  (simp [qJ, Yc, tab, YE, wh, Xm, j7, rec0]; try (constructor <;> (intro h; simp_all <;> omega)))
def Qx (which : Int) : BS := if which < 0 ∨ which > 1 then [] else 66 :: (List.replicate 18 0 ++ [UInt8.ofNat (1 + which).toNat])
def cOne : BS := [111, 110, 101]
def Jz3 : BS := [116, 119, 111]
def Jn2 : BS := [116, 104, 114, 101, 101]
def Jwr : BS := [102, 105, 118, 101]
def Jz4 : BS := [102, 101, 101]
def KG (f which : Int) : BS × Bool := if which = 1 then (if f ≥ 2 then (Jz4, true) else ([], false)) else if f = 0 then (cOne, true) else if f ≤ 2 then (Jz3, true) else if f ≤ 4 then (Jn2, true) else (Jwr, true)
def A0 : BS := Qx 0
def A1 : BS := Qx 1
theorem A01 : A0 ≠ A1 := by decide +kernel
theorem Jz5 (f : Int) : (KG f 0).2 = true := by unfold KG; rw [if_neg (by decide)]; (repeat' split) <;> rfl
theorem Jc0 (f which : Int) : (KG f which).1.length ≤ 512 := by unfold KG; (repeat' split) <;> decide
theorem qK {l : List (BS × BS)} {k v : BS} (h : Ks Prod.fst l) : Ks Prod.fst (Ko l k v) := by
 unfold Ko; split
 ·exact Jfp h
 ·exact ZL h
theorem Jky {l : List (BS × BS)} {k v j : BS} (h : Ks Prod.fst l) : V5 Prod.fst j (Ko l k v) = if k = j then (if v = Qc then none else some (k, v)) else V5 Prod.fst j l := by
 unfold Ko
 by_cases hv : v = Qc
 ·rw [if_pos hv, if_pos hv, Jct]
 ·rw [if_neg hv, if_neg hv, wf h]
theorem wj {l : List (BS × BS)} {k v : BS} {x : BS × BS} (h : x ∈ Ko l k v) : (x = (k, v) ∧ v ≠ Qc) ∨ x ∈ l := by
 unfold Ko at h
 split at h
 ·exact .inr (Jti h)
 ·rename_i hv; exact (j4 h).imp (fun h => ⟨h, hv⟩) id
theorem Jn3 {a : AcE} {k v : BS} (h : (Vz a k v).2 = 0) : VM a = 0 ∧ k.length = 32 ∧ v.length = 32 ∧ (Ko a.slots k v).length ≤ 16 ∧ Vz a k v = ({ a with slots := Ko a.slots k v }, 0) := by
 unfold Vz at h ⊢
 split at h
 ·rename_i h1; exact absurd h h1
 rename_i h1
 split at h
 ·cases h
 rename_i h2
 split at h
 ·cases h
 rename_i h3
 rw [if_neg h1, if_neg h2, if_neg h3]
 exact ⟨Decidable.not_not.1 h1, by omega, by omega, by omega, rfl⟩
theorem Jxu {a : AcE} {k v : BS} (h1 : VM a = 0) (h2 : k.length = 32) (h3 : v.length = 32) (h4 : (Ko a.slots k v).length ≤ 16) : Vz a k v = ({ a with slots := Ko a.slots k v }, 0) := by
 unfold Vz
 rw [if_neg (by omega), if_neg (by omega), if_neg (by omega)]
theorem Jhu {a : AcE} {k v : BS} (h1 : VM a = 0) (h2 : k.length = 32) (h3 : v.length = 32) (h4 : (Ko a.slots k v).length ≤ 16) : VM { a with slots := Ko a.slots k v } = 0 := by
 obtain ⟨g1, g2, g3, g4, g5⟩ := QH h1
 refine xU g1 (fun x hx => ?_) (qK g3) g4 h4
 rcases wj hx with ⟨rfl, hv⟩ | hx
 ·exact ⟨h2, h3, hv⟩
 ·exact g2 x hx
theorem qo {a : AcE} {k v j : BS} (h : Ks Prod.fst a.slots) : QR { a with slots := Ko a.slots k v } j = if k = j then v else QR a j := by
 unfold QR
 simp only
 rw [Jky h]
 by_cases hk : k = j
 ·rw [if_pos hk, if_pos hk]
  by_cases hv : v = Qc
  ·rw [if_pos hv]; exact hv.symm
  ·rw [if_neg hv]
 ·rw [if_neg hk, if_neg hk]
def Qg : AcE → List (BS × BS) → AcE × Int
 | a, [] => (a, 0)
 | a, x :: l => if (Vz a x.1 x.2).2 ≠ 0 then Vz a x.1 x.2 else Qg (Vz a x.1 x.2).1 l
structure RowsOk (a b : AcE) (l : List (BS × BS)) : Prop where
  lk : VM b = 0
  addr : b.addr = a.addr
  nonce : b.nonce = a.nonce
  bal : b.bal = a.bal
  code : b.code = a.code
  at_ : ∀ x ∈ l, QR b x.1 = x.2
  off : ∀ k, (∀ x ∈ l, x.1 ≠ k) → QR b k = QR a k
theorem Jhv : ∀ {l : List (BS × BS)} {a : AcE}, (Qg a l).2 = 0 → VM a = 0 → (l.Pairwise fun x y => x.1 ≠ y.1) → RowsOk a (Qg a l).1 l
 | [], a, _, h, _ => ⟨h, rfl, rfl, rfl, rfl, by simp, fun _ _ => rfl⟩
 | x :: l, a, h, hl, hd => by
  unfold Qg at h ⊢
  split at h
  ·rename_i h1; exact absurd h h1
  rename_i h1
  rw [if_neg h1]
  obtain ⟨g1, g2, g3, g4, g5⟩ := Jn3 (Decidable.not_not.1 h1)
  rw [g5] at h ⊢
  obtain ⟨d1, d2⟩ := List.pairwise_cons.1 hd
  have hs := (QH hl).2.2.1
  obtain ⟨i1, i2, i3, i4, i5, i6, i7⟩ := Jhv h (Jhu g1 g2 g3 g4) d2
  refine ⟨i1, i2, i3, i4, i5, fun y hy => ?_, fun k hk => ?_⟩
  ·rcases List.mem_cons.1 hy with rfl | hy
   ·rw [i7 _ fun z hz => (d1 z hz).symm, qo hs, if_pos rfl]
   ·exact i6 y hy
  ·rw [i7 _ fun z hz => hk z (List.mem_cons_of_mem _ hz), qo hs, if_neg (hk x List.mem_cons_self)]
theorem Jn4 {a : AcE} (h : VM a = 0) {x : BS × BS} (hx : x ∈ a.slots) : QR a x.1 = x.2 ∧ x.2 ≠ Qc := by
 obtain ⟨_, g2, g3, _⟩ := QH h
 unfold QR
 rw [qk g3 hx]
 exact ⟨rfl, (g2 x hx).2.2⟩
theorem Jn5 {a : AcE} {k : BS} (h : QR a k ≠ Qc) : (k, QR a k) ∈ a.slots := by
 unfold QR at h ⊢
 cases hl : V5 Prod.fst k a.slots with
 | none => rw [hl] at h; exact absurd rfl h
 | some x =>
  obtain ⟨h1, h2⟩ := qj hl
  simp only
  rw [← h1]; exact h2
theorem xX {α : Type} {kf : α → BS} : ∀ {m l : List α}, Ks kf m → Ks kf l → (∀ y ∈ l, y ∈ m) → l.length ≤ m.length
 | [], [], _, _, _ => Nat.le_refl _
 | [], y :: l, _, _, h => absurd (h y List.mem_cons_self) (by simp)
 | z :: m, [], _, _, _ => Nat.zero_le _
 | z :: m, y :: l, hm, hl, h => by
  obtain ⟨m1, m2⟩ := List.pairwise_cons.1 hm
  obtain ⟨l1, l2⟩ := List.pairwise_cons.1 hl
  rcases List.mem_cons.1 (h y List.mem_cons_self) with e | hy
  ·rw [e] at l1
   have := xX (m := m) (l := l) m2 l2 fun x hx => by
    rcases List.mem_cons.1 (h x (List.mem_cons_of_mem _ hx)) with rfl | hx2
    ·have := l1 _ hx; rw [Vy] at this; cases this
    ·exact hx2
   simp only [List.length_cons]; omega
  ·have := xX (m := m) (l := y :: l) m2 hl fun x hx => by
    rcases List.mem_cons.1 (h x hx) with rfl | hx2
    ·have a1 := m1 y hy
     rcases List.mem_cons.1 hx with rfl | hx3
     ·rw [Vy] at a1; cases a1
     ·have := QA a1 (l1 _ hx3); rw [Vy] at this; cases this
    ·exact hx2
   simp only [List.length_cons] at this ⊢; omega
theorem fill {a : AcE} (ha : VM a = 0) : ∀ (l : List (BS × BS)) (x : AcE), VM x = 0 → (∀ k, QR x k = QR a k ∨ QR x k = Qc) → (∀ p ∈ l, p.1.length = 32 ∧ p.2.length = 32 ∧ (p.2 = QR a p.1 ∨ p.2 = Qc)) → (Qg x l).2 = 0
 | [], _, _, _, _ => rfl
 | p :: l, x, hx, hs, hp => by
  obtain ⟨p1, p2, p3⟩ := hp p List.mem_cons_self
  have hsx := (QH hx).2.2.1
  have hlen : (Ko x.slots p.1 p.2).length ≤ 16 := by
   refine Nat.le_trans (xX (kf := Prod.fst) (QH ha).2.2.1 (qK hsx) fun y hy => ?_) (QH ha).2.2.2.2
   have hne : y.2 ≠ Qc ∧ y.2 = QR a y.1 := by
    rcases wj hy with ⟨rfl, hv⟩ | hy
    ·exact ⟨hv, p3.resolve_right hv⟩
    ·obtain ⟨e1, e2⟩ := Jn4 hx hy
     refine ⟨e2, ?_⟩
     rcases hs y.1 with h | h
     ·rw [← e1, h]
     ·rw [← e1] at e2; exact absurd h e2
   have h3 := Jn5 (a := a) (k := y.1) (by rw [← hne.2]; exact hne.1)
   rw [← hne.2] at h3
   exact h3
  unfold Qg
  rw [Jxu hx p1 p2 hlen, if_neg (by simp)]
  refine fill ha l _ (Jhu hx p1 p2 hlen) (fun k => ?_) fun q hq => hp q (List.mem_cons_of_mem _ hq)
  rw [qo hsx]
  split
  ·rename_i e; subst e; exact p3
  ·exact hs k
theorem j8 {s : List AcE} (hs : KC s = 0) {k : BS} {a : AcE} (h : KP s k = some a) : a.addr = k ∧ VM a = 0 := by
 obtain ⟨h1, h2⟩ := qj h
 exact ⟨h1, (Xl.1 hs).2.1 a h2⟩
theorem Jn6 {s : List AcE} {a : AcE} (h : (YO s a).2 = 0) : KC s = 0 ∧ VM a = 0 ∧ YO s a = (KQ AcE.addr a s, 0) ∧ KC (KQ AcE.addr a s) = 0 ∧ ∀ k, KP (KQ AcE.addr a s) k = if a.addr = k then some a else KP s k := by
 unfold YO at h ⊢
 split at h
 ·rename_i h1; exact absurd h h1
 rename_i h1
 split at h
 ·rename_i h2; exact absurd h h2
 rename_i h2
 split at h
 ·cases h
 rename_i h3
 rw [if_neg h1, if_neg h2, if_neg h3]
 have h1 := Decidable.not_not.1 h1
 have h2 := Decidable.not_not.1 h2
 obtain ⟨c1, c2, c3⟩ := Xl.1 h1
 refine ⟨h1, h2, rfl, Xl.2 ⟨by omega, fun x hx => ?_, ZL c3⟩, fun k => wf c3⟩
 rcases j4 hx with rfl | hx
 ·exact h2
 ·exact c2 x hx
def X0 (f : Int) (r : Rec) (i : Nat) : BS × BS := (Wg (VN i), if YE f i then bW (Xm r i) else Qc)
def qL (f : Int) (r : Rec) : List (BS × BS) := tab.map (X0 f r)
def xY (k : BS) : Prop := ∃ i ∈ tab, Wg (VN i) = k
def QY (f which : Int) (a : AcE) (r : Rec) : AcE × Int := if which = 1 then ({ a with code := (KG f 1).1 }, 0) else Qg { a with code := (KG f which).1 } (qL f r)
def QO (t : List AcE) (which : Int) : AcE := { (KP t (Qx which)).getD ac0 with addr := Qx which }
def Vt (f : Int) (s0 : List AcE) (go : Int → AcE → AcE × Int) : List Int → List AcE → List AcE × Int
  | [], t => (t, 0)
  | w :: ws, t => if (KG f w).2 = false then Vt f s0 go ws t else
      if (go w (QO t w)).2 ≠ 0 then (s0, (go w (QO t w)).2) else if (YO t (go w (QO t w)).1).2 ≠ 0 then (s0, (YO t (go w (QO t w)).1).2) else Vt f s0 go ws (YO t (go w (QO t w)).1).1
def Yv (f : Int) (s : List AcE) (go : Int → AcE → AcE × Int) : List AcE × Int := Vt f s go [0, 1] s
def Q5 (f : Int) (s : List AcE) (r : Rec) : List AcE × Int := if V6 f r ≠ 0 then (s, V6 f r) else if KC s ≠ 0 then (s, KC s) else Yv f s fun w a => QY f w a r
theorem wk (i : Nat) : VV (VN i) := by unfold VV VN; (repeat' split) <;> omega
theorem Jto (f : Int) (r : Rec) : (qL f r).Pairwise fun x y => x.1 ≠ y.1 := by
 unfold qL
 rw [List.pairwise_map]
 have : tab.Pairwise (fun i j => VN i ≠ VN j) := by decide
 refine this.imp fun h e => h (Jn1 (wk _) (wk _) e)
theorem Jkz {f : Int} {r : Rec} {k : BS} (h : ¬ xY k) : ∀ x ∈ qL f r, x.1 ≠ k := fun x hx e => by
 obtain ⟨i, hi, rfl⟩ := List.mem_map.1 hx
 exact h ⟨i, hi, e⟩
theorem Jxv {s : List AcE} (hs : KC s = 0) {w : Int} (hw : (Qx w).length = 20) {c : BS} (hc : c.length ≤ 512) : VM { QO s w with code := c } = 0 := by
 unfold QO
 cases h : KP s (Qx w) with
 | none => exact xU hw (by simp [ac0]) (by simp [ac0]) hc (by simp [ac0])
 | some a =>
  obtain ⟨g1, g2, g3, g4, g5⟩ := QH (j8 hs h).2
  exact xU hw g2 g3 hc g5
theorem Jn7 {s : List AcE} (hs : KC s = 0) {w : Int} {a : AcE} (h : KP s (Qx w) = some a) : QO s w = a := by
 unfold QO
 rw [h]
 obtain ⟨h1, _⟩ := j8 hs h
 cases a
 simp only at h1
 simp [h1]
theorem Jk0 {s t : List AcE} (h : KP s A1 = KP t A1) : QO s 1 = QO t 1 := by unfold QO; rw [show Qx 1 = A1 from rfl, h]
theorem Jk1 {f : Int} {s t : List AcE} {go : Int → AcE → AcE × Int} (h : Yv f s go = (t, 0)) (hs : KC s = 0) (h0 : (KG f 0).2 = true) (ha : ∀ w a, (go w a).2 = 0 → (go w a).1.addr = a.addr) :
  ∃ b0, go 0 (QO s 0) = (b0, 0) ∧ KC t = 0 ∧ KP t A0 = some b0 ∧ (∀ k, k ≠ A0 → k ≠ A1 → KP t k = KP s k) ∧
   (if (KG f 1).2 = true then ∃ b1, go 1 (QO s 1) = (b1, 0) ∧ KP t A1 = some b1 else KP t A1 = KP s A1) := by
 unfold Yv Vt at h
 rw [if_neg (by rw [h0]; simp)] at h
 split at h
 ·rename_i h1; exact absurd (Prod.mk.inj h).2 h1
 rename_i h1
 split at h
 ·rename_i h2; exact absurd (Prod.mk.inj h).2 h2
 rename_i h2
 have h1 := Decidable.not_not.1 h1
 obtain ⟨p1, p2, p3, p4, p5⟩ := Jn6 (Decidable.not_not.1 h2)
 rw [p3] at h
 have e0 := ha 0 (QO s 0) h1
 have e0' : (go 0 (QO s 0)).1.addr = A0 := e0
 rw [e0'] at p5
 have hold1 : QO (KQ AcE.addr (go 0 (QO s 0)).1 s) 1 = QO s 1 := by
  exact Jk0 (by rw [p5, if_neg A01])
 refine ⟨(go 0 (QO s 0)).1, Prod.ext rfl h1, ?_⟩
 unfold Vt at h
 split at h
 ·rename_i h3
  unfold Vt at h
  obtain ⟨rfl, _⟩ := Prod.mk.inj h
  refine ⟨p4, by rw [p5, if_pos rfl], fun k k0 k1 => by rw [p5, if_neg (Ne.symm k0)], ?_⟩
  rw [if_neg (by rw [h3]; simp), p5, if_neg A01]
 ·rename_i h3
  rw [hold1] at h
  split at h
  ·rename_i h4; exact absurd (Prod.mk.inj h).2 h4
  rename_i h4
  split at h
  ·rename_i h5; exact absurd (Prod.mk.inj h).2 h5
  rename_i h5
  have h4 := Decidable.not_not.1 h4
  obtain ⟨q1, q2, q3, q4, q5⟩ := Jn6 (Decidable.not_not.1 h5)
  rw [q3] at h
  unfold Vt at h
  obtain ⟨rfl, _⟩ := Prod.mk.inj h
  have e1' : (go 1 (QO s 1)).1.addr = A1 := ha 1 (QO s 1) h4
  rw [e1'] at q5
  refine ⟨q4, by rw [q5, if_neg (Ne.symm A01), p5, if_pos rfl], fun k k0 k1 => by rw [q5, if_neg (Ne.symm k1), p5, if_neg (Ne.symm k0)], ?_⟩
  rw [if_pos (by simpa using h3)]
  exact ⟨_, Prod.ext rfl h4, by rw [q5, if_pos rfl]⟩
theorem zo : ∀ (l : List (BS × BS)) (a : AcE), (Qg a l).1.addr = a.addr
 | [], _ => rfl
 | x :: l, a => by
  unfold Qg
  have e : (Vz a x.1 x.2).1.addr = a.addr := by unfold Vz; (repeat' split) <;> rfl
  split
  ·exact e
  ·rw [zo l, e]
theorem Jfu {f : Int} {r : Rec} (w : Int) (a : AcE) : (QY f w a r).1.addr = a.addr := by
 unfold QY; split
 ·rfl
 ·rw [zo]
theorem Jhw {f : Int} {r : Rec} (h : V6 f r = 0) : Qf f ∧ j7 f r = true := by
 unfold V6 at h
 split at h
 ·cases h
 ·rename_i h1
  split at h
  ·rename_i h2; exact ⟨Decidable.not_not.1 h1, h2⟩
  ·cases h
structure Wrote (f : Int) (s t : List AcE) (r : Rec) : Prop where
  forked : Qf f
  fits : j7 f r = true
  old : KC s = 0
  new : KC t = 0
  acct : ∃ b0, KP t A0 = some b0 ∧ VM b0 = 0 ∧ b0.addr = A0 ∧ b0.nonce = (QO s 0).nonce ∧ b0.bal = (QO s 0).bal ∧ b0.code = (KG f 0).1 ∧ (∀ i ∈ tab, QR b0 (Wg (VN i)) = (X0 f r i).2) ∧ ∀ k, ¬ xY k → QR b0 k = QR (QO s 0) k
  others : ∀ k, k ≠ A0 → k ≠ A1 → KP t k = KP s k
  fee : if (KG f 1).2 = true then KP t A1 = some { QO s 1 with code := (KG f 1).1 } else KP t A1 = KP s A1
theorem Jws {f : Int} {s t : List AcE} {r : Rec} (h : Q5 f s r = (t, 0)) : Wrote f s t r := by
 unfold Q5 at h
 split at h
 ·rename_i h1; exact absurd (Prod.mk.inj h).2 h1
 rename_i h1
 split at h
 ·rename_i h2; exact absurd (Prod.mk.inj h).2 h2
 rename_i h2
 have h2 := Decidable.not_not.1 h2
 obtain ⟨g1, g2⟩ := Jhw (Decidable.not_not.1 h1)
 obtain ⟨b0, c1, c2, c3, c4, c5⟩ := Jk1 h h2 (Jz5 f) fun w a _ => Jfu w a
 refine ⟨g1, g2, h2, c2, ⟨b0, c3, ?_⟩, c4, ?_⟩
 ·unfold QY at c1
  rw [if_neg (by decide)] at c1
  have hl := Jxv h2 (w := 0) rfl (Jc0 f 0)
  have hr := Jhv (l := qL f r) (a := { QO s 0 with code := (KG f 0).1 }) (by rw [c1]) hl (Jto f r)
  rw [c1] at hr
  obtain ⟨r1, r2, r3, r4, r5, r6, r7⟩ := hr
  exact ⟨r1, r2, r3, r4, r5, fun i hi => r6 (X0 f r i) (List.mem_map.2 ⟨i, hi, rfl⟩), fun k hk => r7 k (Jkz hk)⟩
 ·split
  ·rename_i hf
   rw [if_pos hf] at c5
   obtain ⟨b1, e1, e2⟩ := c5
   unfold QY at e1
   rw [if_pos rfl] at e1
   rw [e2, ← (Prod.mk.inj e1).1]
  ·rename_i hf
   rw [if_neg hf] at c5
   exact c5
def Vx (s : List AcE) (k : BS) : AcE := (KP s k).getD ac0
theorem wl {f : Int} {g g' : Nat → W4} : ∀ {l : List Nat} {out : Rec}, (∀ i ∈ l, YE f i = true → g i = g' i) → Yc f g l out = Yc f g' l out
 | [], _, _ => rfl
 | i :: l, out, h => by
  unfold Yc
  have e : (if YE f i then wh out (g i) i else out) = if YE f i then wh out (g' i) i else out := by
   by_cases hi : YE f i = true
   ·rw [if_pos hi, if_pos hi, h i List.mem_cons_self hi]
   ·rw [if_neg hi, if_neg hi]
  rw [e]
  exact wl fun j hj => h j (List.mem_cons_of_mem _ hj)
theorem Jk2 {f : Int} {a : AcE} {r : Rec} (hf : Qf f) (hr : r.ok) (hb : j7 f r = true) (h : ∀ i ∈ tab, QR a (Wg (VN i)) = (X0 f r i).2) : Jht f a = r := by
 have e : Jht f a = qJ f r := wl fun i hi hh => by
  rw [h i hi]
  unfold X0
  simp only
  rw [if_pos hh]
  exact Jxr (Jcz hr i)
 rw [e]
 exact (wi hf).2 hb
structure Checked (f : Int) (s : List AcE) (a : AcE) : Prop where
  forked : Qf f
  st : KC s = 0
  at0 : KP s A0 = some a
  code : a.code = (KG f 0).1
  rows : ∀ i ∈ tab, QR a (Wg (VN i)) = (X0 f (Jht f a) i).2
  fee : (KG f 1).2 = true → ∃ b, KP s A1 = some b ∧ b.code = (KG f 1).1
theorem Wrote.checked {f : Int} {s t : List AcE} {r : Rec} (h : Wrote f s t r) (hr : r.ok) : ∃ a, Checked f t a ∧ Jht f a = r := by
 obtain ⟨h1, h2, h3, h4, ⟨b0, c1, c2, c3, c4, c5, c6, c7, c8⟩, h6, h7⟩ := h
 have e := Jk2 h1 hr h2 c7
 refine ⟨b0, ⟨h1, h4, c1, c6, by rw [e]; exact c7, fun hf => ?_⟩, e⟩
 rw [if_pos hf] at h7
 exact ⟨_, h7, rfl⟩
theorem Checked.lk {f : Int} {s : List AcE} {a : AcE} (h : Checked f s a) : VM a = 0 := (j8 h.st h.at0).2
theorem Checked.addr {f : Int} {s : List AcE} {a : AcE} (h : Checked f s a) : a.addr = A0 := (j8 h.st h.at0).1
theorem Checked.old {f : Int} {s : List AcE} {a : AcE} (h : Checked f s a) : QO s 0 = a := Jn7 h.st h.at0
structure Kept (s t : List AcE) : Prop where
  others : ∀ k, k ≠ A0 → k ≠ A1 → KP t k = KP s k
  there : ∀ k, (KP s k).isSome = true → (KP t k).isSome = true
  nonce : ∀ k, (Vx t k).nonce = (Vx s k).nonce
  bal : ∀ k, (Vx t k).bal = (Vx s k).bal
  slot : ∀ k j, (k = A0 → ¬ xY j) → QR (Vx t k) j = QR (Vx s k) j
theorem Kept.refl (s : List AcE) : Kept s s := ⟨fun _ _ _ => rfl, fun _ h => h, fun _ => rfl, fun _ => rfl, fun _ _ _ => rfl⟩
theorem Kept.trans {s t u : List AcE} (h : Kept s t) (k : Kept t u) : Kept s u :=
 ⟨fun x a b => (k.others x a b).trans (h.others x a b), fun x hx => k.there x (h.there x hx), fun x => (k.nonce x).trans (h.nonce x), fun x => (k.bal x).trans (h.bal x), fun x j hj => (k.slot x j hj).trans (h.slot x j hj)⟩
theorem Wrote.kept {f : Int} {s t : List AcE} {r : Rec} (W : Wrote f s t r) : Kept s t := by
 obtain ⟨b, b1, b2, b3, b4, b5, b6, b7, b8⟩ := W.acct
 have hf := W.fee
 have a0 : Vx t A0 = b := by unfold Vx; rw [b1]; rfl
 have hcase : ∀ k, k ≠ A0 → KP t k = KP s k ∨ (k = A1 ∧ KP t A1 = some { QO s 1 with code := (KG f 1).1 }) := fun k k0 => by
  by_cases k1 : k = A1
  ·subst k1
   split at hf
   ·exact .inr ⟨rfl, hf⟩
   ·exact .inl hf
  ·exact .inl (W.others k k0 k1)
 refine ⟨W.others, fun k h => ?_, fun k => ?_, fun k => ?_, fun k j hj => ?_⟩
 ·by_cases k0 : k = A0
  ·subst k0; rw [b1]; rfl
  ·rcases hcase k k0 with e | ⟨rfl, e⟩
   ·rw [e]; exact h
   ·rw [e]; rfl
 ·by_cases k0 : k = A0
  ·subst k0; rw [a0, b4]; rfl
  ·rcases hcase k k0 with e | ⟨rfl, e⟩
   ·unfold Vx; rw [e]
   ·unfold Vx; rw [e]; rfl
 ·by_cases k0 : k = A0
  ·subst k0; rw [a0, b5]; rfl
  ·rcases hcase k k0 with e | ⟨rfl, e⟩
   ·unfold Vx; rw [e]
   ·unfold Vx; rw [e]; rfl
 ·by_cases k0 : k = A0
  ·subst k0; rw [a0, b8 j (hj rfl)]; rfl
  ·rcases hcase k k0 with e | ⟨rfl, e⟩
   ·unfold Vx; rw [e]
   ·unfold Vx; rw [e]; rfl
def Way (f g : Int) : Prop := 0 ≤ f ∧ f ≤ g ∧ g ≤ 5
instance (f g : Int) : Decidable (Way f g) := inferInstanceAs (Decidable (_ ∧ _))
def plS (sz a : Nat) : Pl → Pl
 | none => none
 | some (⟨b, o, s⟩, cap) => some (⟨b, if cap = a then o else o + a * sz, s⟩, cap - a)
theorem Seg.slice {R : Jm} {n sz a b : Nat} {cs : List Value} {p : Pl} (h : Seg R n cs p) (hl : cs.length = n * sz) (hab : a < b) (hb : b ≤ n) : Seg R (b - a) ((cs.drop (a * sz)).take ((b - a) * sz)) (plS sz a p) := by
 cases p with
 | none => have h : n = 0 := h; omega
 | some q =>
  obtain ⟨⟨r, o, s⟩, cap⟩ := q
  obtain ⟨h1, h2⟩ := h
  obtain ⟨h3, all, e, fr, h4, h5⟩ := h2 (by omega)
  have hne : ¬ cap = a := by omega
  simp only [plS, if_neg hne]
  have hlen : ((cs.drop (a * sz)).take ((b - a) * sz)).length = (b - a) * sz := by
   rw [List.length_take, List.length_drop, hl, ← Nat.sub_mul]
   exact Nat.min_eq_left (Nat.mul_le_mul_right _ (by omega))
  refine ⟨by omega, fun _ => ⟨h3, all, e, fr, h4, ?_⟩⟩
  rw [hlen]
  exact Jci h5 rfl hlen
section
variable {c : Cx} {l : Kw} {L : Jm} {X : XP} {Q : Exit → Act → World → Prop} {d : List Deferred}
variable {ops : Array Oper} {rest : List Oper} {i : Nat} {v : Value} {t : TypeId} {ps : String} {af : Array Edge} {gd : Option (Nat × Bool)} {ty t2 : TypeId}
theorem Jk3 {x lo hi : Operand} {p : Pl} {R : Jm} {cs : List Value} {n e sz a b : Nat} {ka kb : IntKind} {za zb : Int} (hx : Kg l x = some (KB n p)) (hs : Seg R n cs p) (hlo : Kg l lo = some (.int ka za)) (hhi : Kg l hi = some (.int kb zb)) (ea : za = (a : Int)) (eb : zb = (b : Int)) (ht : Kp c.P t = some e) (hz : KJ c.P e = some sz) (hab : a < b) (hb : b ≤ n) {m : Nat} (hm : b - a = m) :
  J9 c d l L X ⟨some i, .slice t x (some lo) (some hi) none, ty, ps, af, gd⟩ (KB m (plS sz a p)) := by
 subst ea eb hm
 cases p with
 | none => have h : n = 0 := hs; omega
 | some q =>
  obtain ⟨⟨r, o, s⟩, cap⟩ := q
  obtain ⟨h1, h2⟩ := hs
  have h3 : s = none := (h2 (by omega)).1
  subst h3
  exact JU (kl := some a) (kh := some b) (km := none) hx ht hz ⟨_, hlo⟩ ⟨_, hhi⟩ trivial rfl rfl rfl (by omega) (by show b ≤ cap; omega) (Nat.le_refl _) (fun h => by cases h) rfl
theorem vy {x y : Operand} {a b : List UInt8} (hx : Kg l x = some (.string (bs a))) (hy : Kg l y = some (.string (bs b))) :
  J9 c d l L X ⟨some i, .binOp .geq t x y t2, ty, ps, af, gd⟩ (.bool (!Op.bytesLess a b)) := fun a' w hf _ => by
 simp only [execOp]
 rw [hf.eval hx, hf.eval hy]
 simp only [binOp, eqGuard, Op.stringOp, Sem.run_bind, We]
 rfl
theorem xZ {x y : Operand} {a b : List UInt8} (hx : Kg l x = some (.string (bs a))) (hy : Kg l y = some (.string (bs b))) :
  J9 c d l L X ⟨some i, .binOp .gtr t x y t2, ty, ps, af, gd⟩ (.bool (Op.bytesLess b a)) := fun a' w hf _ => by
 simp only [execOp]
 rw [hf.eval hx, hf.eval hy]
 have e : (!(Op.bytesLess a b || decide (a = b))) = Op.bytesLess b a := by
  rcases Xk a b with h | h | h
  ·subst h; rw [Vy]; simp
  ·rw [h, Wo h]; simp
  ·rw [h, Wo h]; simp [(ZE h).symm]
 rw [← e]
 have e2 : (a == b) = decide (a = b) := by by_cases h : a = b <;> simp [h]
 rw [← e2]
 simp only [binOp, eqGuard, Op.stringOp, Sem.run_bind, We]
 rfl
theorem Jfv {x y : Operand} {e sz n cap : Nat} {a : Option Addr} {r2 : Option Addr} {c2 : Nat} (hg : Kj l ops ⟨some i, .call ⟨.builtin .append, #[x, y], #[t, t]⟩, ty, ps, af, gd⟩ = some true) (hi : Nat.ble (i + 1) c.n = true)
  (hx : Kg l x = some (.slice a n cap)) (hy : Kg l y = some (.slice r2 0 c2)) (ht : Kp c.P t = some e) (hs : KJ c.P e = some sz) (hle : n ≤ cap)
  (h : HL c d ((i, .slice a n cap) :: l) L X ops rest Q) : HL c d l L X ops (⟨some i, .call ⟨.builtin .append, #[x, y], #[t, t]⟩, ty, ps, af, gd⟩ :: rest) Q := by
 obtain ⟨inf, hinf, hs'⟩ : ∃ inf, c.P.info? e = some inf ∧ inf.size = sz := by
  unfold KJ at hs
  cases hq : c.P.info? e with
  | none => simp [hq] at hs
  | some inf => simp only [hq, Option.some.injEq] at hs; exact ⟨inf, rfl, hs⟩
 refine ZY hg rfl rfl hi (fun a' w hf _ => ?_) h
 have ex := hf.eval hx
 have ey := hf.eval hy
 have hl : ∀ (q : Addr), (loadCells q 0).run c.P w = .ok #[] w := fun q => by simpa using run_loadCells_list (P := c.P) w q [] (by simp)
 cases r2 <;> cases a <;> simp [execOp, resolve, Sem.run_bind, ex, ey, Result.andThen, invoke, builtin, Builtin.append_, KF (Kc ht), sizeOf, typeInfo, hinf, Builtin.lenOf, hle, Builtin.firstCells, hl, storeCells]
theorem Jhx {x : Operand} {p : Option Addr} {n cap : Nat} {e : TypeId} (hx : Kg l x = some (.slice p n cap)) (ht : Kp c.P t = some e) :
  J9 c d l L X ⟨some i, .call ⟨.builtin .cap, #[x], #[t]⟩, ty, ps, af, gd⟩ (.int .i64 cap) := fun a w hf _ => by
 have ex := hf.eval hx
 simp [execOp, resolve, Sem.run_bind, ex, Result.andThen, invoke, builtin, Builtin.cap_, KF (Kc ht), goInt]
theorem qM {x y f : Operand} {e sz k r1 r2 o1 o2 n1 c1 n2 c2 : Nat} {fn : Func} {g : FuncId} {at_ : Array TypeId} {cs1 cs2 : Array Value} {e1 e2 tR : TypeId}
  (hf : Kg l f = some (.func (.func g) #[] #[])) (hx : Kg l x = some (.slice (some ⟨r1, o1, none⟩) n1 c1)) (hy : Kg l y = some (.slice (some ⟨r2, o2, none⟩) n2 c2)) (hk1 : (r1, Obj.cells cs1 e1 (0, 0)) ∈ c.R) (hk2 : L[k]? = some (r2, .cells cs2 e2 (0, 0)))
  (ht : Kp c.P t = some e) (hs : KJ c.P e = some sz) (h0 : 0 < cs2.size) (hF : c.P.funcs[g]? = some fn) (hn1 : (fn.name == "runtime.NumGoroutine") = false) (hb : fn.body.isNone = true) (hn2 : Extern.findNext fn = none) (he : Extern.find fn = some (Extern.SlicesOverlaps.overlaps #[t, t] #[tR])) :
  J9 c d l L X ⟨some i, .call ⟨.value f, #[x, y], at_⟩, ty, ps, af, gd⟩ (.bool false) := fun a w hfr hst =>
 Jfr hf hx hy (hst.apart hk2 _ hk1) (Or.inr hk1) (vm hk2) ht hs h0 hF hn1 hb hn2 he a w hfr hst
theorem Xn {e sz : Nat} (hg : Kj l ops ⟨some i, .buildSlice t 0 #[], ty, ps, af, gd⟩ = some true) (hi : Nat.ble (i + 1) c.n = true) (ht : Kp c.P t = some e) (hs : KJ c.P e = some sz)
  (h : ∀ q, HL c d ((i, .slice (some ⟨q, 0, none⟩) 0 0) :: l) ((q, .cells #[] e (0, 0)) :: L) X ops rest Q) : HL c d l L X ops (⟨some i, .buildSlice t 0 #[], ty, ps, af, gd⟩ :: rest) Q := by
 refine V9 (V := fun q => .slice (some ⟨q, 0, none⟩) 0 0) (L' := fun q => (q, .cells #[] e (0, 0)) :: L) (X' := fun _ => X) hg rfl rfl hi (fun a w hfr hst => ⟨w.heap.size, w.alloc (.cells #[] e), ?_, hst.alloc _⟩) h
 simp [execOp, Instr.buildSlice, Sem.run_bind, KF (Kc ht), QW hs, Result.andThen, Instr.fill, newRow]
 rw [show Array.range 0 = (#[] : Array Nat) from by decide]
 simp
theorem wm {x y : Operand} {k r e sz b n : Nat} {z : Value} {q : Addr × Nat} {cs : List Value} {R L0 : Jm}
  (hg : Kj l ops ⟨some i, .call ⟨.builtin .append, #[x, y], #[t, t]⟩, ty, ps, af, gd⟩ = some true) (hi : Nat.ble (i + 1) c.n = true) (hx : Kg l x = some (.slice (some ⟨r, 0, none⟩) 0 0)) (hk : L[k]? = some (r, .cells #[] e (0, 0))) (hL : L.eraseIdx k = L0)
  (hy : Kg l y = some (KB n (some q))) (hs : Seg R n cs (some q)) (hR : ∀ q ∈ R, known c L q.1 q.2) (ht : Kp c.P t = some e) (hz : Q2 c.P e = some z) (hsz : KJ c.P e = some sz) (hb : Jb0 c.P e = some b) (hzs : z.cells.size = sz) (h0 : 0 < sz)
  (hcs : cs.length = n * sz) (hone : cs.all Q3 = true) (h63 : n ≤ 9223372036854775807) (h47 : n * b ≤ 140737488355328)
  (h : ∀ row, rowOk sz n cs row → HL c d ((i, J8 n row) :: l) (JH e cs row ++ L0) X ops rest Q) : HL c d l L X ops (⟨some i, .call ⟨.builtin .append, #[x, y], #[t, t]⟩, ty, ps, af, gd⟩ :: rest) Q := by
 obtain ⟨⟨r2, o2, s2⟩, cap⟩ := q
 obtain ⟨hs1, hs2⟩ := hs
 by_cases hn : n = 0
 ·subst hn
  have hc0 : cs = [] := List.length_eq_zero_iff.1 (by rw [hcs, Nat.zero_mul])
  subst hc0
  refine Jfv hg hi hx hy ht hsz (Nat.le_refl _) ?_
  refine Kk ?_ (h (some (r, 0, [])) ⟨by simp, by simp⟩)
  have h1 := (List.getElem?_eq_some_iff.1 hk)
  have := jh h1.1 (r, Obj.cells #[] e (0, 0))
  rw [hL, ← h1.2, List.set_getElem_self, h1.2] at this
  exact this
 ·obtain ⟨h3, all, e', fr, h4, h5⟩ := hs2 (by omega)
  have h3 : s2 = none := h3
  subst h3
  rw [hcs] at h5
  refine Wb hg hi hx hy (hR _ h4) ht hz hsz hb hzs h0 h5 hcs hone (by omega) (SlOwn.own (n := 0) (cap := 0) (xs := []) hk (by simp) (by simp) (by simp) hL) (by omega) (by rw [Nat.zero_add]; exact h47) fun r' cap' spare hsp => ?_
  have := h (some (r', cap', spare)) ⟨hcs, by rw [Nat.zero_add] at hsp; exact hsp⟩
  simpa [J8, JH] using this
end
def Yw {α : Type} (pr : α → Bool) (xs : List α) : Int := match xs.findIdx? pr with
 | some i => (i : Int)
 | none => -1
theorem Jc1 {α : Type} {pr : α → Bool} {xs : List α} (h : ∀ (j : Nat) x, xs[j]? = some x → pr x = false) : Yw pr xs = -1 := by
 unfold Yw
 have : xs.findIdx? pr = none := by
  rw [List.findIdx?_eq_none_iff]
  intro x hx
  obtain ⟨j, hj, rfl⟩ := List.mem_iff_getElem.1 hx
  simpa using h j _ (List.getElem?_eq_getElem hj)
 rw [this]
theorem Jc2 {α : Type} {pr : α → Bool} {xs : List α} {i : Nat} {x : α} (hx : xs[i]? = some x) (hp : pr x = true) (h : ∀ j, j < i → ∀ y, xs[j]? = some y → pr y = false) : Yw pr xs = (i : Int) := by
 unfold Yw
 obtain ⟨h1, h2⟩ := List.getElem?_eq_some_iff.1 hx
 have : xs.findIdx? pr = some i := by
  rw [List.findIdx?_eq_some_iff_getElem]
  exact ⟨h1, by rw [h2]; exact hp, fun j hj => by simpa using h j hj _ (List.getElem?_eq_getElem (by omega))⟩
 rw [this]
theorem Jtp {α : Type} {pr : α → Bool} {xs : List α} : decide (Yw pr xs ≥ 0) = xs.any pr := by
 unfold Yw
 cases h : xs.findIdx? pr with
 | none =>
  rw [List.findIdx?_eq_none_iff] at h
  have : xs.any pr = false := by rw [List.any_eq_false]; intro x hx; simpa using h x hx
  rw [this]; rfl
 | some i =>
  rw [List.findIdx?_eq_some_iff_getElem] at h
  obtain ⟨h1, h2, _⟩ := h
  have : xs.any pr = true := List.any_eq_true.2 ⟨xs[i], List.getElem_mem _, h2⟩
  rw [this]; simp
theorem wn {α : Type} {pr : α → Bool} {xs : List α} : (Yw pr xs < 0 ∧ xs.find? pr = none) ∨ ∃ (i : Nat) (x : α), Yw pr xs = (i : Int) ∧ xs[i]? = some x ∧ xs.find? pr = some x := by
 unfold Yw
 cases h : xs.findIdx? pr with
 | none =>
  rw [List.findIdx?_eq_none_iff] at h
  exact .inl ⟨by simp, by rw [List.find?_eq_none]; intro x hx; simpa using h x hx⟩
 | some i =>
  rw [List.findIdx?_eq_some_iff_getElem] at h
  obtain ⟨h1, h2, h3⟩ := h
  refine .inr ⟨i, xs[i], rfl, List.getElem?_eq_getElem h1, ?_⟩
  rw [List.find?_eq_some_iff_getElem]
  exact ⟨h2, i, h1, rfl, fun j hj => by simpa using h3 j hj⟩
theorem Jtq {α : Type} {pr : α → Bool} {xs : List α} (h : 0 ≤ Yw pr xs) : ∃ (i : Nat) (x : α), Yw pr xs = (i : Int) ∧ xs[i]? = some x ∧ xs.find? pr = some x := by
 rcases wn (pr := pr) (xs := xs) with ⟨h1, _⟩ | h1
 ·omega
 ·exact h1
theorem Jc3 {α : Type} {pr : α → Bool} {xs : List α} (h : Yw pr xs < 0) : xs.find? pr = none := by
 rcases wn (pr := pr) (xs := xs) with ⟨_, h1⟩ | ⟨i, x, h1, _⟩
 ·exact h1
 ·omega
section
variable {α : Type} {kf : α → BS}
def Yd (a b : BS) : Int := if Op.bytesLess a b then -1 else if Op.bytesLess b a then 1 else 0
theorem vz (a b : BS) : decide (Yd a b < 0) = Op.bytesLess a b := by
 unfold Yd
 cases Op.bytesLess a b
 ·cases Op.bytesLess b a <;> rfl
 ·rfl
theorem Jc4 (a b : BS) : (Yd a b == 0) = decide (a = b) := by
 unfold Yd
 rcases Xk a b with h | h | h
 ·subst h; rw [Vy]; simp
 ·rw [h]; simp [ZE h]
 ·rw [h, Wo h]; simp [(ZE h).symm]
def ZV (kf : α → BS) (k : BS) (xs : List α) : Nat := (xs.takeWhile fun x => Op.bytesLess (kf x) k).length
def VD (kf : α → BS) (k : BS) (xs : List α) : Bool := match xs[ZV kf k xs]? with
 | some x => decide (kf x = k)
 | none => false
theorem Jn8 (k : BS) (xs : List α) : ZV kf k xs ≤ xs.length := by
 unfold ZV
 have := (List.takeWhile_prefix (p := fun x => Op.bytesLess (kf x) k) (l := xs)).length_le
 exact this
theorem Jn9 {k : BS} : ∀ {xs : List α} {i : Nat}, i ≤ xs.length → (∀ q y, q < i → xs[q]? = some y → Op.bytesLess (kf y) k = true) → (∀ y, xs[i]? = some y → Op.bytesLess (kf y) k = false) → i = ZV kf k xs
 | [], i, h, _, _ => by simp [ZV] at h ⊢; exact h
 | x :: xs, 0, _, _, h2 => by
  have := h2 x rfl
  simp [ZV, List.takeWhile_cons, this]
 | x :: xs, i + 1, h, h1, h2 => by
  have h0 := h1 0 x (by omega) rfl
  have := Jn9 (xs := xs) (i := i) (by simpa using h) (fun q y hq hy => h1 (q + 1) y (by omega) hy) (fun y hy => h2 y hy)
  unfold ZV at this ⊢
  rw [List.takeWhile_cons, h0]
  simp only [if_true, List.length_cons]
  omega
theorem Jwt {k : BS} : ∀ {xs : List α} {q : Nat} {y : α}, q < ZV kf k xs → xs[q]? = some y → Op.bytesLess (kf y) k = true
  | [], q, y, h, _ => by simp [ZV] at h
  | x :: xs, q, y, h, hy => by
    unfold ZV at h
    rw [List.takeWhile_cons] at h
    split at h
    · rename_i hx
      cases q with
      | zero => obtain rfl : x = y := by simpa using hy
                exact hx
      | succ q => exact Jwt (xs := xs) (q := q) (by simpa [ZV] using h) (by simpa using hy)
    · simp at h
theorem Jwu {k : BS} : ∀ {xs : List α} {q : Nat} {y : α}, Ks kf xs → ZV kf k xs ≤ q → xs[q]? = some y → Op.bytesLess (kf y) k = false
  | [], q, y, _, _, hy => by simp at hy
  | x :: xs, q, y, hs, h, hy => by
    obtain ⟨s1, s2⟩ := List.pairwise_cons.1 hs
    unfold ZV at h
    rw [List.takeWhile_cons] at h
    split at h
    · cases q with
      | zero => simp at h
      | succ q => exact Jwu (xs := xs) (q := q) s2 (by simpa [ZV] using h) (by simpa using hy)
    · rename_i hx
      have hx : Op.bytesLess (kf x) k = false := by simpa using hx
      cases q with
      | zero => obtain rfl : x = y := by simpa using hy
                exact hx
      | succ q =>
        have hm : y ∈ xs := List.mem_of_getElem? (by simpa using hy)
        cases hyk : Op.bytesLess (kf y) k
        · rfl
        · rw [QA (s1 y hm) hyk] at hx; cases hx
theorem Jc5 {k : BS} {xs : List α} (hs : Ks kf xs) {h : Nat} {x : α} (hx : xs[h]? = some x) (hb : Op.bytesLess (kf x) k = true) : ∀ q y, q < h + 1 → xs[q]? = some y → Op.bytesLess (kf y) k = true := fun q y hq hy => by
 rcases Nat.lt_succ_iff_lt_or_eq.1 hq with hq | rfl
 ·have hp := List.pairwise_iff_getElem.1 hs q h (List.getElem?_eq_some_iff.1 hy).1 (List.getElem?_eq_some_iff.1 hx).1 hq
  rw [(List.getElem?_eq_some_iff.1 hy).2, (List.getElem?_eq_some_iff.1 hx).2] at hp
  exact QA hp hb
 ·rw [hx] at hy; cases hy; exact hb
theorem Jc6 {k : BS} {xs : List α} (hs : Ks kf xs) {h : Nat} {x : α} (hx : xs[h]? = some x) (hb : Op.bytesLess (kf x) k = false) : ∀ q y, h ≤ q → xs[q]? = some y → Op.bytesLess (kf y) k = false := fun q y hq hy => by
 rcases Nat.lt_or_eq_of_le hq with hq | rfl
 ·have hp := List.pairwise_iff_getElem.1 hs h q (List.getElem?_eq_some_iff.1 hx).1 (List.getElem?_eq_some_iff.1 hy).1 hq
  rw [(List.getElem?_eq_some_iff.1 hy).2, (List.getElem?_eq_some_iff.1 hx).2] at hp
  cases hyk : Op.bytesLess (kf y) k
  ·rfl
  ·rw [QA hp hyk] at hb; cases hb
 ·rw [hx] at hy; cases hy; exact hb
theorem Jc7 {k : BS} {xs : List α} {x : α} (h : xs[ZV kf k xs]? = some x) : VD kf k xs = decide (kf x = k) := by unfold VD; rw [h]
theorem qp {k : BS} {xs : List α} (h : xs.length ≤ ZV kf k xs) : VD kf k xs = false := by unfold VD; rw [List.getElem?_eq_none h]
theorem Joa {x : α} {xs : List α} (hs : Ks kf xs) : KQ kf x xs = if VD kf (kf x) xs = true then xs.set (ZV kf (kf x) xs) x else xs.take (ZV kf (kf x) xs) ++ x :: xs.drop (ZV kf (kf x) xs) := by
 obtain ⟨i, hi⟩ : ∃ i, i = ZV kf (kf x) xs := ⟨_, rfl⟩
 have hle : i ≤ xs.length := hi ▸ Jn8 _ _
 have h := Jnz (kf := kf) (x := x) (p := xs.take i) (q := xs.drop i) (fun y hy => by
  obtain ⟨j, e⟩ := List.mem_iff_getElem?.1 hy
  have hj := (List.getElem?_eq_some_iff.1 e).1
  rw [List.length_take] at hj
  rw [List.getElem?_take, if_pos (by omega)] at e
  exact Jwt (by omega) e) (fun y hy => by
  obtain ⟨j, e⟩ := List.mem_iff_getElem?.1 hy
  rw [List.getElem?_drop] at e
  exact Jwu hs (by omega) e)
 rw [List.take_append_drop] at h
 rw [h]
 unfold VD
 rw [← hi]
 by_cases hlt : i < xs.length
 ·rw [List.getElem?_eq_getElem hlt, List.drop_eq_getElem_cons hlt]
  simp only [decide_eq_true_eq]
  split
  ·rw [List.set_eq_take_append_cons_drop, if_pos hlt]
  ·rfl
 ·rw [List.getElem?_eq_none (by omega), List.drop_of_length_le (by omega)]
  simp
end
def fV (f : FuncId) : Value := .func (.func f) #[] #[]
theorem Zn {α : Type} {kf : α → BS} : ∀ {xs : List α}, (∀ (j : Nat) x y, xs[j]? = some x → xs[j + 1]? = some y → Op.bytesLess (kf x) (kf y) = true) → Q4 kf xs = true
 | [], _ => rfl
 | [_], _ => rfl
 | x :: y :: xs, h => by
  rw [Q4, h 0 x y rfl rfl, Bool.true_and]
  exact Zn fun j u v hu hv => h (j + 1) u v (by simpa using hu) (by simpa using hv)
theorem j9 {α : Type} {kf : α → BS} : ∀ {xs : List α} {j : Nat} {x y : α}, xs[j]? = some x → xs[j + 1]? = some y → Op.bytesLess (kf x) (kf y) = false → Q4 kf xs = false
 | [], _, _, _, h, _, _ => by simp at h
 | [_], _, _, _, _, h, _ => by simp at h
 | a :: b :: xs, 0, x, y, hx, hy, h => by
  obtain rfl : a = x := by simpa using hx
  obtain rfl : b = y := by simpa using hy
  rw [Q4, h, Bool.false_and]
 | a :: b :: xs, j + 1, x, y, hx, hy, h => by
  rw [Q4, j9 (xs := b :: xs) (j := j) (by simpa using hx) (by simpa using hy) h, Bool.and_false]
theorem Yx {α : Type} {f : α → List Value} (h : ∀ x, (f x).all Q3 = true) : ∀ l : List α, (l.flatMap f).all Q3 = true
 | [] => rfl
 | x :: l => by rw [List.flatMap_cons, List.all_append, h, Yx h l]; rfl
theorem cut {l : List Value} {a : Nat} (h : a ≤ l.length) : ∃ x y, l = x ++ y ∧ x.length = a := ⟨l.take a, l.drop a, (List.take_append_drop ..).symm, by rw [List.length_take]; omega⟩
theorem Jc8 {α : Type} {kf : α → BS} {k : BS} {xs : List α} (h : VD kf k xs = true) : ZV kf k xs < xs.length := by
 rcases Nat.lt_or_ge (ZV kf k xs) xs.length with h1 | h1
 ·exact h1
 ·rw [qp h1] at h; cases h
theorem row_some {sz n : Nat} {xs : List Value} {row : QD} (h : rowOk sz n xs row) (hn : 0 < n) : ∃ r cap sp, row = some (r, cap, sp) := by
 cases row with
 | none => have := h.1; omega
 | some q => obtain ⟨r, cap, sp⟩ := q; exact ⟨r, cap, sp, rfl⟩
theorem Xo {P M S V : List Value} {o n : Nat} (ho : P.length = o) (hn : M.length = n) : (P ++ (M ++ S)).take o ++ V ++ (P ++ (M ++ S)).drop (o + n) = P ++ (V ++ S) := by
 subst ho hn
 rw [List.take_left' rfl, ← List.drop_drop, List.drop_left' rfl, List.drop_left' rfl, List.append_assoc]
theorem Jaa {α : Type} {f : α → List Value} {m : Nat} (hf : ∀ x, (f x).length = m) {xs : List α} {j : Nat} (hj : j < xs.length) (y : α) (sp : List Value) :
  (xs.flatMap f ++ sp).take (j * m) ++ f y ++ (xs.flatMap f ++ sp).drop (j * m + m) = (xs.set j y).flatMap f ++ sp := by
 have e : xs = xs.take j ++ xs[j] :: xs.drop (j + 1) := by rw [← List.drop_eq_getElem_cons hj, List.take_append_drop]
 have e1 : xs.flatMap f ++ sp = (xs.take j).flatMap f ++ (f xs[j] ++ ((xs.drop (j + 1)).flatMap f ++ sp)) := by
  rw [show xs.flatMap f = (xs.take j ++ xs[j] :: xs.drop (j + 1)).flatMap f from congrArg (List.flatMap f) e, List.flatMap_append, List.flatMap_cons, List.append_assoc, List.append_assoc]
 have e2 : (xs.set j y).flatMap f ++ sp = (xs.take j).flatMap f ++ (f y ++ ((xs.drop (j + 1)).flatMap f ++ sp)) := by
  rw [List.set_eq_take_append_cons_drop, if_pos hj]
  simp [List.flatMap_append, List.flatMap_cons]
 rw [e1, e2]
 exact Xo (by rw [Kt hf, List.length_take]; congr 1; omega) (hf _)
theorem Pure.toR {P : Program} {f : FuncId} {args : Array Value} {v : Value} {R : Jm} (h : Pure P f args v) : PureR P f args v R := ⟨fun w _ => h.run w⟩
theorem Jk4 {α : Type} {f : α → List Value} {m : Nat} (hf : ∀ x, (f x).length = m) {xs : List α} {i : Nat} {x y : α} (hx : xs[i]? = some x) (hy : xs[i + 1]? = some y) : ((xs.flatMap f).drop (i * m)).take (2 * m) = [x, y].flatMap f := by
 have h1 := Wn hf hx
 have h2 := Wn hf hy
 rw [show 2 * m = m + m by omega, List.take_add, h1, List.drop_drop, show i * m + m = (i + 1) * m by rw [Nat.succ_mul], h2]
 simp
def Qy (s : StL) (k : BS) : AcL := (s.accts.find? fun a => decide (a.addr = k)).getD ac0L
def VW (s : StL) (k : BS) : Bool := (s.accts.find? fun a => decide (a.addr = k)).isSome
theorem Jc9 {l : List AcL} {k : BS} : V5 AcE.addr k (l.map AcL.er) = (l.find? fun a => decide (a.addr = k)).map AcL.er := by
 induction l with
 | nil => rfl
 | cons a l ih =>
  rw [List.map_cons, Qv, ih, List.find?_cons]
  by_cases h : a.addr = k
  ·rw [if_pos (show a.er.addr = k from h), decide_eq_true h]; rfl
  ·rw [if_neg (show ¬ a.er.addr = k from h), decide_eq_false h]
theorem Job (s : StL) (k : BS) : VW s k = (KP s.er k).isSome := by
 unfold VW KP StL.er
 rw [Jc9]
 cases s.accts.find? fun a => decide (a.addr = k) <;> rfl
theorem Jhy (s : StL) (k : BS) : (Qy s k).er = (KP s.er k).getD ac0 := by
 unfold Qy KP StL.er
 rw [Jc9]
 cases s.accts.find? fun a => decide (a.addr = k) <;> rfl
theorem vB {R : Jm} {s : StL} (h : s.In R) (k : BS) : (Qy s k).In R := by
 unfold Qy
 cases hx : s.accts.find? fun a => decide (a.addr = k) with
 | none => exact Jxp
 | some a => exact h.accts a (List.mem_of_find?_eq_some hx)
theorem Jda {s : StL} {k : BS} {a : AcL} (h : (s.accts.find? fun a => decide (a.addr = k)) = some a) : Qy s k = a ∧ VW s k = true := by
 unfold Qy VW; rw [h]; exact ⟨rfl, rfl⟩
theorem zp {s : StL} {k : BS} (h : (s.accts.find? fun a => decide (a.addr = k)) = none) : Qy s k = ac0L ∧ VW s k = false := by
 unfold Qy VW; rw [h]; exact ⟨rfl, rfl⟩
theorem Jfw {α : Type} {kf : α → BS} (x y : α) : Q4 kf [x, y] = Op.bytesLess (kf x) (kf y) := by
 rw [Q4, Q4, Bool.and_true]
def W1 (l : List AcE) : Nat → Option BS
 | 0 => none
 | i + 1 => l[i]?.map AcE.addr
theorem Jhz {l : List AcE} {i : Nat} {a : AcE} (h : l[i]? = some a) : goS (W1 l i) (l.drop i) = if QQ (W1 l i) a ≠ 0 then QQ (W1 l i) a else goS (W1 l (i + 1)) (l.drop (i + 1)) := by
 rw [WH h, goS, show W1 l (i + 1) = some a.addr from by show Option.map AcE.addr l[i]? = _; rw [h]; rfl]
theorem XR {s : StL} {i : Nat} {a : AcL} (h : s.accts[i]? = some a) : s.er[i]? = some a.er := by unfold StL.er; rw [List.getElem?_map, h]; rfl
theorem Seg.two {α : Type} {f : α → List Value} {m : Nat} (hf : ∀ x, (f x).length = m) {R : Jm} {xs : List α} {p : Pl} (h : Seg R xs.length (xs.flatMap f) p) {i j : Nat} {x y : α} (hx : xs[j]? = some x) (hy : xs[i]? = some y) (e : j + 1 = i) : Seg R [x, y].length ([x, y].flatMap f) (plS m j p) := by
 subst e
 have hlt := (List.getElem?_eq_some_iff.1 hy).1
 have h1 := h.slice (sz := m) (a := j) (b := j + 2) (Kt hf xs) (by omega) (by omega)
 rw [show j + 2 - j = 2 by omega, Jk4 hf hx hy] at h1
 exact h1
theorem Jh0 {last : Option BS} {a : AcE} {b : BS} (h : VM a ≠ 2) (hl : last = some b) (hb : Op.bytesLess b a.addr = false) : QQ last a = 11 := by unfold QQ; rw [if_pos ⟨h, b, hl, hb⟩]
theorem Jab {last : Option BS} {a : AcE} (h : VM a = 2 ∨ last = none ∨ ∃ b, last = some b ∧ Op.bytesLess b a.addr = true) : QQ last a = VM a := by
 unfold QQ
 rw [if_neg]
 rintro ⟨h1, b, h2, h3⟩
 rcases h with h | h | ⟨c, h, h4⟩
 ·exact h1 h
 ·rw [h] at h2; cases h2
 ·rw [h] at h2; cases h2; rw [h3] at h4; cases h4
theorem Jac {s : StL} {i j : Nat} {x : AcL} (hx : s.accts[j]? = some x) (e : j + 1 = i) : W1 s.er i = some x.addr := by
 subst e; show Option.map AcE.addr s.er[j]? = _; rw [XR hx]; rfl
theorem Jh1 (s : StL) : (32 < (s.accts.length : Int) → KC s.er = 5) ∧ (¬ 32 < (s.accts.length : Int) → KC s.er = goS none s.er) := by
 unfold KC
 rw [s.er_len]
 exact ⟨fun h => by rw [if_pos (by omega)], fun h => by rw [if_neg (by omega)]⟩
theorem PureR.mono {P : Program} {f : FuncId} {args : Array Value} {v : Value} {R R' : Jm} (h : PureR P f args v R) (hs : ∀ q ∈ R, q ∈ R') : PureR P f args v R' := ⟨fun w hw => h.run w fun p hp => hw p (hs p hp)⟩
def Qo : QD → Pl
 | none => none
 | some (r, cap, _) => some (⟨r, 0, none⟩, cap)
theorem QZ (n : Nat) (row : QD) (h : row = none → n = 0) : KB n (Qo row) = J8 n row := by
 cases row with
 | none => rw [h rfl]; rfl
 | some q => rfl
theorem Km {sz n e : Nat} {cs : List Value} {row : QD} (h : rowOk sz n cs row) (h0 : 0 < sz) : Seg (JH e cs row) n cs (Qo row) := by
 cases row with
 | none => exact h.1
 | some q =>
  obtain ⟨r, cap, sp⟩ := q
  obtain ⟨h1, h2⟩ := h
  exact ⟨Nat.le_of_mul_le_mul_right (by omega : n * sz ≤ cap * sz) h0, fun _ => ⟨rfl, _, e, (0, 0), List.mem_cons_self, by simp⟩⟩
theorem Jtr {α : Type} {pr : α → Bool} {xs : List α} {i : Nat} (h : Yw pr xs = (i : Int)) : i < xs.length ∧ (xs.take (i + 1)).filter (fun x => !pr x) = xs.take i := by
 unfold Yw at h
 split at h
 ·rename_i j hj
  obtain rfl : j = i := by omega
  rw [List.findIdx?_eq_some_iff_getElem] at hj
  obtain ⟨h1, h2, h3⟩ := hj
  refine ⟨h1, ?_⟩
  rw [List.take_succ_eq_append_getElem h1, List.filter_append, List.filter_eq_self.2, List.filter_eq_nil_iff.2, List.append_nil]
  ·intro x hx
   rw [List.mem_singleton.1 hx]; simp [h2]
  ·intro x hx
   obtain ⟨q, hq, rfl⟩ := List.mem_iff_getElem.1 hx
   rw [List.getElem_take]
   simp only [List.length_take] at hq
   simpa using h3 q (by omega)
 ·omega
theorem Jts {α : Type} {pr : α → Bool} {xs : List α} (h : Yw pr xs < 0) : xs.filter (fun x => !pr x) = xs := by
 rw [List.filter_eq_self]
 intro x hx
 have := Jc3 h
 rw [List.find?_eq_none] at this
 simpa using this x hx
theorem Ye {α : Type} {pr : α → Bool} {xs : List α} {j : Nat} {x : α} (hx : xs[j]? = some x) : (xs.take (j + 1)).filter pr = (xs.take j).filter pr ++ (if pr x then [x] else []) := by
 obtain ⟨h1, h2⟩ := List.getElem?_eq_some_iff.1 hx
 rw [List.take_succ_eq_append_getElem h1, List.filter_append, h2]
 congr 1
 by_cases h : pr x = true <;> simp [h]
theorem Jdb {α : Type} {f : α → List Value} {xs : List α} {j : Nat} {x : α} (hx : xs[j]? = some x) : (xs.drop j).flatMap f = f x ++ (xs.drop (j + 1)).flatMap f := by rw [WH hx, List.flatMap_cons]
structure AcRes (R : Jm) (e : AcE × Int) : Type where
  a : AcL
  err : Int
  L : Jm
  ok : a.In (L ++ R)
  eq : (a.er, err) = e
structure StRes (R : Jm) (e : List AcE × Int) : Type where
  s : StL
  err : Int
  L : Jm
  ok : s.In (L ++ R)
  eq : (s.er, err) = e
def AcRes.val {R : Jm} {e : AcE × Int} (x : AcRes R e) : Value := .tuple #[x.a.val, .int .i64 x.err]
def StRes.val {R : Jm} {e : List AcE × Int} (x : StRes R e) : Value := .tuple #[x.s.val, .int .i64 x.err]
theorem VX (n : Nat) (row : QD) : Q3 (J8 n row) = true := by cases row <;> rfl
theorem Jfx {k v : BS} {l : List (BS × BS)} : (KQ Prod.fst (k, v) l).filter (fun x => !decide (x.1 = k)) = YD Prod.fst k l := by
 rw [← Jhr (kf := Prod.fst) (x := (k, v)) (l := l)]
 unfold YD
 refine List.filter_congr fun x _ => ?_
 by_cases h : x.1 = k <;> simp [h]
theorem Jad (a : AcL) : ∀ l : List AcL, (KQ AcL.addr a l).map AcL.er = KQ AcE.addr a.er (l.map AcL.er)
 | [] => rfl
 | x :: l => by
  rw [List.map_cons, KQ, KQ]
  show _ = if Op.bytesLess x.addr a.addr then _ else if x.addr = a.addr then _ else _
  split
  ·rw [List.map_cons, Jad a l]
  ·split <;> rfl
theorem zq (s : StL) : Ks AcL.addr s.accts ↔ Ks AcE.addr s.er := by
 unfold StL.er Ks
 rw [List.pairwise_map]
 exact Iff.rfl
theorem Yy {R L : Jm} {a : AcL} (ha : a.In R) {k v : BS} (hk : k.length = 32) (hv : v.length = 32) (hlen : (Ko a.slots k v).length ≤ 9223372036854775807) {p : Pl} (hp : Seg L (Ko a.slots k v).length (Jtl (Ko a.slots k v)) p) : AcL.In (L ++ R) ⟨a.addr, a.nonce, a.bal, a.code, Ko a.slots k v, p⟩ :=
 ⟨ha.addr, ha.nonce, ha.bal, ha.code, hlen, hp.mono fun q hq => List.mem_append_left _ hq, fun x hx => by
  rcases wj hx with ⟨rfl, _⟩ | hx
  ·exact ⟨by show k.length ≤ _; rw [hk]; decide, by show v.length ≤ _; rw [hv]; decide⟩
  ·exact ha.slots x hx⟩
inductive EqF (P : Program) (xs ys : List Value) : List Field → Bool → Prop
  | nil : EqF P xs ys [] true
  | scal {f : Field} {fs : List Field} {a b : Value} {r : Bool} (hn : (f.name == "_") = false) (he : VL P f.type = some false) (ga : WJ xs f.offset = some a) (gb : WJ ys f.offset = some b) (ha : VU P f.type a = true) (hb : VU P f.type b = true) (h : EqF P xs ys fs r) : EqF P xs ys (f :: fs) (eqS a b && r)
  | arr {f : Field} {fs : List Field} {n e : Nat} {va vb : List Value} {r : Bool} (hn : (f.name == "_") = false) (ht : jf P f.type = some (n, e)) (hz : KJ P f.type = some n) (he : VL P e = some false) (hs : KJ P e = some 1) (ga : (xs.drop f.offset).take n = va) (gb : (ys.drop f.offset).take n = vb) (hla : va.length = n) (hlb : vb.length = n)
      (h1 : va.all (VU P e) = true) (h2 : vb.all (VU P e) = true) (h : EqF P xs ys fs r) : EqF P xs ys (f :: fs) (Q0 va vb && r)
theorem zr {P : Program} {t n : Nat} {cs va : List Value} {off : Nat} {e m : Nat} (ht : jf P t = some (m, e)) (hz : KJ P t = some n) (ga : (cs.drop off).take n = va) (hl : va.length = n) (w : World) : (part t cs.toArray off).run P w = .ok (.agg va.toArray) w := by
 have e1 : (cs.toArray.extract off (off + n)) = va.toArray := by
  apply Array.toList_inj.1
  rw [← ga, List.extract_toArray, List.extract_eq_take_drop, Nat.add_sub_cancel_left]
 unfold part
 simp only [Sem.run_bind, ja (show VL P t = some true from by unfold VL; rw [vo ht]), Result.andThen, QW hz, if_true, e1]
 rfl
theorem Jae {P : Program} {xs ys : List Value} {d : Nat} {w : World} : ∀ {fs : List Field} {b : Bool}, EqF P xs ys fs b → (Op.eqFields (d + 2) xs.toArray ys.toArray fs).run P w = .ok b w := by
 intro fs b h
 induction h with
 | nil => simp [Op.eqFields]
 | @scal f fs a b r hn he ga gb ha hb h ih =>
  have hn' : f.name ≠ "_" := by intro e; rw [e] at hn; simp at hn
  simp only [Op.eqFields, Sem.run_ite, if_pos hn', Sem.run_bind, Zh he (show xs.toArray[f.offset]? = some a from by rw [List.getElem?_toArray, ← W9]; exact ga), Zh he (show ys.toArray[f.offset]? = some b from by rw [List.getElem?_toArray, ← W9]; exact gb), Result.andThen, xw ha hb]
  cases hab : eqS a b
  ·simp
  ·simpa using ih
 | @arr f fs n e va vb r hn ht hz he hs ga gb hla hlb h1 h2 h ih =>
  have hn' : f.name ≠ "_" := by intro e; rw [e] at hn; simp at hn
  simp only [Op.eqFields, Sem.run_ite, if_pos hn', Sem.run_bind, zr ht hz ga hla, zr ht hz gb hlb, Result.andThen, qa ht he hs hla hlb h1 h2]
  cases hab : Q0 va vb
  ·simp
  ·simpa using ih
section
variable {c : Cx} {l : Kw} {L : Jm} {X : XP} {d : List Deferred}
variable {i : Nat} {t : TypeId} {ps : String} {af : Array Edge} {gd : Option (Nat × Bool)} {ty t2 : TypeId}
theorem Jh2 {x y : Operand} {xs ys : List Value} {b : Bool} (hx : Kg l x = some (.agg xs.toArray)) (hy : Kg l y = some (.agg ys.toArray)) (ht : c.P.underlying t = some (.struct (c.P.fieldsOf t))) (hp : c.P.stoodInHeld t = false) (hgt : c.P.eqGuardType c.P.depth t = false) (hE : EqF c.P xs ys (c.P.fieldsOf t).toList b) :
  J9 c d l L X ⟨some i, .binOp .neq t x y t2, ty, ps, af, gd⟩ (.bool (!b)) := fun a' w hf _ => by
 have hr := run_equalIn_struct (P := c.P) w 9999 t xs.toArray ys.toArray ht hp
 rw [Jae hE] at hr
 have h0 := run_neq_struct (P := c.P) w t xs.toArray ys.toArray
 rw [hr] at h0
 simp only [execOp]
 rw [hf.eval hx, hf.eval hy]
 simp only [Sem.run_bind, run_eqGuard_agg w .neq t x y _ _ hgt, Result.andThen, h0]
 rfl
end
theorem Jh3 (a b : BS) : eqS (J1 a) (J1 b) = decide (a = b) := xv a b
theorem Jtt (x y : BS × BS) : (eqS (J1 x.1) (J1 y.1) && (eqS (J1 x.2) (J1 y.2) && true)) = decide (x = y) := by
 rw [Jh3, Jh3]
 obtain ⟨a, b⟩ := x
 obtain ⟨c, d⟩ := y
 by_cases h1 : a = c <;> by_cases h2 : b = d <;> simp [h1, h2]
theorem Jxw {α : Type} {xs ys : List α} {i : Nat} (hl : xs.length = ys.length) (hi : xs.length ≤ i) (h : ∀ j, j < i → xs[j]? = ys[j]?) : xs = ys := by
 apply List.ext_getElem?
 intro j
 by_cases hj : j < i
 ·exact h j hj
 ·rw [List.getElem?_eq_none (by omega), List.getElem?_eq_none (by omega)]
theorem Jxx {α : Type} {xs ys : List α} {i : Nat} {x y : α} (hx : xs[i]? = some x) (hy : ys[i]? = some y) (h : ¬ x = y) : ¬ xs = ys := by
 rintro rfl; rw [hx] at hy; exact h (Option.some.inj hy)
theorem eqU (a b : Nat) : eqS (uV a) (uV b) = decide (a = b) := by
 show ((a : Int) == (b : Int)) = _
 by_cases h : a = b
 ·subst h; simp
 ·have : ¬ (a : Int) = b := by omega
  simp [h, this]
theorem eqW (x y : W4) : Q0 [uV x.a, uV x.b, uV x.c, uV x.d] [uV y.a, uV y.b, uV y.c, uV y.d] = decide (x = y) := by
 simp only [Q0, eqU]
 obtain ⟨a, b, c, d⟩ := x
 obtain ⟨a', b', c', d'⟩ := y
 by_cases h1 : a = a' <;> by_cases h2 : b = b' <;> by_cases h3 : c = c' <;> by_cases h4 : d = d' <;> simp [h1, h2, h3, h4]
theorem qN {ι : Type} {P : Program} {f : FuncId} {fn : Func} {code : Code} {caps : List Value} {Rl : Jm} {p0 : ι} {nx : ι → List Value → Jm → ι → Prop} {fin : ι → Prop} (hf : P.funcs[f]? = some fn) (hb : fn.body = some code) (hlen : Nat.ble (caps.length + 1) fn.ntmps = true)
  (h : ∀ (q : Nat) (xids : List Nat) (w2 : World) (XI : ι → XP) (XF : XP),
   (∀ i v B i', nx i v B i' → ∀ xs w, (∀ k ∈ xs, k < w.heap.size ∧ (k ∈ xids ∨ w2.heap.size ≤ k)) → Keep ([] ++ xids) w2 w → ve xs (XI i) w → Has B w → (∀ p ∈ B, p.1 ∉ xs ∧ p.1 ∉ xids) → YS P q v.toArray xs w (XI i') XF) →
   HC ⟨P, none, w2, [], xids, Rl, fn.ntmps⟩ [] (VB 0 (.func (.yield q) #[] #[] :: caps)) [] (XI p0) code
    (bodyPostM (FW none) 0 P fn (fun e w' => (∃ v, e = .returned v) ∧ Keep ([] ++ xids) w2 w' ∧ ((∃ i xs, fin i ∧ XI i xs w') ∨ ∃ xs, XF xs w')))) : Jha P f caps Rl p0 nx fin :=
 fun q xids w2 XI XF hR hlt h0 hY =>
  Q7 ⟨P, none, w2, [], xids, Rl, fn.ntmps⟩ hf hb rfl rfl rfl hlen
   ⟨Keep.refl _ _, by simp, by simp, fun p hp => ⟨by simp, (hR p hp).1, (hR p hp).2⟩, hlt, xids, fun k hk => ⟨.inl hk, hlt k hk, by simp⟩, h0⟩ (h q xids w2 XI XF hY)
section
variable {c : Cx} {d : List Deferred} {l : Kw} {E : Jm} {X : XP} {S : Jm} {ops : Array Oper} {tb : ZU} {rest : List Nat} {T : Jm → Act → Prop} {k i : Nat}
theorem KO {α : Type} {x0 : α} {V : α → Value} {LL : α → Jm} {Rl : Jm} {f : Operand} {args : Array Operand} {at_ : Array TypeId} {g : FuncId} {vs : List Value} {ty : TypeId} {ps : String} {af : Array Edge} {gd : Option (Nat × Bool)}
  (hk : WJ ops.toList k = some ⟨some i, .call ⟨.value f, args, at_⟩, ty, ps, af, gd⟩) (hg : Kj l ops ⟨some i, .call ⟨.value f, args, at_⟩, ty, ps, af, gd⟩ = some true) (hi : Nat.ble (i + 1) c.n = true) (hA : tb k = .grow (Qe x0 V LL)) (hca : Kq l f args = some (g, vs)) (eg : Enters c.P g)
  (hp : PureT c.P g vs.toArray V [] LL Rl) (hR : ∀ p ∈ Rl, p ∈ S ∨ p ∈ c.R) (h : ∀ x, HB c d ((i, V x) :: l) (LL x ++ E) X S ops tb rest T) : HB c d l E X S ops tb (k :: rest) T :=
 xN (e := Qe x0 V LL) hk hg rfl hi hA (fun E' hE a w hf hs => Wu hf hca eg ((hp.run w (fun p hp => by cases hp) (fun p hp => (hR p hp).elim (fun h => (hs.own _ (hE p h)).2.2) hs.readR) List.Pairwise.nil (fun p _ q hq => by cases hq)).mono fun _ _ ⟨x, he, hk, h1, h2⟩ => ⟨V x, he, x, rfl, hk, (fun p hp => ⟨((h1 p hp).1).elim (fun h => by cases h) id, (h1 p hp).2⟩), h2⟩)) h
end
theorem vC {c : Cx} {d : List Deferred} {l : Kw} {L L' : Jm} {X : XP} {code : Code} {Q : Exit → Act → World → Prop} (hp : L.Perm L') (h : HC c d l L' X code Q) : HC c d l L X code Q := fun a w hf hs => h a w hf (hs.perm hp)
theorem Qz {α : Type} (A B C : List α) : (A ++ (B ++ C)).Perm (B ++ (A ++ C)) := by
 rw [← List.append_assoc, ← List.append_assoc]
 exact List.perm_append_comm.append_right C
theorem wo {R : Jm} {a : AcL} (ha : a.In R) (k v : BS) : Nonempty (AcRes R (Vz a.er k v)) := by
 by_cases h : (Vz a.er k v).2 = 0
 ·obtain ⟨h1, h2, h3, h4, h5⟩ := Jn3 h
  rw [h5]
  have hw : (Ko a.slots k v).length ≤ 16 := h4
  exact ⟨⟨⟨a.addr, a.nonce, a.bal, a.code, Ko a.slots k v, some (⟨0, 0, none⟩, (Ko a.slots k v).length)⟩, 0, [(0, .cells (Jtl (Ko a.slots k v)).toArray 0 (0, 0))], Yy ha h2 h3 (by omega) ⟨Nat.le_refl _, fun _ => ⟨rfl, _, 0, (0, 0), List.mem_cons_self, by simp⟩⟩, rfl⟩⟩
 ·have e : (Vz a.er k v) = (a.er, (Vz a.er k v).2) := by
   unfold Vz at h ⊢
   split
   ·rfl
   ·rename_i h1
    rw [if_neg h1] at h
    split
    ·rfl
    ·rename_i h2
     rw [if_neg h2] at h
     split
     ·rfl
     ·rename_i h3
      rw [if_neg h3] at h
      exact absurd rfl h
  exact ⟨⟨a, (Vz a.er k v).2, [], ha, e.symm⟩⟩
structure AcSt (R : Jm) : Type where
  a : AcL
  L : Jm
  ok : a.In (L ++ R)
structure StSt (R : Jm) : Type where
  s : StL
  L : Jm
  ok : s.In (L ++ R)
def AcSt.next {R : Jm} (s : AcSt R) {e : AcE × Int} (x : AcRes (s.L ++ R) e) : AcSt R := ⟨x.a, x.L ++ s.L, by rw [List.append_assoc]; exact x.ok⟩
def StSt.next {R : Jm} (s : StSt R) {L' : Jm} {e : List AcE × Int} (x : StRes (L' ++ (s.L ++ R)) e) : StSt R := ⟨x.s, x.L ++ (L' ++ s.L), by rw [List.append_assoc, List.append_assoc]; exact x.ok⟩
theorem jA (a : AcE) (x : BS × BS) (l : List (BS × BS)) : Qg a (x :: l) = if (Vz a x.1 x.2).2 ≠ 0 then Vz a x.1 x.2 else Qg (Vz a x.1 x.2).1 l := rfl
theorem map_drop {α : Type} (f : Nat → α) {i : Nat} (h : i < 7) : (tab.map f).drop i = f i :: (tab.map f).drop (i + 1) := by
 have : i = 0 ∨ i = 1 ∨ i = 2 ∨ i = 3 ∨ i = 4 ∨ i = 5 ∨ i = 6 := by omega
 rcases this with rfl | rfl | rfl | rfl | rfl | rfl | rfl <;> rfl
theorem wp {a : AcE} {k v : BS} (h : (Vz a k v).2 ≠ 0) : Vz a k v = (a, (Vz a k v).2) := by
 unfold Vz at h ⊢
 split
 ·rfl
 ·rename_i h1
  rw [if_neg h1] at h
  split
  ·rfl
  ·rename_i h2
   rw [if_neg h2] at h
   split
   ·rfl
   ·rename_i h3
    rw [if_neg h3] at h
    exact absurd rfl h
theorem qO {i : Nat} (hi : i < 2) : ([0, 1] : List Int).drop i = (i : Int) :: ([0, 1] : List Int).drop (i + 1) := by
 have : i = 0 ∨ i = 1 := by omega
 rcases this with rfl | rfl <;> rfl
theorem jB (f : Int) (s0 : List AcE) (go : Int → AcE → AcE × Int) (w : Int) (ws : List Int) (t : List AcE) : Vt f s0 go (w :: ws) t = if (KG f w).2 = false then Vt f s0 go ws t else
   if (go w (QO t w)).2 ≠ 0 then (s0, (go w (QO t w)).2) else if (YO t (go w (QO t w)).1).2 ≠ 0 then (s0, (YO t (go w (QO t w)).1).2) else Vt f s0 go ws (YO t (go w (QO t w)).1).1 := rfl
theorem Jaf (s : StL) (w : Int) : AcL.er { Qy s (Qx w) with addr := Qx w } = QO s.er w := by
 unfold QO
 rw [← Jhy]
 rfl
theorem Jdc (w : Int) : (Qx w).length ≤ 512 := by
 unfold Qx
 split
 ·decide
 ·simp
def z32 : List UInt8 := List.replicate 32 0
def pairUp : List (List UInt8) → List (List UInt8)
 | a :: b :: l => W8 (a ++ b) :: pairUp l
 | _ => []
def Qp (l : List (List UInt8)) (z : List UInt8) : List (List UInt8) := if l.length % 2 = 1 then l ++ [z] else l
def V7 : Nat → List (List UInt8) → List UInt8 → List UInt8
 | 0, l, z => l.headD z
 | k + 1, l, z => V7 k (pairUp (Qp l z)) (W8 (z ++ z))
def zt : Nat → List (List UInt8) → List UInt8
 | 0, l => l.headD []
 | k + 1, l => zt k (pairUp l)
theorem Wh : ∀ l : List (List UInt8), (pairUp l).length = l.length / 2
 | [] => by simp [pairUp]
 | [_] => by simp [pairUp]
 | a :: b :: l => by rw [pairUp, List.length_cons, Wh l, List.length_cons, List.length_cons]; omega
theorem wq : ∀ {l m : List (List UInt8)}, l.length % 2 = 0 → pairUp (l ++ m) = pairUp l ++ pairUp m
 | [], m, _ => rfl
 | [_], _, h => by simp at h
 | a :: b :: l, m, h => by
  have h2 : l.length % 2 = 0 := by simp only [List.length_cons] at h; omega
  rw [List.cons_append, List.cons_append, pairUp, pairUp, wq h2, List.cons_append]
theorem wt (z : List UInt8) : ∀ m : Nat, pairUp (List.replicate (2 * m) z) = List.replicate m (W8 (z ++ z))
 | 0 => rfl
 | m + 1 => by rw [show 2 * (m + 1) = 2 * m + 1 + 1 by omega, List.replicate_succ, List.replicate_succ, pairUp, wt z m, List.replicate_succ]
theorem Xp (l : List (List UInt8)) (z : List UInt8) : (Qp l z).length = l.length + l.length % 2 := by
 unfold Qp
 split
 ·rename_i h; rw [List.length_append, h]; rfl
 ·omega
theorem Jfy {l : List (List UInt8)} {z : List UInt8} {n : Nat} (h : l.length ≤ 2 * n) : Qp l z ++ List.replicate (2 * n - (Qp l z).length) z = l ++ List.replicate (2 * n - l.length) z := by
 rw [Xp]
 unfold Qp
 split
 ·rename_i h1
  rw [List.append_assoc, h1]
  congr 1
  rw [show 2 * n - l.length = (2 * n - (l.length + 1)) + 1 by omega, List.replicate_succ]; rfl
 ·rename_i h1
  rw [show l.length % 2 = 0 by omega]; rfl
theorem Jh4 : ∀ (k : Nat) {l : List (List UInt8)} (z : List UInt8), l.length ≤ 2 ^ k → V7 k l z = zt k (l ++ List.replicate (2 ^ k - l.length) z)
 | 0, [], z, _ => rfl
 | 0, [a], z, _ => rfl
 | 0, _ :: _ :: _, z, h => by simp at h
 | k + 1, l, z, h => by
  rw [Nat.pow_succ, Nat.mul_comm] at h
  have h2 := Xp l z
  have hp : (Qp l z).length % 2 = 0 := by rw [h2]; omega
  rw [V7, zt, Nat.pow_succ, Nat.mul_comm, ← Jfy h, wq hp, show 2 * 2 ^ k - (Qp l z).length = 2 * (2 ^ k - (Qp l z).length / 2) by omega, wt]
  rw [Jh4 k (W8 (z ++ z)) (by rw [Wh]; omega), Wh]
theorem ZM (l : List (List UInt8)) : ∀ x ∈ pairUp l, x.length = 32 := by
 induction l using pairUp.induct with
 | case1 a b l ih =>
  intro x hx
  rw [pairUp] at hx
  rcases List.mem_cons.1 hx with hx | hx
  ·rw [hx]; exact Zl _
  ·exact ih x hx
 | case2 l h =>
  intro x hx
  rw [pairUp.eq_2 l h] at hx
  cases hx
theorem Jk6 (k : Nat) : ∀ {l : List (List UInt8)}, l.length = 2 ^ k → (∀ x ∈ l, x.length = 32) → (zt k l).length = 32 := by
 induction k with
 | zero =>
  intro l h1 h2
  match l, h1 with
  | [a], _ => exact h2 a List.mem_cons_self
 | succ k ih =>
  intro l h1 _
  rw [Nat.pow_succ, Nat.mul_comm] at h1
  rw [zt]
  exact ih (by rw [Wh, h1]; omega) (ZM l)
def lg (m : Nat) : Nat := if m ≤ 1 then 0 else Nat.log2 (m - 1) + 1
theorem Jh5 (m : Nat) : m ≤ 2 ^ lg m := by
 unfold lg
 split
 ·simpa using ‹m ≤ 1›
 ·have := @Nat.lt_log2_self (m - 1)
  omega
theorem Jwv {m j : Nat} (h : j < lg m) : 2 ^ j < m := by
 unfold lg at h
 split at h
 ·cases h
 ·have h1 : 2 ^ j ≤ 2 ^ Nat.log2 (m - 1) := Nat.pow_le_pow_right (by decide) (by omega)
  have h2 := Nat.log2_self_le (n := m - 1) (by omega)
  omega
theorem Jz7 {m d : Nat} (h : m ≤ 2 ^ d) : lg m ≤ d := by
 rcases Nat.lt_or_ge d (lg m) with h1 | h1
 ·have := Jwv h1; omega
 ·exact h1
def Jtu (n : Nat) (l : List (List UInt8)) : List (List UInt8) := l ++ List.replicate (n - l.length) z32
def Vj (l : List (List UInt8)) (m : Nat) : List UInt8 := zt (lg m) (Jtu (2 ^ lg m) l)
theorem jC {l : List (List UInt8)} {m : Nat} (h : l.length ≤ m) : V7 (lg m) l z32 = Vj l m := Jh4 _ _ (Nat.le_trans h (Jh5 m))
theorem Joc {n : Nat} {l : List (List UInt8)} (h : l.length ≤ n) : (Jtu n l).length = n := by
 unfold Jtu; rw [List.length_append, List.length_replicate]; omega
theorem Jod {n : Nat} {l : List (List UInt8)} (h : ∀ x ∈ l, x.length = 32) : ∀ x ∈ Jtu n l, x.length = 32 := by
 intro x hx
 rcases List.mem_append.1 hx with hx | hx
 ·exact h x hx
 ·rw [(List.mem_replicate.1 hx).2]; rfl
theorem VJ {l : List (List UInt8)} {m : Nat} (h : l.length ≤ m) (h2 : ∀ x ∈ l, x.length = 32) : (Vj l m).length = 32 := Jk6 _ (Joc (Nat.le_trans h (Jh5 m))) (Jod h2)
section
variable {c : Cx} {l : Kw} {L : Jm} {X : XP} {Q : Exit → Act → World → Prop} {d : List Deferred}
theorem vD {L' : Jm} {code : Code} (hL : L'.Sublist L) (h : HC c d l L' X code Q) : HC c d l L X code Q := fun a w hf hs => h a w hf (hs.weakL hL)
theorem vE {L' : Jm} {K : Act → World → Prop} (hL : L'.Sublist L) (h : HQ c d l L' X K) : HQ c d l L X K := fun a w hf hs => h a w hf (hs.weakL hL)
def Joe {σ : Type} (c : Cx) (DD : σ → List Deferred) (I : σ → Prop) (lI : σ → Kw) (LI : σ → Jm) (XI : σ → XP) (μ : σ → Nat) (s : σ) : Act → World → Prop := fun a w =>
 ∃ s', I s' ∧ μ s' < μ s ∧ Fr c.n (DD s') (lI s') a ∧ St c (LI s') (XI s') w
theorem Jof {σ : Type} {body : Code} (DD : σ → List Deferred) (I : σ → Prop) (lI : σ → Kw) (LI : σ → Jm) (XI : σ → XP) (μ : σ → Nat) (s0 : σ) (hd : DD s0 = d) (h0 : I s0) (hl : LookAll l (lI s0)) (hL : (LI s0).Sublist L) (hX : ∀ xs w, X xs w → XI s0 xs w)
  (hr : ∀ s, I s → HC c (DD s) (lI s) (LI s) (XI s) body (Exit.then (Joe c DD I lI LI XI μ s) Q)) : HC c d l L X (.loop body) Q := fun a w hf hs => by
 have least : ∀ p : Nat → Prop, (∃ m, p m) → ∃ m, p m ∧ ∀ k, p k → m ≤ k := by
  intro p ⟨m, hm⟩
  induction m using Nat.strongRecOn with
  | _ m ih =>
   by_cases hx : ∃ k, k < m ∧ p k
   obtain ⟨k, hk, hp⟩ := hx; exact ih k hk hp
   exact ⟨m, hm, fun k hp => Nat.le_of_not_lt fun hlt => hx ⟨k, hlt, hp⟩⟩
 let p : Act → World → Nat → Prop := fun a w m => ∃ s, I s ∧ Fr c.n (DD s) (lI s) a ∧ St c (LI s) (XI s) w ∧ μ s = m
 have meas : ∃ f : Act → World → Nat, ∀ a w, (∃ m, p a w m) → p a w (f a w) ∧ ∀ k, p a w k → f a w ≤ k := by
  have h1 : ∀ a w, ∃ m, (∃ m, p a w m) → p a w m ∧ ∀ k, p a w k → m ≤ k := fun a w => by
   by_cases hx : ∃ m, p a w m
   obtain ⟨m, hm⟩ := least _ hx; exact ⟨m, fun _ => hm⟩
   exact ⟨0, fun hy => absurd hy hx⟩
  exact ⟨fun a w => Classical.choose (h1 a w), fun a w => Classical.choose_spec (h1 a w)⟩
 obtain ⟨f, hfm⟩ := meas
 refine wpIn_loop (fun a w => ∃ m, p a w m) f ⟨μ s0, s0, h0, hd ▸ hf.weak hl.get, (hs.weakL hL).weakX hX, rfl⟩ ?_
 intro a w hp
 obtain ⟨⟨s, h1, h2, h3, h4⟩, _⟩ := hfm a w hp
 refine wpIn_mono (hr s h1 a w h2 h3) ?_
 intro e a' w' hq
 cases e with
 | normal =>
  obtain ⟨s', g1, g2, g3, g4⟩ := hq
  have hp' : p a' w' (μ s') := ⟨s', g1, g3, g4, rfl⟩
  refine ⟨⟨_, hp'⟩, ?_⟩
  have := (hfm a' w' ⟨_, hp'⟩).2 _ hp'
  omega
 | _ => exact hq
theorem zu {σ : Type} {DD : σ → List Deferred} {I : σ → Prop} {lI : σ → Kw} {LI : σ → Jm} {XI : σ → XP} {μ : σ → Nat} {s : σ} (s' : σ) (hd : DD s' = d) (h1 : I s') (h2 : μ s' < μ s) (h3 : LookAll l (lI s')) (h4 : (LI s').Sublist L) (h5 : ∀ xs w, X xs w → XI s' xs w) :
  HQ c d l L X (Joe c DD I lI LI XI μ s) := fun _ _ hf hs => ⟨s', h1, h2, hd ▸ hf.weak h3.get, (hs.weakL h4).weakX h5⟩
def WB (Ds : List Nat) : Jm := Ds.map fun D => (D, .deferred (some []))
theorem wu {fn : Func} {R : Ending → World → Prop} {P : Program} : ∀ (Ds : List Nat) (h : HQ c d l L X (bodyPostM (FW none) 0 P fn R .ret)), HQ c (Ds.map Wc ++ d) l (WB Ds ++ L) X (bodyPostM (FW none) 0 P fn R .ret)
 | [], h => h
 | D :: Ds, h => KX (k := 0) rfl rfl (vE (List.sublist_cons_self _ _) (wu Ds h))
end
section
variable {c : Cx} {l : Kw} {L : Jm} {X : XP} {Q : Exit → Act → World → Prop} {d : List Deferred}
variable {ops : Array Oper} {rest : List Oper} {i : Nat} {v : Value} {t u : TypeId} {ps : String} {af : Array Edge} {gd : Option (Nat × Bool)} {ty : TypeId}
theorem Jz8 (s : List UInt8) : (bs s).size = s.length := by simp [bs, ByteArray.size]
theorem qP (s : List UInt8) : Lib.strCells (bs s) = s.map bV := rfl
theorem Jfz {x y : Operand} {e : TypeId} {s s2 : List UInt8} {L0 : Jm} {row : QD}
  (hp : L.Perm (JH e (s.map bV) row ++ L0)) (hg : Kj l ops ⟨some i, .call ⟨.builtin .append, #[x, y], #[t, u]⟩, ty, ps, af, gd⟩ = some true) (hi : Nat.ble (i + 1) c.n = true)
  (hx : Kg l x = some (J8 s.length row)) (hy : Kg l y = some (.string (bs s2))) (ht : Kp c.P t = some e) (hu : vR c.P u = true) (hz : Q2 c.P e = some (.int .u8 0)) (hs : KJ c.P e = some 1) (hb : Jb0 c.P e = some 1)
  (ho : rowOk 1 s.length (s.map bV) row) (ho2 : s = [] → row = none) (hlen : s.length + s2.length ≤ 140737488355328)
  (h : ∀ row', rowOk 1 (s ++ s2).length ((s ++ s2).map bV) row' → (s ++ s2 = [] → row' = none) → HL c d ((i, J8 (s ++ s2).length row') :: l) (JH e ((s ++ s2).map bV) row' ++ L0) X ops rest Q) :
  HL c d l L X ops (⟨some i, .call ⟨.builtin .append, #[x, y], #[t, u]⟩, ty, ps, af, gd⟩ :: rest) Q := by
 obtain ⟨inf, hinf, hz', hs', hb'⟩ := vq hz hs hb
 refine Kk hp ?_
 refine V9 (α := { r' : QD // rowOk 1 (s ++ s2).length ((s ++ s2).map bV) r' ∧ (s ++ s2 = [] → r' = none) }) (V := fun p => J8 (s ++ s2).length p.1) (L' := fun p => JH e ((s ++ s2).map bV) p.1 ++ L0) (X' := fun _ => X) hg rfl rfl hi (fun a w hf hst => ?_) (fun p => h p.1 p.2.1 p.2.2)
 have exec : ∀ r w', (Builtin.append_ #[t, u] ty #[J8 s.length row, .string (bs s2)]).run c.P w = .ok r w' →
   (execOp a.eval ⟨some i, .call ⟨.builtin .append, #[x, y], #[t, u]⟩, ty, ps, af, gd⟩).run c.P w = .ok (.value r) w' := fun r w' hr => by
  have ex := hf.eval hx
  have ey := hf.eval hy
  simp [execOp, resolve, Sem.run_bind, ex, ey, Result.andThen, invoke, builtin, hr]
 have hsz := Jz8 s2
 have hsl : (s ++ s2).length = s.length + s2.length := List.length_append
 have hml : ((s ++ s2).map bV).length = s.length + s2.length := by rw [List.length_map, hsl]
 have hz1 : (Value.int IntKind.u8 0).cells.size = 1 := rfl
 have zlen : ∀ n, (Builtin.zeroCells (Value.int IntKind.u8 0).cells n).toList.length = n := fun n => by rw [Array.length_toList, size_zeroCells, hz1, Nat.mul_one]
 cases row with
 | none =>
  obtain ⟨h1, h2⟩ := ho
  have hs0 : s = [] := List.eq_nil_of_length_eq_zero h1
  subst hs0
  cases s2 with
  | nil =>
   refine ⟨⟨none, ⟨rfl, rfl⟩, fun _ => rfl⟩, w, exec _ _ ?_, hst⟩
   have hf2 := Lib.run_firstCells_string (P := c.P) w 1 (bs [])
   have h0 : (bs []).size = 0 := rfl
   rw [h0] at hf2
   simp [Builtin.append_, J8, run_underlying (Kc ht), run_underlying (QT hu), sizeOf, typeInfo, hinf, hs', Builtin.lenOf, h0, hf2]
  | cons b s2 =>
   have hr := run_append_nil_string (P := c.P) w t u ty e inf (.int .u8 0) (Kc ht) (QT hu) hinf hz' (bs (b :: s2)) (by rw [hsz]; simp) (by rw [hsz]; simp at hlen ⊢; omega) (by rw [hsz, hb']; simp at hlen ⊢; omega)
   rw [hsz] at hr
   have hge := grownCap_ge w (b :: s2).length 0 e
   refine ⟨⟨some (w.heap.size, grownCap w (b :: s2).length 0 e, (Builtin.zeroCells (Value.int IntKind.u8 0).cells (grownCap w (b :: s2).length 0 e - (b :: s2).length)).toList), ⟨?_, ?_⟩, fun h0 => by simp at h0⟩, _, exec _ _ hr, ?_⟩
   ·simp
   ·rw [zlen]; simp only [List.nil_append]; omega
   ·have e1 : ((bs (b :: s2)).data.map (fun b => Value.int .u8 b.toNat) ++ Builtin.zeroCells (Value.int IntKind.u8 0).cells (grownCap w (b :: s2).length 0 e - (b :: s2).length)) = ((([] ++ (b :: s2)).map bV) ++ (Builtin.zeroCells (Value.int IntKind.u8 0).cells (grownCap w (b :: s2).length 0 e - (b :: s2).length)).toList).toArray := by
     apply Array.toList_inj.1; simp [bs, bV]
    rw [e1]
    exact hst.drew.alloc _
 | some q =>
  obtain ⟨r, cap, sp⟩ := q
  obtain ⟨h1, h2⟩ := ho
  have hget : w.heap[r]? = some (.cells (s.map bV ++ sp).toArray e (0, 0)) := hst.get (k := 0) rfl
  have hne : s ++ s2 ≠ [] := fun h0 => by have := ho2 (List.append_eq_nil_iff.1 h0).1; cases this
  by_cases hroom : s.length + s2.length ≤ cap
  ·have hr := Lib.run_append_room_string (P := c.P) w t u ty e inf (Kc ht) (QT hu) hinf hs' r s.length cap _ hget (bs s2) (by rw [hsz]; exact hroom) (by rw [hsz]; simp only [List.size_toArray, List.length_append, List.length_map]; omega)
   rw [hsz, qP] at hr
   have e1 : ((s.map bV ++ sp).toArray.toList.take s.length ++ s2.map bV ++ (s.map bV ++ sp).toArray.toList.drop (s.length + s2.length)) = (s ++ s2).map bV ++ sp.drop s2.length := by
    simp only [List.toList_toArray]
    rw [List.take_left' (by simp), List.map_append, ← List.drop_drop, List.drop_left' (by simp)]
   rw [e1] at hr
   have hV : J8 (s ++ s2).length (some (r, cap, sp.drop s2.length)) = .slice (some ⟨r, 0, none⟩) (s.length + s2.length) cap := by rw [J8, hsl]
   refine ⟨⟨some (r, cap, sp.drop s2.length), ⟨?_, ?_⟩, fun h0 => absurd h0 hne⟩, _, exec _ _ (hr.trans (congrArg (fun v => Result.ok v _) hV.symm)), ?_⟩
   ·rw [hml, hsl]; omega
   ·rw [List.length_drop, hsl]; omega
   ·exact hst.set (k := 0) rfl (Keep.setRow r _) (setRow_heap _ _ _ _ _ _ hget)
  ·have holds : ∀ (j : Nat) (x : Value), (s.map bV)[j]? = some x → w.cell? ((⟨r, 0, none⟩ : Addr).add j) = some x := Xc hget (n := s.length) (by simp)
   have hr := Lib.run_append_grow_string (P := c.P) w t u ty e inf (.int .u8 0) (Kc ht) (QT hu) hinf hz' ⟨r, 0, none⟩ s.length cap (s.map bV) (by rw [hs']; simp) holds (bs s2) (by rw [hsz]; omega) (by rw [hsz]; omega) (by rw [hsz, hb']; exact growslice_fits (by omega) (by omega))
   rw [hsz, qP] at hr
   have hge := grownCap_ge w (s.length + s2.length) cap e
   refine ⟨⟨some (w.heap.size, grownCap w (s.length + s2.length) cap e, (Builtin.zeroCells (Value.int IntKind.u8 0).cells (grownCap w (s.length + s2.length) cap e - (s.length + s2.length))).toList), ⟨?_, ?_⟩, fun h0 => absurd h0 hne⟩, _, exec _ _ (hr.trans (congrArg (fun v => Result.ok v _) (show _ = J8 (s ++ s2).length (some (w.heap.size, grownCap w (s.length + s2.length) cap e, (Builtin.zeroCells (Value.int IntKind.u8 0).cells (grownCap w (s.length + s2.length) cap e - (s.length + s2.length))).toList)) from by rw [J8, hsl]))), ?_⟩
   ·rw [hml, hsl]; omega
   ·rw [zlen, hsl]; omega
   ·have e1 : ((s.map bV).toArray ++ (s2.map bV).toArray ++ Builtin.zeroCells (Value.int IntKind.u8 0).cells (grownCap w (s.length + s2.length) cap e - (s.length + s2.length))) = ((s ++ s2).map bV ++ (Builtin.zeroCells (Value.int IntKind.u8 0).cells (grownCap w (s.length + s2.length) cap e - (s.length + s2.length))).toList).toArray := by
     apply Array.toList_inj.1; simp
    rw [e1]
    exact (hst.drew.weakL (List.sublist_cons_self _ _)).alloc _
theorem Keep.freeze {w : World} (r n : Nat) : Keep [r] w (w.freeze ⟨r, 0, none⟩ n) := by
 unfold World.freeze
 split
 ·exact Keep.refl _ _
 ·exact ⟨rfl, rfl, rfl, by simp, fun k _ hn => by
   simp only [Array.getElem?_modify]
   rw [if_neg (by intro e; exact hn (by simp [e]))]⟩
theorem Jdd {w : World} {r n : Nat} {cs : Array Value} {e : TypeId} {fr : Nat × Nat} (h : w.heap[r]? = some (.cells cs e fr)) : ∃ fr', (w.freeze ⟨r, 0, none⟩ n).heap[r]? = some (.cells cs e fr') := by
 unfold World.freeze
 split
 ·exact ⟨fr, h⟩
 ·obtain ⟨lo, hi⟩ := fr
  obtain ⟨hlt, he⟩ := Array.getElem?_eq_some_iff.1 h
  refine ⟨if lo == hi then (0, 0 + n) else (min lo 0, max hi (0 + n)), ?_⟩
  show (w.heap.modify r _)[r]? = _
  rw [Array.getElem?_eq_getElem (by rw [Array.size_modify]; exact hlt), Array.getElem_modify_self, he]
def Jde : QD → Value
 | none => .pointer none
 | some (r, _, _) => .pointer (some ⟨r, 0, none⟩)
theorem Jag {x : Operand} {row : QD} {n : Nat} (hx : Kg l x = some (J8 n row)) (hc : ∀ r cap sp, row = some (r, cap, sp) → cap ≠ 0) :
  J9 c d l L X ⟨some i, .call ⟨.builtin .unsafeSliceData, #[x], #[t]⟩, ty, ps, af, gd⟩ (Jde row) := fun a w hf _ => by
 have ex := hf.eval hx
 cases row with
 | none =>
  have hr := Lib.run_unsafeSliceData_nil (P := c.P) w #[t] ty 0 0
  simp only [J8] at ex
  simp [execOp, resolve, Sem.run_bind, ex, Result.andThen, invoke, builtin, hr, Jde]
 | some q =>
  obtain ⟨r, cap, sp⟩ := q
  have hr := Lib.run_unsafeSliceData_row (P := c.P) w #[t] ty ⟨r, 0, none⟩ n cap (hc r cap sp rfl)
  simp only [J8] at ex
  simp [execOp, resolve, Sem.run_bind, ex, Result.andThen, invoke, builtin, hr, Jde]
def qQ (P : Program) (t : TypeId) : Option TypeId := match P.underlying t with | some (.pointer e) => some e | _ => none
theorem Zo {P : Program} {t e : TypeId} (h : qQ P t = some e) : P.underlying t = some (.pointer e) := by
 unfold qQ at h; split at h <;> simp_all
theorem vi {x y : Operand} {e pt it : TypeId} {s : List UInt8} {L0 : Jm} {row : QD}
  (hp : L.Perm (JH e (s.map bV) row ++ L0)) (hg : Kj l ops ⟨some i, .call ⟨.builtin .unsafeString, #[x, y], #[pt, it]⟩, ty, ps, af, gd⟩ = some true) (hi : Nat.ble (i + 1) c.n = true)
  (hx : Kg l x = some (Jde row)) (hy : Kg l y = some (.int .i64 (s.length : Int))) (ht : qQ c.P pt = some e) (hc : c.P.cellsOf e = 1)
  (ho : rowOk 1 s.length (s.map bV) row) (ho2 : s = [] → row = none) (hlen : s.length ≤ 9223372036854775807)
  (h : HL c d ((i, .string (bs s)) :: l) L0 X ops rest Q) : HL c d l L X ops (⟨some i, .call ⟨.builtin .unsafeString, #[x, y], #[pt, it]⟩, ty, ps, af, gd⟩ :: rest) Q := by
 refine Kk hp ?_
 refine V9 (α := Unit) (V := fun _ => .string (bs s)) (L' := fun _ => L0) (X' := fun _ => X) hg rfl rfl hi (fun a w hf hst => ?_) (fun _ => h)
 have exec : ∀ r w', (Builtin.unsafeString_ #[pt, it] ty #[Jde row, .int .i64 s.length]).run c.P w = .ok r w' →
   (execOp a.eval ⟨some i, .call ⟨.builtin .unsafeString, #[x, y], #[pt, it]⟩, ty, ps, af, gd⟩).run c.P w = .ok (.value r) w' := fun r w' hr => by
  have ex := hf.eval hx
  have ey := hf.eval hy
  simp [execOp, resolve, Sem.run_bind, ex, ey, Result.andThen, invoke, builtin, hr]
 cases row with
 | none =>
  obtain ⟨h1, _⟩ := ho
  have hs0 : s = [] := List.eq_nil_of_length_eq_zero h1
  subst hs0
  exact ⟨(), w, exec _ _ (Lib.run_unsafeString_none (P := c.P) w pt it ty none), hst⟩
 | some q =>
  obtain ⟨r, cap, sp⟩ := q
  obtain ⟨h1, h2⟩ := ho
  have hget : w.heap[r]? = some (.cells (s.map bV ++ sp).toArray e (0, 0)) := hst.get (k := 0) rfl
  have hne : s ≠ [] := fun h0 => by have := ho2 h0; cases this
  have hcell : ∀ (j : Nat) (x : UInt8), s[j]? = some x → w.cell? ((⟨r, 0, none⟩ : Addr).add j) = some (.int .u8 x.toNat) := fun j x hx => by
   rw [ji, Vo hget]
   rw [Nat.zero_add, ← Array.getElem?_toList]
   simp only [List.toList_toArray]
   rw [List.getElem?_append_left (by rw [List.length_map]; exact (List.getElem?_eq_some_iff.1 hx).1), List.getElem?_map, hx]; rfl
  have hr := Lib.run_unsafeString_row (P := c.P) w pt it ty e (Zo ht) hc r (s.map bV ++ sp).length (by simp [World.shape?, hget]) s hne (by simp) hlen hcell
  obtain ⟨fr', hfr⟩ := Jdd (n := s.length) hget
  exact ⟨(), _, exec _ _ hr, (hst.set (k := 0) rfl (Keep.freeze r s.length) hfr).weakL (List.sublist_cons_self _ _)⟩
end
section
variable {c : Cx} {l : Kw} {L : Jm} {X : XP} {d : List Deferred}
variable {i : Nat} {v : Value} {t u : TypeId} {ps : String} {af : Array Edge} {gd : Option (Nat × Bool)} {ty t2 : TypeId}
def Jtv (P : Program) (t : TypeId) : Bool := match P.underlying t with | some .unsafePointer => true | _ => false
theorem Jh6 {P : Program} {t : TypeId} (h : Jtv P t = true) : P.underlying t = some .unsafePointer := by
 unfold Jtv at h; split at h <;> simp_all
theorem jD {P : Program} {t : TypeId} {sz : Nat} (h : KJ P t = some sz) : ∃ inf, P.info? t = some inf ∧ inf.size = sz := by
 unfold KJ at h
 cases hq : P.info? t with
 | none => simp [hq] at h
 | some inf => simp only [hq, Option.some.injEq] at h; exact ⟨inf, rfl, h⟩
theorem Jf0 {x : Operand} {r sz e : Nat} {src dst tt : TypeId} {cs : Array Value} {fr : Nat × Nat} (hx : Kg l x = some (.pointer (some ⟨r, 0, none⟩))) (hk : known c L r (.cells cs e fr)) (hs : qQ c.P src = some tt) (hd : Jtv c.P dst = true) (ht : KJ c.P tt = some sz) (h0 : 0 < sz) (hc : 0 < cs.size) :
  J9 c d l L X ⟨some i, .convert src dst x, ty, ps, af, gd⟩ (.pointer (some ⟨r, 0, none⟩)) := fun a w hf hst => by
 obtain ⟨inf, hinf, hsz⟩ := jD ht
 have h := hst.known hk
 simp only [execOp]
 rw [hf.eval hx]
 have := Lib.run_to_unsafe (P := c.P) w (e := e) (cells := cs.size) ⟨r, 0, none⟩ (Zo hs) (Jh6 hd) hinf (by omega) (by simp [World.shape?, h]) hc
 simp only [Sem.run_bind, this]; rfl
theorem Jah {x : Operand} {r sz e : Nat} {src dst tt : TypeId} {cs : Array Value} {fr : Nat × Nat} (hx : Kg l x = some (.pointer (some ⟨r, 0, none⟩))) (hk : known c L r (.cells cs e fr)) (hs : Jtv c.P src = true) (hd : qQ c.P dst = some tt) (ht : KJ c.P tt = some sz) (hl : liesAt c.P c.P.depth e (cs.size / c.P.cellsOf e) 0 tt 1 = true) :
  J9 c d l L X ⟨some i, .convert src dst x, ty, ps, af, gd⟩ (.pointer (some ⟨r, 0, none⟩)) := fun a w hf hst => by
 obtain ⟨inf, hinf, hsz⟩ := jD ht
 have h := hst.known hk
 simp only [execOp]
 rw [hf.eval hx]
 have := Lib.run_from_unsafe (P := c.P) w (e := e) (cells := cs.size) ⟨r, 0, none⟩ (Jh6 hs) (Zo hd) hinf (by simp [World.shape?, h]) hl
 simp only [Sem.run_bind, this]; rfl
theorem Jf1 {x f : Operand} {v : Value} {g : FuncId} {fn : Func} {at_ : Array TypeId} (hf : Kg l f = some (.func (.func g) #[] #[])) (hx : Kg l x = some v)
  (hF : c.P.funcs[g]? = some fn) (hn1 : (fn.name == "runtime.NumGoroutine") = false) (hb : fn.body.isNone = true) (hn2 : Extern.findNext fn = none) (he : Extern.find fn = some Extern.AbiNoEscape.same) :
  J9 c d l L X ⟨some i, .call ⟨.value f, #[x], at_⟩, ty, ps, af, gd⟩ v := fun a w hfr hst => by
 have ef := hfr.eval hf
 have ex := hfr.eval hx
 have hcf : (callFunc g #[v]).run c.P w = .ok (.value v) w := by
  rw [run_callFunc_extern hF hn1 hb hn2 he, Lib.run_noEscape]; rfl
 simp [execOp, resolve, Sem.run_bind, ef, ex, Deferred.ofValue, Result.andThen, invoke, hcf]
theorem Jog {x y : Operand} {q : Addr} {sz : Nat} {tt : TypeId} (hx : Kg l x = some (.pointer (some q))) (hy : Kg l y = some (.pointer (some q))) (ht : qQ c.P t = some tt) (hs : KJ c.P tt = some sz) :
  J9 c d l L X ⟨some i, .binOp .neq t x y t2, ty, ps, af, gd⟩ (.bool false) := fun a w hf _ => by
 obtain ⟨inf, hinf, hsz⟩ := jD hs
 simp only [execOp]
 rw [hf.eval hx, hf.eval hy]
 have := Lib.run_neq_ptr_same (P := c.P) w q (Zo ht) hinf
 simp [eqGuard, Sem.run_bind, this, Result.andThen]
theorem Joh {x y : Operand} {tt : TypeId} {sz : Nat} (hx : Kg l x = some (.pointer none)) (hy : Kg l y = some (.pointer none)) (ht : qQ c.P t = some tt) (hs : KJ c.P tt = some sz) :
  J9 c d l L X ⟨some i, .binOp .eql t x y t2, ty, ps, af, gd⟩ (.bool true) := fun a w hf _ => by
 obtain ⟨inf, hinf, hsz⟩ := jD hs
 have h : ∀ d : Nat, (Op.equalIn (d + 1) t (.pointer none) (.pointer none)).run c.P w = .ok true w := fun d => by
  simp [Op.equalIn, run_underlying (Zo ht), sizeOf, typeInfo, hinf]
 simp only [execOp]
 rw [hf.eval hx, hf.eval hy]
 simp only [binOp]
 simp [eqGuard, Op.equal, Op.maxDepth, h 9999, Sem.run_bind, Result.andThen]
theorem Joi {x y : Operand} {q : Addr} {tt : TypeId} {sz : Nat} (hx : Kg l x = some (.pointer (some q))) (hy : Kg l y = some (.pointer none)) (ht : qQ c.P t = some tt) (hs : KJ c.P tt = some sz) :
  J9 c d l L X ⟨some i, .binOp .eql t x y t2, ty, ps, af, gd⟩ (.bool false) := fun a w hf _ => by
 obtain ⟨inf, hinf, hsz⟩ := jD hs
 have h : ∀ d : Nat, (Op.equalIn (d + 1) t (.pointer (some q)) (.pointer none)).run c.P w = .ok false w := fun d => by
  simp [Op.equalIn, run_underlying (Zo ht), sizeOf, typeInfo, hinf]
 simp only [execOp]
 rw [hf.eval hx, hf.eval hy]
 simp only [binOp]
 simp [eqGuard, Op.equal, Op.maxDepth, h 9999, Sem.run_bind, Result.andThen]
end
def J1w (v : Value) : List PanicEntry := [{ v, recovered := false }]
structure PureX {α : Type} (P : Program) (f : FuncId) (args : Array Value) (ok : Prop) (bad : Value → Prop) (V : α → Value) (LL : α → Jm) (Rl : Jm) : Prop where
  run : ∀ w, Has Rl w → Calls P f args w fun e w' => (ok ∧ ∃ x, e = .returned (V x) ∧ Keep [] w w' ∧ (∀ p ∈ LL x, w.heap.size ≤ p.1 ∧ w'.heap[p.1]? = some p.2) ∧ (LL x).Pairwise fun p q => p.1 ≠ q.1) ∨ (∃ v, bad v ∧ e = .panicked (J1w v) ∧ Keep [] w w')
theorem PureX.mono {α : Type} {P : Program} {f : FuncId} {args : Array Value} {ok ok' : Prop} {bad bad' : Value → Prop} {V : α → Value} {LL : α → Jm} {Rl : Jm} (h : PureX P f args ok bad V LL Rl) (h1 : ok → ok') (h2 : ∀ v, bad v → bad' v) : PureX P f args ok' bad' V LL Rl :=
 ⟨fun w hR => (h.run w hR).mono fun _ _ h => h.imp (fun ⟨a, b⟩ => ⟨h1 a, b⟩) (fun ⟨v, a, b⟩ => ⟨v, h2 v a, b⟩)⟩
theorem PureX.map {α β : Type} {P : Program} {f : FuncId} {args : Array Value} {ok : Prop} {bad : Value → Prop} {V : α → Value} {LL : α → Jm} {V' : β → Value} {LL' : β → Jm} {Rl : Jm} (h : PureX P f args ok bad V LL Rl) (g : α → β) (hv : ∀ x, V x = V' (g x)) (hl : ∀ x, (LL' (g x)).Sublist (LL x)) : PureX P f args ok bad V' LL' Rl :=
 ⟨fun w hR => (h.run w hR).mono fun _ _ h => h.imp (fun ⟨a, x, he, hk, h1, h2⟩ => ⟨a, g x, he.trans (by rw [hv]), hk, fun p hp => h1 p ((hl x).subset hp), h2.sublist (hl x)⟩) id⟩
theorem PureX.toT {α : Type} {P : Program} {f : FuncId} {args : Array Value} {ok : Prop} {bad : Value → Prop} {V : α → Value} {LL : α → Jm} {Rl : Jm} (h : PureX P f args ok bad V LL Rl) (hb : ∀ v, ¬ bad v) : PureT P f args V [] LL Rl :=
 ⟨fun w _ hR _ _ => (h.run w hR).mono fun _ _ h => h.elim (fun ⟨_, x, he, hk, h1, h2⟩ => ⟨x, he, hk, fun p hp => ⟨.inr (h1 p hp).1, (h1 p hp).2⟩, h2⟩) (fun ⟨v, hv, _⟩ => absurd hv (hb v))⟩
end Go.SL
