import Derived.Test.YtckoepmdmhdepaaGreatDoorZtStablea
import Derived.Laws.Small
import Derived.Laws.IdiomStrings
import Derived.Lib.AppendStr
import Derived.Lib.UnsafeStr
import Derived.Lib.Builder
import Derived.ProofKit
import Derived.OpenShut
import Derived.ShutString
import Derived.ChangeOld
import Derived.Below
import Derived.Carry
import Derived.ChangeArms
import Derived.Lib.Overlaps
import Derived.Lib.AppendZerosOnto
import Derived.Laws.StructEq
import Derived.RecoverIn
import Derived.Test.YtckoepmdmhdepaaGreatDoorProg
import Derived.Laws.Externs
import Derived.Shelf.Spec.BitsCarry
import Derived.Shelf.Strings.Builder1
import Derived.Shelf.Strings.Builder2
import Derived.Shelf.Strings.OnBuilder
import Derived.Shelf.Strings.Trim
import Derived.Shelf.Small.Utf8
import Derived.Shelf.Small.Strs
import Derived.Shelf.Small.Wraps
import Derived.Shelf.Strings.BuilderF
import Derived.Shelf.Strings.BuilderK
import Derived.Shelf.Strings.Builder2Cap
import Derived.Shelf.Strings.Search1
import Derived.Shelf.Strings.Prefix
import Derived.Shelf.Unicode.Decode
import Derived.Shelf.Strings.Runes
import Derived.Shelf.Strings.AsciiSet
import Derived.Shelf.Bits.Mul64
import Derived.Shelf.Strings.Repeat
import Derived.Shelf.Unicode.DecodeSlow
import Derived.Shelf.Unicode.DecodeAny
import Derived.Shelf.Strings.BuilderCap
import Derived.Shelf.Slices.Turned
import Derived.Shelf.Slices.Equal
import Derived.Ground.Names2Prog
import Derived.Shelf.Slices.SearchI
import Derived.Shelf.Slices.Empties2
open Go.Proofs (Enters enters_of)
open Go.Proofs.Tryz (prog)
set_option maxRecDepth 100000
namespace Go.SL
set_option linter.all false
open Go.RowKit Go.Shelf
open Go.Proofs (Enters enters_of)
variable {a a' : Act} {K' : Act → World → Prop} {af : Array Edge} {fs : Array Field} {es : Array MapEntry} {ops : Array Oper} {args : Array Operand} {at_ : Array TypeId} {cs cs' cs2 : Array Value} {op : BinOp} {code : Code} {τ : Type} {E : Code → τ → Prop} {c : Cx} {R : Ending → World → Prop} {Q Q' : Exit → Act → World → Prop} {c₀ : Frame} {u' : FrameMode} {fn : Func} {g : FuncId} {z : Int} {A B E' L L' L0 R' Rl : J3} {K : J3 → Act → Prop} {T : J3 → Array Bool → Act → Prop} {pa : List (Nat × Operand)} {d : List Deferred} {ts : List Nat} {rest tail : List Oper} {ch : List PanicEntry} {rs : List ResultVar} {caps vs ys zs : List Value} {b0 cap clock fuel i id j m off off' q r sz : Nat} {fr : Nat × Nat} {ob : Obj} {o oi : Oper} {f x y : Operand} {gd : Option (Nat × Bool)} {dst ro : Option Nat} {P : Program} {row : QZ} {ps : String} {α : Type} {e kt src t tt ty : TypeId} {v v' : Value} {bad dom : Value → Prop} {eq : Value → Value → Bool} {w w' : World} {X : XP} {x0 : α} {pr : α → Bool} {LL : α → J3} {V : α → Value} {X' : α → XP}
def uV (n : Nat) : Value := .int .u64 (n : Int)
def wV (l : List Nat) : Value := .agg (l.map uV).toArray
def WOk (l : List Nat) : Prop := l.length = 4 ∧ ∀ x ∈ l, x < 18446744073709551616
def dg (l : List Nat) (i : Nat) : Nat := l.getD (i / 8) 0 / 2 ^ (i % 8 * 8) % 256
theorem Jmm (l : List Nat) (i : Nat) : dg l i < 256 := Nat.mod_lt _ m7
theorem j0 {l : List Nat} (h : j < l.length) : (l.map uV)[j]? = some (.int .u64 ((l.getD j 0 : Nat) : Int)) := by
 simp [h, uV, List.getD_eq_getElem?_getD]
theorem WOk.get {l : List Nat} (h : WOk l) (j : Nat) : l.getD j 0 < 18446744073709551616 := by
 by_cases hj : j < l.length
 ·have : l.getD j 0 ∈ l := by simp [List.getD_eq_getElem?_getD, hj]
  exact h.2 _ this
 ·simp [List.getD_eq_getElem?_getD, List.getElem?_eq_none (Nat.le_of_not_lt hj)]
def pw (f : Nat → Nat) (j : Nat) : Nat → Nat
 | 0 => 0
 | m + 1 => pw f j m + f (8 * j + m) * 2 ^ (m * 8)
theorem Jmn {f : Nat → Nat} (hf : ∀ i, f i < 256) (j : Nat) : ∀ m, pw f j m < 2 ^ (m * 8)
 | 0 => by simp [pw]
 | m + 1 => by
  have h1 := Jmn hf j m
  have h2 := hf (8 * j + m)
  have e : 2 ^ ((m + 1) * 8) = 256 * 2 ^ (m * 8) := by rw [Nat.add_mul, Nat.pow_add, Nat.mul_comm]
  rw [e]
  unfold pw
  have h3 : f (8 * j + m) * 2 ^ (m * 8) ≤ 255 * 2 ^ (m * 8) := Nat.mul_le_mul_right _ m3
  omega
def vy (f : Nat → Nat) (i : Nat) : List Nat := [pw f 0 (min 8 i), pw f 1 (min 8 (i - 8)), pw f 2 (min 8 (i - 16)), pw f 3 (min 8 (i - 24))]
theorem Jhh (f : Nat → Nat) (h : i < 32) : (vy f i).getD (i / 8) 0 = pw f (i / 8) (i % 8) := by
 have hq : i / 8 = 0 ∨ i / 8 = 1 ∨ i / 8 = 2 ∨ i / 8 = 3 := by omega
 rcases hq with e | e | e | e <;> rw [e] <;> simp only [vy, List.getD_cons_zero, List.getD_cons_succ] <;> congr 1 <;> omega
theorem Jmo (f : Nat → Nat) (h : i < 32) : (vy f i).set (i / 8) ((vy f i).getD (i / 8) 0 + f i * 2 ^ (i % 8 * 8)) = vy f (i + 1) := by
 rw [Jhh f h]
 have hq : i / 8 = 0 ∨ i / 8 = 1 ∨ i / 8 = 2 ∨ i / 8 = 3 := by omega
 have hst : pw f (i / 8) (i % 8) + f i * 2 ^ (i % 8 * 8) = pw f (i / 8) (i % 8 + 1) := by
  show _ = pw f (i / 8) (i % 8) + f (8 * (i / 8) + i % 8) * 2 ^ (i % 8 * 8)
  rw [Nat.div_add_mod]
 rw [hst]
 have keep : ∀ j a b, a = b → pw f j a = pw f j b := fun j a b e => by rw [e]
 rcases hq with e | e | e | e <;> rw [e] <;> simp only [vy, List.set_cons_zero, List.set_cons_succ, List.cons.injEq, and_true] <;>
  refine ⟨keep _ _ _ m3, keep _ _ _ m3, keep _ _ _ m3, keep _ _ _ m3⟩
theorem Jhi (f : Nat → Nat) (i : Nat) : (vy f i).length = 4 := rfl
theorem Jmp {f : Nat → Nat} (hf : ∀ i, f i < 256) (i : Nat) : WOk (vy f i) := by
 refine ⟨rfl, fun x hx => ?_⟩
 have hb : ∀ j m, m ≤ 8 → pw f j m < 18446744073709551616 := fun j m hm =>
  Nat.lt_of_lt_of_le (Jmn hf j m) (show 2 ^ (m * 8) ≤ 2 ^ 64 from Nat.pow_le_pow_right m7 m3)
 simp only [vy, F', List.not_mem_nil, or_false] at hx
 rcases hx with rfl | rfl | rfl | rfl <;> exact hb _ _ (Nat.min_le_left _ _)
theorem zd {f g : Nat → Nat} (h : ∀ i, i < 32 → f i = g i) : vy f 32 = vy g 32 := by
 have key : ∀ j, j < 4 → ∀ m, m ≤ 8 → pw f j m = pw g j m := by
  intro j hj m
  induction m with
  | zero => intro _; rfl
  | succ m ih =>
   intro hm
   simp only [pw]
   rw [ih m3, h (8 * j + m) m3]
 simp only [vy]
 rw [key 0 m7 _ (Nat.min_le_left _ _), key 1 m7 _ (Nat.min_le_left _ _), key 2 m7 _ (Nat.min_le_left _ _), key 3 m7 _ (Nat.min_le_left _ _)]
def QB (l : List Nat) : Nat → List UInt8
 | 0 => []
 | m + 1 => UInt8.ofNat (dg l m) :: QB l m
theorem Q7 (l : List Nat) : ∀ n, (QB l n).length = n
 | 0 => rfl
 | n + 1 => by simp [QB, Q7 l n]
theorem xF (l : List Nat) : ∀ {n m : Nat}, m < n → (QB l n)[m]? = some (UInt8.ofNat (dg l (n - 1 - m)))
 | 0, m, h => by omega
 | n + 1, 0, h => by simp [QB]
 | n + 1, m + 1, h => by
  have := xF l (n := n) (m := m) m3
  simp only [QB, List.getElem?_cons_succ, this]
  congr 3; omega
theorem Jhj (z v : α) (t : List α) (m : Nat) : (List.replicate (m + 1) z ++ t).set m v = List.replicate m z ++ v :: t := by
 induction m with
 | zero => rfl
 | succ m ih => rw [List.replicate_succ, List.cons_append, List.set_cons_succ, ih]; rfl
theorem xG {a b n : Nat} (h : a < 2 ^ n) : a ||| b * 2 ^ n = a + b * 2 ^ n := by
 rw [Nat.or_comm, ← Nat.shiftLeft_eq, ← Nat.shiftLeft_add_eq_or_of_lt h, Nat.add_comm]
theorem Jhk {a n : Nat} (h : a < 256) (hn : n ≤ 56) : a * 2 ^ n < 18446744073709551616 := by
 have h1 : 2 ^ n ≤ 2 ^ 56 := Nat.pow_le_pow_right m7 hn
 have h2 : a * 2 ^ n ≤ 255 * 2 ^ 56 := Nat.mul_le_mul m3 h1
 exact Nat.lt_of_le_of_lt h2 m7
theorem Jhl {a n : Nat} (h : a * 2 ^ n < 18446744073709551616) : IntKind.u64.wrap ((a : Int) * ((2 ^ n : Nat) : Int)) = ((a * 2 ^ n : Nat) : Int) := by
 rw [← Int.natCast_mul]; exact wrap_u64 m3 m3
theorem Jsu (a b : Nat) : Int.tmod (a : Int) (b : Int) = ((a % b : Nat) : Int) := rfl
theorem xH (a n : Nat) : (a : Int) / ((2 ^ n : Nat) : Int) = ((a / 2 ^ n : Nat) : Int) := rfl
theorem Jmq {l m : List Nat} {x : Nat} (h : l.set j x = m) : (l.map uV).set j (uV x) = m.map uV := by rw [← h, List.map_set]
theorem Jhm {n : Nat} (h : n < 256) : Value.int .u8 (IntKind.u8.wrap (n : Int)) = bV (UInt8.ofNat n) := by
 rw [Jhb m3 m3, Jhe h]
theorem j3 (q : Nat) : Value.int .u8 (IntKind.u8.wrap (q : Int)) = bV (UInt8.ofNat (q % 256)) := by
 rw [← Jhe (Nat.mod_lt _ m7)]
 congr 1
def qp (s : List UInt8) : List Nat := vy (fun t => (s.getD (31 - t) 0).toNat) 32
theorem V6 (b : UInt8) : b.toNat < 256 := b.toNat_lt
theorem xI (s : List UInt8) : WOk (qp s) := Jmp (fun _ => V6 _) 32
def zW : List Nat := [0, 0, 0, 0]
def ZI (s : List UInt8) : List Nat × Int := if s.length = 32 then (qp s, 0) else (zW, 2)
def Jkc (p : List Nat × Int) : Value := .tuple #[wV p.1, .int .i64 p.2]
def crS (F G : Nat → Nat → Nat → Nat) (a b : List Nat) : Nat → List Nat × Nat
 | 0 => (zW, 0)
 | i + 1 => ((crS F G a b i).1.set i (F (a.getD i 0) (b.getD i 0) (crS F G a b i).2), G (a.getD i 0) (b.getD i 0) (crS F G a b i).2)
theorem Jho (F G : Nat → Nat → Nat → Nat) (a b : List Nat) : ∀ i, (crS F G a b i).1.length = 4
 | 0 => rfl
 | i + 1 => by simp [crS, Jho F G a b i]
def crR (F G : Nat → Nat → Nat → Nat) (a b : List Nat) : List Nat × Int := if (crS F G a b 4).2 = 0 then ((crS F G a b 4).1, 0) else (zW, 6)
structure Car (P : Program) (g : FuncId) (F G : Nat → Nat → Nat → Nat) : Prop where
  run : ∀ x y c w, c ≤ 1 → (callFunc g [uV x, uV y, uV c].toArray).run P w = .ok (.value (.tuple #[uV (F x y c), uV (G x y c)])) w
  lt : ∀ x y c, F x y c < 18446744073709551616
  le : ∀ x y c, x < 18446744073709551616 → y < 18446744073709551616 → c ≤ 1 → G x y c ≤ 1
theorem zk (h : P.underlying e = some (.int .u64)) (l : List Nat) : (l.map uV).all (Wq P e) = true := by
 simp [List.all_map, List.all_eq_true, uV, Wq, h]
theorem Jhp : ∀ {a b : List Nat}, a.length = b.length → Qs (a.map uV) (b.map uV) = decide (a = b)
 | [], [], _ => by simp [Qs]
 | x :: a, y :: b, h => by
  have ih := Jhp (a := a) (b := b) Mq
  simp only [List.map_cons, Qs, ih, uV, ZG]
  by_cases h1 : x = y <;> by_cases h2 : a = b <;> simp [h1, h2]
  all_goals omega
def wN (l : List Nat) : Nat := l.getD 0 0 + 18446744073709551616 * (l.getD 1 0 + 18446744073709551616 * (l.getD 2 0 + 18446744073709551616 * l.getD 3 0))
theorem WOk.four {l : List Nat} (h : WOk l) : ∃ a b c d, l = [a, b, c, d] ∧ a < 18446744073709551616 ∧ b < 18446744073709551616 ∧ c < 18446744073709551616 ∧ d < 18446744073709551616 := by
 obtain ⟨h1, h2⟩ := h
 match l, h1 with
 | [a, b, c, d], _ => exact ⟨a, b, c, d, rfl, h2 a mf, h2 b mf, h2 c mf, h2 d mf⟩
theorem Jz9 {l : List Nat} (h : WOk l) : wN l < 115792089237316195423570985008687907853269984665640564039457584007913129639936 := by
 obtain ⟨a, b, c, d, rfl, h1, h2, h3, h4⟩ := h.four
 simp only [wN, List.getD_cons_zero, List.getD_cons_succ]
 omega
theorem Jxk {l m : List Nat} (h : WOk l) (k : WOk m) (e : wN l = wN m) : l = m := by
 obtain ⟨a, b, c, d, rfl, h1, h2, h3, h4⟩ := h.four
 obtain ⟨a', b', c', d', rfl, k1, k2, k3, k4⟩ := k.four
 simp only [wN, List.getD_cons_zero, List.getD_cons_succ] at e
 have e1 : a = a' := by omega
 have e2 : b = b' := by omega
 have e3 : c = c' := by omega
 have e4 : d = d' := by omega
 rw [e1, e2, e3, e4]
def sm (f : Nat → Nat) : Nat → Nat
 | 0 => 0
 | i + 1 => sm f i + f i * 2 ^ (8 * i)
theorem J17 {x : Nat} (h : x < 18446744073709551616) : x / 1 % 256 * 1 + x / 256 % 256 * 256 + x / 65536 % 256 * 65536 + x / 16777216 % 256 * 16777216 + x / 4294967296 % 256 * 4294967296 + x / 1099511627776 % 256 * 1099511627776 + x / 281474976710656 % 256 * 281474976710656 + x / 72057594037927936 % 256 * 72057594037927936 = x := by omega
theorem Jhq {l : List Nat} (h : WOk l) (hj : j < 4) : pw (dg l) j 8 = l.getD j 0 := by
 have hx := J17 (h.get j)
 simp only [pw, dg]
 have e : ∀ u, u < 8 → (8 * j + u) / 8 = j ∧ (8 * j + u) % 8 = u := fun u hu => ⟨by omega, by omega⟩
 rw [(e 0 m7).1, (e 0 m7).2, (e 1 m7).1, (e 1 m7).2, (e 2 m7).1, (e 2 m7).2, (e 3 m7).1, (e 3 m7).2, (e 4 m7).1, (e 4 m7).2, (e 5 m7).1, (e 5 m7).2, (e 6 m7).1, (e 6 m7).2, (e 7 m7).1, (e 7 m7).2]
 simp only [Nat.reduceMul, Nat.reducePow, Nat.zero_add]
 exact hx
theorem Jwd {l : List Nat} (h : WOk l) : vy (dg l) 32 = l := by
 obtain ⟨a, b, c, d, rfl, h1, h2, h3, h4⟩ := h.four
 have e : vy (dg [a, b, c, d]) 32 = [pw (dg [a, b, c, d]) 0 8, pw (dg [a, b, c, d]) 1 8, pw (dg [a, b, c, d]) 2 8, pw (dg [a, b, c, d]) 3 8] := rfl
 rw [e, Jhq h m7, Jhq h m7, Jhq h m7, Jhq h m7]
 rfl
def Jfb (x y c : Nat) : Nat := (x + y + c) % 18446744073709551616
def Jfc (x y c : Nat) : Nat := (x + y + c) / 18446744073709551616
def XO (a b : List Nat) : List Nat × Int := crR Jfb Jfc a b
theorem wi (l : List Nat) : (l.map uV).all VU = true := by simp [uV, VU, List.all_map, List.all_eq_true]
theorem Jmr {a b : List Nat} (ha : WOk a) (hb : WOk b) : wN (crS Jfb Jfc a b 4).1 + (crS Jfb Jfc a b 4).2 * 115792089237316195423570985008687907853269984665640564039457584007913129639936 = wN a + wN b := by
 obtain ⟨a0, a1, a2, a3, rfl, h1, h2, h3, h4⟩ := ha.four
 obtain ⟨b0, b1, b2, b3, rfl, k1, k2, k3, k4⟩ := hb.four
 simp only [crS, zW, List.set_cons_zero, List.set_cons_succ, wN, List.getD_cons_zero, List.getD_cons_succ, Jfb, Jfc]
 omega
theorem xJ {F G : Nat → Nat → Nat → Nat} (hF : ∀ x y c, F x y c < 18446744073709551616) (a b : List Nat) : ∀ i, WOk (crS F G a b i).1
 | 0 => ⟨rfl, by simp [crS, zW]⟩
 | i + 1 => ⟨Jho F G a b _, fun x hx => by
  rcases List.mem_or_eq_of_mem_set hx with h | h
  ·exact (xJ hF a b i).2 x h
  ·rw [h]; exact hF _ _ _⟩
theorem Jhr : WOk zW := ⟨rfl, by simp [zW]⟩
theorem Zv (a b : List Nat) : WOk (XO a b).1 := by
 unfold XO crR; split
 ·exact xJ (fun _ _ _ => Nat.mod_lt _ m7) a b 4
 ·exact Jhr
def big : Nat := 115792089237316195423570985008687907853269984665640564039457584007913129639936
theorem zl {a b : List Nat} (ha : WOk a) (hb : WOk b) : if wN a + wN b < big then (XO a b).2 = 0 ∧ wN (XO a b).1 = wN a + wN b else XO a b = (zW, 6) := by
 have h := Jmr ha hb
 have hlt := Jz9 (xJ (G := Jfc) (F := Jfb) (fun _ _ _ => Nat.mod_lt _ m7) a b 4)
 unfold XO crR big
 split
 ·rename_i hs
  have hc : (crS Jfb Jfc a b 4).2 = 0 := by omega
  rw [if_pos hc]
  rw [hc] at h
  exact ⟨rfl, by simpa using h⟩
 ·rename_i hs
  have hc : (crS Jfb Jfc a b 4).2 ≠ 0 := fun hc => by rw [hc] at h; omega
  rw [if_neg hc]
def VC (l : List Nat) : Bool := decide (l = [l.getD 0 0, 0, 0, 0])
def ZW (l : List Nat) : Value := .tuple #[uV (if VC l then l.getD 0 0 else 0), .bool (VC l)]
open Go
theorem vb {a b : Bool} (h : a = b) : Value.bool a = Value.bool b := by rw [h]
def leV : List UInt8 → Nat
 | [] => 0
 | b :: s => b.toNat + 256 * leV s
theorem Jms : ∀ s : List UInt8, leV s < 256 ^ s.length
 | [] => by simp [leV]
 | b :: s => by
  have h1 := Jms s
  have h2 := b.toNat_lt
  simp only [leV, List.length_cons, Nat.pow_succ]; omega
theorem Jcg : ∀ (s : List UInt8) (b : UInt8), leV (s ++ [b]) = leV s + b.toNat * 256 ^ s.length
 | [], b => by simp [leV]
 | a :: s, b => by simp only [List.cons_append, leV, Jcg s b, List.length_cons, Nat.pow_succ]; rw [Nat.mul_add, ← Nat.mul_assoc, ← Nat.mul_assoc, Nat.mul_comm 256 b.toNat, Nat.mul_assoc, Nat.mul_comm 256 (256 ^ s.length), Nat.mul_assoc]; omega
def Xz : Nat → Nat → List UInt8
 | 0, n => [UInt8.ofNat n]
 | f + 1, n => if n < 128 then [UInt8.ofNat n] else UInt8.ofNat (n % 128 + 128) :: Xz f (n / 128)
def qq (n : Nat) : List UInt8 := Xz 9 n
section
variable {c : Cx} {l : KY} {L : J3} {X : XP} {d : List Deferred}
variable {i : Nat} {v : Value} {t : TypeId} {ps : String} {af : Array Edge} {gd : Option (Nat × Bool)} {ty t2 : TypeId}
theorem Jfd {k k' : IntKind} {a b r : Int} {ats : Array TypeId} (hx : KU l x = some (.int k a)) (hy : KU l y = some (.int k' b)) (hr : (if b < a then b else a) = r) :
  Kg c d l L X ⟨some i, .call ⟨.builtin .min, #[x, y], ats⟩, ty, ps, af, gd⟩ (.int k r) := fun a' w hf _ => by
 subst hr
 simp only [execOp, Sem.run_bind, resolve]
 have h1 := hf.eval hx
 have h2 := hf.eval hy
 have h3 := run_min_int2 (P := c.P) (w := w) ats ty k k' a b
 simp [h1, h2, invoke, builtin, Result.andThen, h3]
theorem xK  {n : Nat} {f : Nat → Nat → Nat} {b : Int} (hf : xy op = some f) (hx : KU l x = some (.int .u8 (m : Int))) (hy : KU l y = some (.int .u8 (n : Int))) (hm : m < 256) (hn : n < 256) (hb : ((f m n : Nat) : Int) = b) :
  Kg c d l L X ⟨some i, .binOp op t x y t2, ty, ps, af, gd⟩ (.int .u8 b) := fun a' w hfr _ => by
 subst hb
 have e1 : (BitVec.ofInt 8 (m : Int)).toNat = m := by simp [BitVec.toNat_ofInt]; omega
 have e2 : (BitVec.ofInt 8 (n : Int)).toNat = n := by simp [BitVec.toNat_ofInt]; omega
 have hm' : m < 2 ^ 8 := hm
 have hn' : n < 2 ^ 8 := hn
 have wr : ∀ q : Nat, q < 2 ^ 8 → IntKind.u8.wrap (q : Int) = q := fun q hq => Jhb m3 m3
 simp only [execOp]
 rw [hfr.eval hx, hfr.eval hy]
 cases op <;> simp only [xy, Option.some.injEq, reduceCtorEq] at hf
 all_goals subst hf
 ·have := wr (m &&& n) (Nat.lt_of_le_of_lt Nat.and_le_left hm')
  have e3 : (BitVec.ofInt 8 (m : Int) &&& BitVec.ofInt 8 (n : Int)).toNat = m &&& n := by rw [BitVec.toNat_and, e1, e2]
  show Sem.run c.P (pure (Next.value (Value.int .u8 (IntKind.u8.wrap (((BitVec.ofInt 8 (m : Int) &&& BitVec.ofInt 8 (n : Int)).toNat : Nat) : Int))))) w = _
  rw [e3, this]; rfl
 ·have := wr (m ||| n) (Nat.or_lt_two_pow hm' hn')
  have e3 : (BitVec.ofInt 8 (m : Int) ||| BitVec.ofInt 8 (n : Int)).toNat = m ||| n := by rw [BitVec.toNat_or, e1, e2]
  show Sem.run c.P (pure (Next.value (Value.int .u8 (IntKind.u8.wrap (((BitVec.ofInt 8 (m : Int) ||| BitVec.ofInt 8 (n : Int)).toNat : Nat) : Int))))) w = _
  rw [e3, this]; rfl
 ·have := wr (m ^^^ n) (Nat.xor_lt_two_pow hm' hn')
  have e3 : (BitVec.ofInt 8 (m : Int) ^^^ BitVec.ofInt 8 (n : Int)).toNat = m ^^^ n := by rw [BitVec.toNat_xor, e1, e2]
  show Sem.run c.P (pure (Next.value (Value.int .u8 (IntKind.u8.wrap (((BitVec.ofInt 8 (m : Int) ^^^ BitVec.ofInt 8 (n : Int)).toNat : Nat) : Int))))) w = _
  rw [e3, this]; rfl
end
theorem J0b (m : Nat) : IntKind.u64.wrap (m : Int) = ((m % 18446744073709551616 : Nat) : Int) := by
 have h : IntKind.u64.wrap (m : Int) = (m : Int) % 18446744073709551616 := by rw [IntKind.wrap_u64]
 rw [h]; rfl
def yy (a : Nat) : Nat → Nat → List UInt8 → Nat × Nat × Int
 | _, _, [] => (0, 0, 3)
 | i, n, c :: r => if i = 9 ∧ 1 < c.toNat then (0, 0, 5) else if 128 ≤ c.toNat then yy a (i + 1) (n + c.toNat % 128 * 2 ^ (7 * i)) r else if 0 < i ∧ c.toNat = 0 then (0, 0, 8) else (n + c.toNat % 128 * 2 ^ (7 * i), a + i + 1, 0)
def KO (s : List UInt8) (at_ : Int) : Nat × Nat × Int := if at_ < 0 ∨ at_ > s.length then (0, 0, 1) else yy at_.toNat 0 0 ((s.drop at_.toNat).take 10)
def Jsv (p : Nat × Nat × Int) : Value := .tuple #[uV p.1, .int .i64 (p.2.1 : Int), .int .i64 p.2.2]
theorem J0c {n : Nat} : n % 256 ||| 128 = n % 128 + 128 := by
 have h := xG (a := n % 128) (b := 1) (n := 7) (Nat.mod_lt _ m7)
 have e : n % 256 = n % 128 ∨ n % 256 = n % 128 + 128 := by omega
 rcases e with e | e
 ·rw [e]; exact h
 ·rw [e, ← h, Nat.or_assoc]; rfl
theorem Jxl (n : Nat) : n &&& 127 = n % 128 := Nat.and_two_pow_sub_one_eq_mod n 7
structure PureM (P : Program) (f : FuncId) (args : Array Value) (v : Value) (r : Nat) (o o' : Obj) : Prop where
  run : ∀ w, w.heap[r]? = some o → Calls P f args w fun e w' => e = .returned v ∧ Keep [r] w w' ∧ w'.heap[r]? = some o'
section
variable {c : Cx} {l : KY} {L : J3} {X : XP} {Q : Exit → Act → World → Prop} {d : List Deferred}
variable {ops : Array Oper} {rest : List Oper} {i : Nat} {v : Value} {t : TypeId} {ps : String} {af : Array Edge} {gd : Option (Nat × Bool)} {ty t2 : TypeId}
theorem Jch (a : List UInt8) (cap : Nat) : bytesRow (bs a) cap = (a.map bV ++ List.replicate (cap - a.length) (Value.int .u8 0)).toArray := by
 simp only [bytesRow, Y4]
 apply Array.toList_inj.1
 simp [bs, bV]
theorem Jci {a : List UInt8} {dst : TypeId} (hg : KW l ops ⟨some i, .convert src dst x, ty, ps, af, gd⟩ = some true) (hi : Nat.ble (i + 1) c.n = true) (hx : KU l x = some (.string (bs a)))
  (hs : yE c.P src = true) (hd : Q5 c.P dst = some e) (he : c.P.underlying e = some (.int .u8))
  (h : ∀ r k, HL c d ((i, .slice (some ⟨r, 0, none⟩) a.length (a.length + k)) :: l) ((r, .cells (a.map bV ++ List.replicate k (Value.int .u8 0)).toArray e (a.length + k, a.length + k + 1)) :: L) X ops rest Q) : HL c d l L X ops (⟨some i, .convert src dst x, ty, ps, af, gd⟩ :: rest) Q :=
 WE (α := Nat × Nat) (V := fun p => .slice (some ⟨p.1, 0, none⟩) a.length (a.length + p.2)) (L' := fun p => (p.1, .cells (a.map bV ++ List.replicate p.2 (Value.int .u8 0)).toArray e (a.length + p.2, a.length + p.2 + 1)) :: L) (X' := fun _ => X) hg rfl rfl hi (fun aa w hf hst => by
  have hr := Go.run_bytes_of_string (P := c.P) w src dst e (bs a) (V5 hs) (Qg hd) he
  have hge := grownCap_ge w (bs a).size 0 e
  rw [Jch] at hr
  rw [Y4] at hr hge
  obtain ⟨k, hk⟩ : ∃ k, grownCap w a.length 0 e = a.length + k := ⟨grownCap w a.length 0 e - a.length, by omega⟩
  rw [hk, show a.length + k - a.length = k from by omega] at hr
  have hsz : (a.map bV ++ List.replicate k (Value.int .u8 0)).toArray.size = a.length + k := by simp
  rw [hsz] at hr
  refine ⟨(w.heap.size, k), _, ?_, hst.drew.alloc _⟩
  simp only [execOp]
  rw [hf.eval hx]
  simp [Sem.run_bind, hr, Result.andThen]) (fun p => h p.1 p.2)
def wj (l : KY) : Option Operand → Option Nat → Prop
 | none, none => True
 | some x, some n => ∃ k, KU l x = some (.int k (n : Int))
 | _, _ => False
theorem zo {lo hi mx : Option Operand} {kl kh km : Option Nat} {n e z : Nat} (hx : KU l x = some (.slice (some ⟨r, off, none⟩) n cap)) (ht : Q5 c.P t = some e) (hsz : Q9 c.P e = some sz)
  (hl : wj l lo kl) (hh : wj l hi kh) (hm : wj l mx km) (e1 : kl.getD 0 = m) (e2 : kh.getD n = q) (e3 : km.getD cap = z) (h1 : m ≤ q) (h2 : q ≤ z) (h3 : z ≤ cap) (h4 : kh = none → km = none) (ho : (if z = m then off else off + m * sz) = off') :
  Kg c d l L X ⟨some i, .slice t x lo hi mx, ty, ps, af, gd⟩ (.slice (some ⟨r, off', none⟩) (q - m) (z - m)) := fun a' w hf _ => by
 have ex := hf.eval hx
 subst e1 e2 e3 ho
 have low : ∀ {o : Option Operand} {k : Option Nat}, wj l o k → (o.map a'.eval = none ∧ k = none) ∨ (∃ y n, o.map a'.eval = some (.int y ((n : Nat) : Int)) ∧ k = some n) := by
  intro o k h
  cases o with
  | none => cases k with
   | none => exact .inl ⟨rfl, rfl⟩
   | some k => exact h.elim
  | some o => cases k with
   | none => exact h.elim
   | some k => obtain ⟨y, hy⟩ := h; exact .inr ⟨y, k, by simp [hf.eval hy], rfl⟩
 simp only [execOp, ex]
 have hadd : ∀ k : Nat, Addr.add ⟨r, off, none⟩ k = ⟨r, off + k, none⟩ := fun k => WJ r off k
 rcases low hl with ⟨f1, rfl⟩ | ⟨y1, n1, f1, rfl⟩ <;> rcases low hh with ⟨f2, rfl⟩ | ⟨y2, n2, f2, rfl⟩ <;> rcases low hm with ⟨f3, rfl⟩ | ⟨y3, n3, f3, rfl⟩ <;> simp only [Option.getD_none, Option.getD_some] at h1 h2 h3 ⊢ <;>
  (try (have := h4 rfl; cases this)) <;> rw [f1, f2, f3] <;>
  simp [Instr.sliceAt, Instr.slice, Sem.run_bind, Q6 (Qg ht), Vz hsz, Result.andThen, Instr.sliceBounds, Instr.sliceBound, asIntOf, h1, h2, h3, hadd]
 all_goals split <;> simp_all
end
open Go Go.RowKit Go.Shelf
section
variable {c : Cx} {l : KY} {L : J3} {X : XP} {Q : Exit → Act → World → Prop} {d : List Deferred}
variable {ops : Array Oper} {rest : List Oper} {i : Nat} {v : Value} {t u : TypeId} {ps : String} {af : Array Edge} {gd : Option (Nat × Bool)} {ty : TypeId}
theorem J0d (s : List UInt8) : (bs s).size = s.length := by simp [bs, ByteArray.size]
theorem qM (s : List UInt8) : Lib.strCells (bs s) = s.map bV := rfl
theorem Jfe {s s2 : List UInt8}
  (hp : L.Perm (J9 e (s.map bV) row ++ L0)) (hg : KW l ops ⟨some i, .call ⟨.builtin .append, #[x, y], #[t, u]⟩, ty, ps, af, gd⟩ = some true) (hi : Nat.ble (i + 1) c.n = true)
  (hx : KU l x = some (JV s.length row)) (hy : KU l y = some (.string (bs s2))) (ht : Q5 c.P t = some e) (hu : yE c.P u = true) (hz : Vo c.P e = some (.int .u8 0)) (hs : Q9 c.P e = some 1) (hb : Je6 c.P e = some 1)
  (ho : rowOk 1 s.length (s.map bV) row) (ho2 : s = [] → row = none) (hlen : s.length + s2.length ≤ 140737488355328)
  (h : ∀ row', rowOk 1 (s ++ s2).length ((s ++ s2).map bV) row' → (s ++ s2 = [] → row' = none) → HL c d ((i, JV (s ++ s2).length row') :: l) (J9 e ((s ++ s2).map bV) row' ++ L0) X ops rest Q) :
  HL c d l L X ops (⟨some i, .call ⟨.builtin .append, #[x, y], #[t, u]⟩, ty, ps, af, gd⟩ :: rest) Q := by
 obtain ⟨inf, hinf, hz', hs', hb'⟩ := vu hz hs hb
 refine JY hp ?_
 refine WE (α := { r' : QZ // rowOk 1 (s ++ s2).length ((s ++ s2).map bV) r' ∧ (s ++ s2 = [] → r' = none) }) (V := fun p => JV (s ++ s2).length p.1) (L' := fun p => J9 e ((s ++ s2).map bV) p.1 ++ L0) (X' := fun _ => X) hg O O hi (fun a w hf hst => ?_) (fun p => h p.1 p.2.1 p.2.2)
 have exec : ∀ r w', (Builtin.append_ #[t, u] ty #[JV s.length row, .string (bs s2)]).run c.P w = .ok r w' →
   (execOp a.eval ⟨some i, .call ⟨.builtin .append, #[x, y], #[t, u]⟩, ty, ps, af, gd⟩).run c.P w = .ok (.value r) w' := fun r w' hr => by
  have ex := hf.eval hx
  have ey := hf.eval hy
  simp [execOp, resolve, Sem.run_bind, ex, ey, Result.andThen, invoke, builtin, hr]
 have hsz := J0d s2
 have hsl : (s ++ s2).length = s.length + s2.length := C'
 have hml : ((s ++ s2).map bV).length = s.length + s2.length := by rw [D', hsl]
 have hz1 : (Value.int IntKind.u8 0).cells.size = 1 := rfl
 have zlen : ∀ n, (Builtin.zeroCells (Value.int IntKind.u8 0).cells n).toList.length = n := fun n => by rw [Array.length_toList, size_zeroCells, hz1, Nat.mul_one]
 cases row with
 | none =>
  obtain ⟨h1, h2⟩ := ho
  have hs0 : s = [] := List.eq_nil_of_length_eq_zero h1
  subst hs0
  cases s2 with
  | nil =>
   refine ⟨⟨none, ⟨rfl, rfl⟩, fun _ => rfl⟩, w, exec _ _ ?_, hst⟩
   have hf2 := Lib.run_firstCells_string (P := c.P) w 1 (bs [])
   have h0 : (bs []).size = 0 := rfl
   rw [h0] at hf2
   simp [Builtin.append_, JV, run_underlying (Qg ht), run_underlying (V5 hu), sizeOf, typeInfo, hinf, hs', Builtin.lenOf, h0, hf2]
  | cons b s2 =>
   have hr := run_append_nil_string (P := c.P) w t u ty e inf (.int .u8 0) (Qg ht) (V5 hu) hinf hz' (bs (b :: s2)) (by rw [hsz]; simp) (by rw [hsz]; simp at hlen ⊢; omega) (by rw [hsz, hb']; simp at hlen ⊢; omega)
   rw [hsz] at hr
   have hge := grownCap_ge w (b :: s2).length 0 e
   refine ⟨⟨some (w.heap.size, grownCap w (b :: s2).length 0 e, (Builtin.zeroCells (Value.int IntKind.u8 0).cells (grownCap w (b :: s2).length 0 e - (b :: s2).length)).toList), ⟨?_, ?_⟩, fun h0 => by simp at h0⟩, _, exec _ _ hr, ?_⟩
   ·simp
   ·rw [zlen]; simp only [List.nil_append]; omega
   ·have e1 : ((bs (b :: s2)).data.map (fun b => Value.int .u8 b.toNat) ++ Builtin.zeroCells (Value.int IntKind.u8 0).cells (grownCap w (b :: s2).length 0 e - (b :: s2).length)) = ((([] ++ (b :: s2)).map bV) ++ (Builtin.zeroCells (Value.int IntKind.u8 0).cells (grownCap w (b :: s2).length 0 e - (b :: s2).length)).toList).toArray := by
     apply Array.toList_inj.1; simp [bs, bV]
    rw [e1]
    exact hst.drew.alloc _
 | some q =>
  obtain ⟨r, cap, sp⟩ := q
  obtain ⟨h1, h2⟩ := ho
  have hget : w.heap[r]? = some (.cells (s.map bV ++ sp).toArray e (0, 0)) := hst.get (k := 0) rfl
  have hne : s ++ s2 ≠ [] := fun h0 => by have := ho2 (List.append_eq_nil_iff.1 h0).1; cases this
  by_cases hroom : s.length + s2.length ≤ cap
  ·have hr := Lib.run_append_room_string (P := c.P) w t u ty e inf (Qg ht) (V5 hu) hinf hs' r s.length cap _ hget (bs s2) (by rw [hsz]; exact hroom) (by rw [hsz]; simp only [List.size_toArray, C', D']; omega)
   rw [hsz, qM] at hr
   have e1 : ((s.map bV ++ sp).toArray.toList.take s.length ++ s2.map bV ++ (s.map bV ++ sp).toArray.toList.drop (s.length + s2.length)) = (s ++ s2).map bV ++ sp.drop s2.length := by
    simp only [List.toList_toArray]
    rw [List.take_left' mf, List.map_append, ← List.drop_drop, List.drop_left' mf]
   rw [e1] at hr
   have hV : JV (s ++ s2).length (some (r, cap, sp.drop s2.length)) = .slice (some ⟨r, 0, none⟩) (s.length + s2.length) cap := by rw [JV, hsl]
   refine ⟨⟨some (r, cap, sp.drop s2.length), ⟨?_, ?_⟩, fun h0 => absurd h0 hne⟩, _, exec _ _ (hr.trans (congrArg (fun v => Result.ok v _) hV.symm)), ?_⟩
   ·rw [hml, hsl]; omega
   ·rw [List.length_drop, hsl]; omega
   ·exact hst.set (k := 0) O (Keep.setRow r _) (setRow_heap _ _ _ _ _ _ hget)
  ·have holds : ∀ (j : Nat) (x : Value), (s.map bV)[j]? = some x → w.cell? ((⟨r, 0, none⟩ : Addr).add j) = some x := ZU hget (n := s.length) mf
   have hr := Lib.run_append_grow_string (P := c.P) w t u ty e inf (.int .u8 0) (Qg ht) (V5 hu) hinf hz' ⟨r, 0, none⟩ s.length cap (s.map bV) (by rw [hs']; simp) holds (bs s2) (by rw [hsz]; omega) (by rw [hsz]; omega) (by rw [hsz, hb']; exact growslice_fits m3 m3)
   rw [hsz, qM] at hr
   have hge := grownCap_ge w (s.length + s2.length) cap e
   refine ⟨⟨some (w.heap.size, grownCap w (s.length + s2.length) cap e, (Builtin.zeroCells (Value.int IntKind.u8 0).cells (grownCap w (s.length + s2.length) cap e - (s.length + s2.length))).toList), ⟨?_, ?_⟩, fun h0 => absurd h0 hne⟩, _, exec _ _ (hr.trans (congrArg (fun v => Result.ok v _) (show _ = JV (s ++ s2).length (some (w.heap.size, grownCap w (s.length + s2.length) cap e, (Builtin.zeroCells (Value.int IntKind.u8 0).cells (grownCap w (s.length + s2.length) cap e - (s.length + s2.length))).toList)) from by rw [JV, hsl]))), ?_⟩
   ·rw [hml, hsl]; omega
   ·rw [zlen, hsl]; omega
   ·have e1 : ((s.map bV).toArray ++ (s2.map bV).toArray ++ Builtin.zeroCells (Value.int IntKind.u8 0).cells (grownCap w (s.length + s2.length) cap e - (s.length + s2.length))) = ((s ++ s2).map bV ++ (Builtin.zeroCells (Value.int IntKind.u8 0).cells (grownCap w (s.length + s2.length) cap e - (s.length + s2.length))).toList).toArray := by
     apply Array.toList_inj.1; simp
    rw [e1]
    exact (hst.drew.weakL (List.sublist_cons_self _ _)).alloc _
theorem Keep.freeze (r n : Nat) : Keep [r] w (w.freeze ⟨r, 0, none⟩ n) := by
 unfold World.freeze
 split
 ·exact Keep.refl _ _
 ·exact ⟨rfl, rfl, rfl, by simp, fun k _ hn => by
   simp only [Array.getElem?_modify]
   rw [if_neg (by intro e; exact hn (by simp [e]))]⟩
theorem Jcj {w : World} {r n : Nat} {cs : Array Value} {e : TypeId} {fr : Nat × Nat} (h : w.heap[r]? = some (.cells cs e fr)) : ∃ fr', (w.freeze ⟨r, 0, none⟩ n).heap[r]? = some (.cells cs e fr') := by
 unfold World.freeze
 split
 ·exact ⟨fr, h⟩
 ·obtain ⟨lo, hi⟩ := fr
  obtain ⟨hlt, he⟩ := Array.getElem?_eq_some_iff.1 h
  refine ⟨if lo == hi then (0, 0 + n) else (min lo 0, max hi (0 + n)), ?_⟩
  show (w.heap.modify r _)[r]? = _
  rw [Array.getElem?_eq_getElem (by rw [Array.size_modify]; exact hlt), Array.getElem_modify_self, he]
def Jck : QZ → Value
 | none => .pointer none
 | some (r, _, _) => .pointer (some ⟨r, 0, none⟩)
theorem xM {n : Nat} (hx : KU l x = some (JV n row)) (hc : ∀ r cap sp, row = some (r, cap, sp) → cap ≠ 0) :
  Kg c d l L X ⟨some i, .call ⟨.builtin .unsafeSliceData, #[x], #[t]⟩, ty, ps, af, gd⟩ (Jck row) := fun a w hf _ => by
 have ex := hf.eval hx
 cases row with
 | none =>
  have hr := Lib.run_unsafeSliceData_nil (P := c.P) w #[t] ty 0 0
  simp only [JV] at ex
  simp [execOp, resolve, Sem.run_bind, ex, Result.andThen, invoke, builtin, hr, Jck]
 | some q =>
  obtain ⟨r, cap, sp⟩ := q
  have hr := Lib.run_unsafeSliceData_row (P := c.P) w #[t] ty ⟨r, 0, none⟩ n cap (hc r cap sp rfl)
  simp only [JV] at ex
  simp [execOp, resolve, Sem.run_bind, ex, Result.andThen, invoke, builtin, hr, Jck]
def qN (P : Program) (t : TypeId) : Option TypeId := match P.underlying t with | some (.pointer e) => some e | _ => none
theorem Zw (h : qN P t = some e) : P.underlying t = some (.pointer e) := by
 unfold qN at h; split at h <;> simp_all
theorem vg  {pt it : TypeId} {s : List UInt8}
  (hp : L.Perm (J9 e (s.map bV) row ++ L0)) (hg : KW l ops ⟨some i, .call ⟨.builtin .unsafeString, #[x, y], #[pt, it]⟩, ty, ps, af, gd⟩ = some true) (hi : Nat.ble (i + 1) c.n = true)
  (hx : KU l x = some (Jck row)) (hy : KU l y = some (.int .i64 (s.length : Int))) (ht : qN c.P pt = some e) (hc : c.P.cellsOf e = 1)
  (ho : rowOk 1 s.length (s.map bV) row) (ho2 : s = [] → row = none) (hlen : s.length ≤ 9223372036854775807)
  (h : HL c d ((i, .string (bs s)) :: l) L0 X ops rest Q) : HL c d l L X ops (⟨some i, .call ⟨.builtin .unsafeString, #[x, y], #[pt, it]⟩, ty, ps, af, gd⟩ :: rest) Q := by
 refine JY hp ?_
 refine WE (α := Unit) (V := fun _ => .string (bs s)) (L' := fun _ => L0) (X' := fun _ => X) hg O O hi (fun a w hf hst => ?_) (fun _ => h)
 have exec : ∀ r w', (Builtin.unsafeString_ #[pt, it] ty #[Jck row, .int .i64 s.length]).run c.P w = .ok r w' →
   (execOp a.eval ⟨some i, .call ⟨.builtin .unsafeString, #[x, y], #[pt, it]⟩, ty, ps, af, gd⟩).run c.P w = .ok (.value r) w' := fun r w' hr => by
  have ex := hf.eval hx
  have ey := hf.eval hy
  simp [execOp, resolve, Sem.run_bind, ex, ey, Result.andThen, invoke, builtin, hr]
 cases row with
 | none =>
  obtain ⟨h1, _⟩ := ho
  have hs0 : s = [] := List.eq_nil_of_length_eq_zero h1
  subst hs0
  exact ⟨(), w, exec _ _ (Lib.run_unsafeString_none (P := c.P) w pt it ty none), hst⟩
 | some q =>
  obtain ⟨r, cap, sp⟩ := q
  obtain ⟨h1, h2⟩ := ho
  have hget : w.heap[r]? = some (.cells (s.map bV ++ sp).toArray e (0, 0)) := hst.get (k := 0) rfl
  have hne : s ≠ [] := fun h0 => by have := ho2 h0; cases this
  have hcell : ∀ (j : Nat) (x : UInt8), s[j]? = some x → w.cell? ((⟨r, 0, none⟩ : Addr).add j) = some (.int .u8 x.toNat) := fun j x hx => by
   rw [ju, VY hget]
   rw [Nat.zero_add, ← Array.getElem?_toList]
   simp only [List.toList_toArray]
   rw [List.getElem?_append_left (by rw [D']; exact (La'.1 hx).1), List.getElem?_map, hx]; rfl
  have hr := Lib.run_unsafeString_row (P := c.P) w pt it ty e (Zw ht) hc r (s.map bV ++ sp).length (by simp [World.shape?, hget]) s hne mf hlen hcell
  obtain ⟨fr', hfr⟩ := Jcj (n := s.length) hget
  exact ⟨(), _, exec _ _ hr, (hst.set (k := 0) O (Keep.freeze r s.length) hfr).weakL (List.sublist_cons_self _ _)⟩
end
section
variable {c : Cx} {l : KY} {L : J3} {X : XP} {d : List Deferred}
variable {i : Nat} {v : Value} {t u : TypeId} {ps : String} {af : Array Edge} {gd : Option (Nat × Bool)} {ty t2 : TypeId}
def Jsw (P : Program) (t : TypeId) : Bool := match P.underlying t with | some .unsafePointer => true | _ => false
theorem Jhs (h : Jsw P t = true) : P.underlying t = some .unsafePointer := by
 unfold Jsw at h; split at h <;> simp_all
theorem j4 (h : Q9 P t = some sz) : ∃ inf, P.info? t = some inf ∧ inf.size = sz := by
 unfold Q9 at h
 cases hq : P.info? t with
 | none => simp [hq] at h
 | some inf => simp only [hq, Option.some.injEq] at h; exact ⟨inf, rfl, h⟩
theorem Jff  {e : Nat} {dst : TypeId} (hx : KU l x = some (.pointer (some ⟨r, 0, none⟩))) (hk : known c L r (.cells cs e fr)) (hs : qN c.P src = some tt) (hd : Jsw c.P dst = true) (ht : Q9 c.P tt = some sz) (h0 : 0 < sz) (hc : 0 < cs.size) :
  Kg c d l L X ⟨some i, .convert src dst x, ty, ps, af, gd⟩ (.pointer (some ⟨r, 0, none⟩)) := fun a w hf hst => by
 obtain ⟨inf, hinf, hsz⟩ := j4 ht
 have h := hst.known hk
 simp only [execOp]
 rw [hf.eval hx]
 have := Lib.run_to_unsafe (P := c.P) w (e := e) (cells := cs.size) ⟨r, 0, none⟩ (Zw hs) (Jhs hd) hinf m3 (by simp [World.shape?, h]) hc
 simp only [Sem.run_bind, this]; rfl
theorem xN  {e : Nat} {dst : TypeId} (hx : KU l x = some (.pointer (some ⟨r, 0, none⟩))) (hk : known c L r (.cells cs e fr)) (hs : Jsw c.P src = true) (hd : qN c.P dst = some tt) (ht : Q9 c.P tt = some sz) (hl : liesAt c.P c.P.depth e (cs.size / c.P.cellsOf e) 0 tt 1 = true) :
  Kg c d l L X ⟨some i, .convert src dst x, ty, ps, af, gd⟩ (.pointer (some ⟨r, 0, none⟩)) := fun a w hf hst => by
 obtain ⟨inf, hinf, hsz⟩ := j4 ht
 have h := hst.known hk
 simp only [execOp]
 rw [hf.eval hx]
 have := Lib.run_from_unsafe (P := c.P) w (e := e) (cells := cs.size) ⟨r, 0, none⟩ (Jhs hs) (Zw hd) hinf (by simp [World.shape?, h]) hl
 simp only [Sem.run_bind, this]; rfl
theorem Jfg (hf : KU l f = some (.func (.func g) #[] #[])) (hx : KU l x = some v)
  (hF : c.P.funcs[g]? = some fn) (hn1 : (fn.name == "runtime.NumGoroutine") = false) (hb : fn.body.isNone = true) (hn2 : Extern.findNext fn = none) (he : Extern.find fn = some Extern.AbiNoEscape.same) :
  Kg c d l L X ⟨some i, .call ⟨.value f, #[x], at_⟩, ty, ps, af, gd⟩ v := fun a w hfr hst => by
 have ef := hfr.eval hf
 have ex := hfr.eval hx
 have hcf : (callFunc g #[v]).run c.P w = .ok (.value v) w := by
  rw [run_callFunc_extern hF hn1 hb hn2 he, Lib.run_noEscape]; rfl
 simp [execOp, resolve, Sem.run_bind, ef, ex, Deferred.ofValue, Result.andThen, invoke, hcf]
theorem Jmt {q : Addr} (hx : KU l x = some (.pointer (some q))) (hy : KU l y = some (.pointer (some q))) (ht : qN c.P t = some tt) (hs : Q9 c.P tt = some sz) :
  Kg c d l L X ⟨some i, .binOp .neq t x y t2, ty, ps, af, gd⟩ (.bool false) := fun a w hf _ => by
 obtain ⟨inf, hinf, hsz⟩ := j4 hs
 simp only [execOp]
 rw [hf.eval hx, hf.eval hy]
 have := Lib.run_neq_ptr_same (P := c.P) w q (Zw ht) hinf
 simp [eqGuard, Sem.run_bind, this, Result.andThen]
theorem Jmu (hx : KU l x = some (.pointer none)) (hy : KU l y = some (.pointer none)) (ht : qN c.P t = some tt) (hs : Q9 c.P tt = some sz) :
  Kg c d l L X ⟨some i, .binOp .eql t x y t2, ty, ps, af, gd⟩ (.bool true) := fun a w hf _ => by
 obtain ⟨inf, hinf, hsz⟩ := j4 hs
 have h : ∀ d : Nat, (Op.equalIn (d + 1) t (.pointer none) (.pointer none)).run c.P w = .ok true w := fun d => by
  simp [Op.equalIn, run_underlying (Zw ht), sizeOf, typeInfo, hinf]
 simp only [execOp]
 rw [hf.eval hx, hf.eval hy]
 simp only [binOp]
 simp [eqGuard, Op.equal, Op.maxDepth, h 9999, Sem.run_bind, Result.andThen]
theorem Jmv {q : Addr} (hx : KU l x = some (.pointer (some q))) (hy : KU l y = some (.pointer none)) (ht : qN c.P t = some tt) (hs : Q9 c.P tt = some sz) :
  Kg c d l L X ⟨some i, .binOp .eql t x y t2, ty, ps, af, gd⟩ (.bool false) := fun a w hf _ => by
 obtain ⟨inf, hinf, hsz⟩ := j4 hs
 have h : ∀ d : Nat, (Op.equalIn (d + 1) t (.pointer (some q)) (.pointer none)).run c.P w = .ok false w := fun d => by
  simp [Op.equalIn, run_underlying (Zw ht), sizeOf, typeInfo, hinf]
 simp only [execOp]
 rw [hf.eval hx, hf.eval hy]
 simp only [binOp]
 simp [eqGuard, Op.equal, Op.maxDepth, h 9999, Sem.run_bind, Result.andThen]
end
open Go Go.ChangeShapes Go.WideShapes Go.RowKit
section
variable {H : Type} {enc : TypeId × Value → H} {P : Program} {w : World} {base : Nat} {sp : Nat → Bool} {held : Bool}
theorem drop_one : ∀ (cs : List Value), (List.range cs.length).map (fun i => (cs.drop (i * 1)).take 1) = cs.map fun c => [c] := fun cs => by
 apply List.ext_getElem
 ·simp
 ·intro i h1 h2
  simp only [D', List.length_range] at h1
  simp only [List.getElem_map, List.getElem_range, Nat.mul_one]
  rw [List.drop_eq_getElem_cons h1]; rfl
theorem Jxm (h : (Lit.int .u64 z).wf = true) : 0 ≤ z ∧ z < 18446744073709551616 := by
 have h1 : (0 : Int) ≤ z ∧ z ≤ 18446744073709551615 := by simpa [Lit.wf, IntKind.min, IntKind.max, IntKind.signed, IntKind.bits] using h
 omega
theorem Jkd {n : Nat} (h : n < 18446744073709551616) : (Lit.int .u64 (n : Int)).wf = true := by
 have : (0 : Int) ≤ n ∧ (n : Int) ≤ 18446744073709551615 := by omega
 simpa [Lit.wf, IntKind.min, IntKind.max, IntKind.signed, IntKind.bits] using this
theorem open_u64 {r : Reach} {d : DataW H} {ps : List MemPlace} (ht : P.underlying t = some (.int .u64)) (hval : Value.okWide P w r b0 t v) (hd : DataW.Trod enc P w base sp held t v d ps) :
  ∃ n : Nat, v = uV n ∧ d = .lit (.int .u64 (n : Int)) ∧ ps = [] ∧ n < 18446744073709551616 := by
 obtain ⟨z, rfl, rfl, rfl, hw⟩ := Go.ChangeShapes.open_int ht hval hd
 have := Jxm hw
 exact ⟨z.toNat, by unfold uV; congr 1; omega, by congr 2; omega, rfl, by omega⟩
theorem shut_u64 {n : Nat} (ht : P.underlying t = some (.int .u64)) (h : n < 18446744073709551616) : DataW.Trod enc P w base sp held t (uV n) (.lit (.int .u64 (n : Int))) [] :=
 Go.ChangeShapes.shut_int ht (Jkd h)
end
open Go Go.RowKit Go.Shelf Go.ChangeShapes Go.WideShapes
abbrev Pl : Type := Option (Addr × Nat)
def plA : Pl → Option Addr
 | none => none
 | some (a, _) => some a
def plC : Pl → Nat
 | none => 0
 | some (_, cap) => cap
def Km (n : Nat) (p : Pl) : Value := .slice (plA p) n (plC p)
def plB : Pl → Nat
 | none => 0
 | some (a, _) => a.block
def plO : Pl → Nat
 | none => 0
 | some (a, _) => a.off
def Seg (R : J3) (n : Nat) (cs : List Value) : Pl → Prop
 | none => n = 0
 | some (a, cap) => n ≤ cap ∧ (0 < n → a.spot = none ∧ ∃ all e fr, (a.block, Obj.cells all e fr) ∈ R ∧ (all.toList.drop a.off).take cs.length = cs)
theorem Seg.nil {R : J3} : Seg R 0 [] none := rfl
theorem Seg.mono {R : J3} {n : Nat} {cs : List Value} {p : Pl} (h : Seg R n cs p) (hs : ∀ q ∈ R, q ∈ R') : Seg R' n cs p := by
 cases p with
 | none => exact h
 | some q => obtain ⟨a, cap⟩ := q; exact ⟨h.1, fun h0 => by obtain ⟨h1, all, e, fr, h2, h3⟩ := h.2 h0; exact ⟨h1, all, e, fr, hs _ h2, h3⟩⟩
theorem Jcl {all cs : List α} {o : Nat} {v : α} (h : (all.drop o).take cs.length = cs) (hv : cs[j]? = some v) : all[o + j]? = some v := by
 rw [← h, List.getElem?_take] at hv
 split at hv
 ·rwa [List.getElem?_drop] at hv
 ·cases hv
theorem wk {all cs vs : List α} {o : Nat} (h : (all.drop o).take cs.length = cs) (hv : (cs.drop j).take m = vs) (hm : vs.length = m) : (all.drop (o + j)).take m = vs := by
 have h1 : j + m ≤ cs.length ∨ m = 0 := by
  have := congrArg List.length hv
  rw [List.length_take, List.length_drop, hm] at this
  omega
 rcases h1 with h1 | h1
 ·rw [← hv, ← h, List.drop_take, List.drop_drop, List.take_take, Nat.min_eq_left m3]
 ·subst h1; rw [List.take_zero] at hv ⊢; exact hv
theorem j5 {α : Type} {f : α → List Value} {m : Nat} (hf : ∀ x, (f x).length = m) : ∀ {l : List α} {j : Nat} {x : α}, l[j]? = some x → ((l.flatMap f).drop (j * m)).take m = f x
 | [], _, _, h => by simp at h
 | y :: l, 0, x, h => by
  obtain rfl : y = x := by simpa using h
  rw [Nat.zero_mul, List.drop_zero, List.flatMap_cons, List.take_left' (hf y)]
 | y :: l, j + 1, x, h => by
  have e : (j + 1) * m = (f y).length + j * m := by rw [hf, Nat.succ_mul, Nat.add_comm]
  rw [e, List.flatMap_cons, ← List.drop_drop, List.drop_left' rfl]
  exact j5 hf Mq
theorem j6 {α : Type} {f : α → List Value} {m : Nat} (hf : ∀ x, (f x).length = m) : ∀ l : List α, (l.flatMap f).length = l.length * m
 | [] => by simp
 | y :: l => by rw [List.flatMap_cons, C', hf, j6 hf l, List.length_cons, Nat.succ_mul, Nat.add_comm]
section
variable {c : Cx} {l : KY} {L : J3} {X : XP} {Q : Exit → Act → World → Prop} {d : List Deferred}
variable {ops : Array Oper} {rest : List Oper} {i : Nat} {v : Value} {t : TypeId} {ps : String} {af : Array Edge} {gd : Option (Nat × Bool)} {ty : TypeId}
theorem JZ {p : Pl} {n : Nat} {R : J3} {cs : List Value} (hx : KU l x = some (Km n p)) (hs : Seg R n cs p) (ht : Q5 c.P t = some e) :
  Kg c d l L X ⟨some i, .call ⟨.builtin .len, #[x], #[t]⟩, ty, ps, af, gd⟩ (.int .i64 n) := by
 cases p with
 | none => have h : n = 0 := hs; subst h; exact Qh hx ht
 | some q => obtain ⟨a, cap⟩ := q; exact Qh hx ht
theorem JG {p : Pl} {R : J3} {cs : List Value} {n e : Nat} {k : IntKind} (hx : KU l x = some (Km n p)) (hs : Seg R n cs p) (hy : KU l y = some (.int k z)) (ha : Q5 c.P t = some e) (hm : Q9 c.P e = some m) (hz : z = (j : Int)) (hj : j < n) :
  Kg c d l L X ⟨some i, .indexAddr t x y, ty, ps, af, gd⟩ (.pointer (some ⟨plB p, plO p + j * m, none⟩)) := by
 cases p with
 | none => have h : n = 0 := hs; omega
 | some q =>
  obtain ⟨⟨b, o, s⟩, cap⟩ := q
  have h1 : s = none := (hs.2 m3).1
  subst h1
  exact Qn hx hy ha hm hz hj O
theorem Jcm {p : Pl} {R : J3} {cs : List Value} {n : Nat} (hR : ∀ q ∈ R, known c L q.1 q.2) (hx : KU l x = some (.pointer (some ⟨plB p, plO p + j, none⟩))) (hs : Seg R n cs p) (hn : 0 < n) (ht : WH c.P t = some false) (hv : cs[j]? = some v) :
  Kg c d l L X ⟨some i, .load t x, ty, ps, af, gd⟩ v := by
 cases p with
 | none => have h : n = 0 := hs; omega
 | some q =>
  obtain ⟨⟨b, o, s⟩, cap⟩ := q
  obtain ⟨_, all, e, fr, h1, h2⟩ := hs.2 hn
  exact Jc hx (hR _ h1) ht (by rw [Vm]; exact Jcl h2 hv)
theorem Jke {p : Pl} {R : J3} {cs : List Value} {n : Nat} (hR : ∀ q ∈ R, known c L q.1 q.2) (hx : KU l x = some (.pointer (some ⟨plB p, plO p + j, none⟩))) (hs : Seg R n cs p) (hn : 0 < n) (ht : WH c.P t = some true) (hm : Q9 c.P t = some m) (hv : (cs.drop j).take m = vs) (hl : vs.length = m) :
  Kg c d l L X ⟨some i, .load t x, ty, ps, af, gd⟩ (.agg vs.toArray) := by
 cases p with
 | none => have h : n = 0 := hs; omega
 | some q =>
  obtain ⟨⟨b, o, s⟩, cap⟩ := q
  obtain ⟨_, all, e, fr, h1, h2⟩ := hs.2 hn
  exact Ki hx (hR _ h1) ht hm (wk h2 hv hl) hl
end
theorem QK (z : Array Value) (n : Nat) : (madeCells z n).toList = (List.range n).map (fun i => z.toList.getD (i % z.size) default) := by
 unfold madeCells
 simp
 intro a _
 rw [getElem!_def]
 cases z[a % z.size]? <;> rfl
def I64 (z : Int) : Prop := -9223372036854775808 ≤ z ∧ z ≤ 9223372036854775807
inductive Ty : Type
  | mk (k n : Int) (p : Pl) (ins : List Ty)
def Ty.k : Ty → Int
 | .mk k _ _ _ => k
def Ty.n : Ty → Int
 | .mk _ n _ _ => n
def Ty.p : Ty → Pl
 | .mk _ _ p _ => p
def Ty.ins : Ty → List Ty
 | .mk _ _ _ ins => ins
def Ty.cells : Ty → List Value
 | .mk k n p ins => [.int .i64 k, .int .i64 n, Km ins.length p]
def Ty.val (t : Ty) : Value := .agg t.cells.toArray
def J19 (l : List Ty) : List Value := l.flatMap Ty.cells
theorem Ty.one (t : Ty) : t.cells.all VU = true := by cases t; rfl
theorem Ty.len (t : Ty) : t.cells.length = 3 := by cases t; rfl
inductive Ty.In (R : J3) : Ty → Prop
  | mk {k n : Int} {p : Pl} {ins : List Ty} (hk : I64 k) (hn : I64 n) (hl : ins.length ≤ 9223372036854775807) (hs : Seg R ins.length (J19 ins) p) (hi : ∀ x ∈ ins, Ty.In R x) : Ty.In R (.mk k n p ins)
theorem Ty.In.mono {R : J3} (hs : ∀ q ∈ R, q ∈ R') {t : Ty} (h : Ty.In R t) : Ty.In R' t := by
 induction h with
 | mk hk hn hl hg hi ih => exact .mk hk hn hl (hg.mono hs) ih
theorem Ty.In.sub {R : J3} {k n : Int} {p : Pl} {ins : List Ty} (h : Ty.In R (.mk k n p ins)) : ∀ x ∈ ins, Ty.In R x := by
 cases h; assumption
inductive Vl : Type
  | mk (a b c d : Nat) (bits : List Bool) (pb : Pl) (items : List Vl) (pi : Pl) (pick : Int)
def Vl.num : Vl → List Nat
 | .mk a b c d _ _ _ _ _ => [a, b, c, d]
def Vl.bits : Vl → List Bool
 | .mk _ _ _ _ l _ _ _ _ => l
def Vl.items : Vl → List Vl
 | .mk _ _ _ _ _ _ l _ _ => l
def Vl.pick : Vl → Int
 | .mk _ _ _ _ _ _ _ _ k => k
def Vl.cells : Vl → List Value
 | .mk a b c d bits pb items pi pick => [uV a, uV b, uV c, uV d, Km bits.length pb, Km items.length pi, .int .i64 pick]
def Vl.val (t : Vl) : Value := .agg t.cells.toArray
def J2a (l : List Vl) : List Value := l.flatMap Vl.cells
def J0e (l : List Bool) : List Value := l.map .bool
theorem Vl.one (t : Vl) : t.cells.all VU = true := by cases t; rfl
theorem Vl.len (t : Vl) : t.cells.length = 7 := by cases t; rfl
def VL (n : Nat) : Prop := n < 18446744073709551616
inductive Vl.In (R : J3) : Vl → Prop
  | mk {a b c d : Nat} {bits : List Bool} {pb : Pl} {items : List Vl} {pi : Pl} {pick : Int} (ha : VL a) (hb : VL b) (hc : VL c) (hd : VL d) (hlb : bits.length ≤ 9223372036854775807) (hsb : Seg R bits.length (J0e bits) pb)
      (hl : items.length ≤ 9223372036854775807) (hs : Seg R items.length (J2a items) pi) (hp : I64 pick) (hi : ∀ x ∈ items, Vl.In R x) : Vl.In R (.mk a b c d bits pb items pi pick)
theorem Vl.In.mono {R : J3} (hs : ∀ q ∈ R, q ∈ R') {t : Vl} (h : Vl.In R t) : Vl.In R' t := by
 induction h with
 | mk ha hb hc hd hlb hsb hl hg hp hi ih => exact .mk ha hb hc hd hlb (hsb.mono hs) hl (hg.mono hs) hp ih
theorem Vl.In.sub {R : J3} {a b c d : Nat} {bits : List Bool} {pb : Pl} {items : List Vl} {pi : Pl} {pick : Int} (h : Vl.In R (.mk a b c d bits pb items pi pick)) : ∀ x ∈ items, Vl.In R x := by
 cases h; assumption
section
variable {c : Cx} {l : KY} {L : J3} {X : XP} {d : List Deferred} {i : Nat} {t : TypeId} {ps : String} {af : Array Edge} {gd : Option (Nat × Bool)} {ty : TypeId}
theorem Jht {l : List α} {y : α} (h : l[j]? = some y) : 0 < l.length := by
 have := (La'.1 h).1; omega
theorem Qr {p : Pl} {R : J3} {cs : List Value} {n : Nat} (hR : ∀ q ∈ R, known c L q.1 q.2) (hx : KU l x = some (.pointer (some ⟨plB p, plO p + j * 1, none⟩))) (hs : Seg R n cs p) (hn : j < n) (ht : WH c.P t = some false) (hv : cs[j]? = some v) :
  Kg c d l L X ⟨some i, .load t x, ty, ps, af, gd⟩ v :=
 Jcm hR (by rw [Nat.mul_one] at hx; exact hx) hs m3 ht hv
end
section
variable {c : Cx} {l : KY} {L : J3} {X : XP} {d : List Deferred} {i : Nat} {v : Value} {ps : String} {af : Array Edge} {gd : Option (Nat × Bool)} {ty : TypeId}
theorem wl {T : Act → Prop}
  (hg : KW l ops ⟨some i, .call ⟨.value f, args, at_⟩, ty, ps, af, gd⟩ = some true) (hi : Nat.ble (i + 1) c.n = true) (hca : Qw l f args = some (g, vs)) (eg : Enters c.P g)
  (hp : PureR c.P g vs.toArray v Rl) (hk : ∀ p ∈ Rl, known c L p.1 p.2) (h : HD c d ((i, v) :: l) L X ops rest T) : HD c d l L X ops (⟨some i, .call ⟨.value f, args, at_⟩, ty, ps, af, gd⟩ :: rest) T := fun a hf => by
 refine ⟨fun _ _ _ _ => trivial, ?_⟩
 rw [if_pos (Kh hf hg)]
 refine ⟨v, fun w hs => ?_, h _ (hf.put (H' hi))⟩
 unfold Oper.quietAtIn
 rw [VK hf hca c.P w _ rfl eg]
 refine ⟨rfl, fun hdep => nW, ?_⟩
 have hc := callsIn_wide (n := 0) |>.2 (hp.run w fun p hp => hs.known (hk p hp))
 refine CallsIn.mono mT ?_
 rintro e w' ⟨rfl, hk⟩
 exact ⟨rfl, hs.more hk⟩
end
theorem Vh {l : List α} (h : j < l.length) : ∃ y, l[j]? = some y ∧ y ∈ l := ⟨l[j], List.getElem?_eq_getElem h, List.getElem_mem h⟩
def Jkf (w : World) : J3 := w.heap.toList.zipIdx.map fun p => (p.2, p.1)
theorem has_allB (w : World) : jn (Jkf w) w := by
 intro p hp
 obtain ⟨q, hq, rfl⟩ := List.mem_map.1 hp
 have := List.mem_zipIdx_iff_getElem?.1 hq
 rw [Array.getElem?_toList] at this
 exact this
theorem Jcn {o : Obj} (h : w.heap[r]? = some o) : (r, o) ∈ Jkf w :=
 List.mem_map.2 ⟨(o, r), List.mem_zipIdx_iff_getElem?.2 (by rw [Array.getElem?_toList]; exact h), rfl⟩
def Jxn (k n : Int) (m : Nat) : Bool :=
 if k = 1 then decide (m = 0) && (decide (n = 1) || decide (n = 2) || decide (n = 4) || decide (n = 8) || decide (n = 32))
 else if k = 2 then decide (m = 0) && decide (n = 0)
 else if k = 3 ∨ k = 4 then decide (m = 1) && decide (1 ≤ n) && decide (n ≤ 512)
 else if k = 5 ∨ k = 6 then decide (m = 0) && decide (1 ≤ n) && decide (n ≤ 512)
 else if k = 7 then decide (n = 0) && decide (1 ≤ m) && decide (m ≤ 16)
 else decide (n = 0) && decide (1 ≤ m) && decide (m ≤ 8)
mutual
def chk : Ty → Int → Int
 | .mk k n _ ins, d => if k < 1 ∨ 8 < k then 9 else if Jxn k n ins.length = false then 2 else if 6 ≤ d then 7 else J0f ins (d + 1)
def J0f : List Ty → Int → Int
 | [], _ => 0
 | x :: xs, d => if chk x d = 0 then J0f xs d else chk x d
end
structure PureMR (P : Program) (f : FuncId) (args : Array Value) (v : Value) (r : Nat) (o o' : Obj) (Rl : J3) : Prop where
  run : ∀ w, w.heap[r]? = some o → jn Rl w → Calls P f args w fun e w' => e = .returned v ∧ Keep [r] w w' ∧ w'.heap[r]? = some o'
section
variable {c : Cx} {l : KY} {L : J3} {X : XP} {Q : Exit → Act → World → Prop} {d : List Deferred}
variable {ops : Array Oper} {rest : List Oper} {i : Nat} {v : Value} {t : TypeId} {ps : String} {af : Array Edge} {gd : Option (Nat × Bool)} {ty t2 : TypeId}
theorem St.apart (hs : St c L X w) {k : Nat} {o : Obj} (hk : L[k]? = some (r, o)) : ∀ p ∈ c.R, p.1 ≠ r := by
 rintro p hp rfl
 have h1 := (hs.own _ (List.mem_of_getElem? hk)).1
 obtain ⟨h2, _, h3⟩ := hs.ext p hp
 rcases h1 with h1 | h1
 ·exact h2 h1
 ·have := JM h3
  exact absurd this (Nat.not_lt.2 h1)
theorem ZX (hg : KW l ops ⟨some i, .makeMap t none, ty, ps, af, gd⟩ = some true) (hi : Nat.ble (i + 1) c.n = true)
  (h : ∀ r, HL c d ((i, .map (some r)) :: l) ((r, .map #[] 0) :: L) X ops rest Q) : HL c d l L X ops (⟨some i, .makeMap t none, ty, ps, af, gd⟩ :: rest) Q :=
 WE (α := Nat) (V := fun r => .map (some r)) (L' := fun r => (r, .map #[] 0) :: L) (X' := fun _ => X) hg rfl rfl hi (fun a w _ hs => ⟨w.heap.size, w.alloc (.map #[] 0), by simp only [execOp, Sem.run_bind, Option.map]; rfl, hs.alloc _⟩) h
theorem QU {m : Operand} {kt et : Nat} {key val : Value} (K : KeyL c.P kt dom eq) (hg : KW l ops ⟨none, .insert t m x y, ty, ps, af, gd⟩ = some true)
  (hm : KU l m = some (.map (some r))) (hx : KU l x = some key) (hy : KU l y = some val) (hq : L[q]? = some (r, .map es clock)) (ht : vX c.P t = some (kt, et)) (hk : dom key) (he : ∀ e ∈ es.toList, dom e.key) (hn : Qx eq key (es.toList.map Yc) = none)
  (hL : L.set q (r, .map (es.push { key := key, val := val, born := clock }) (clock + 1)) = L') (h : HL c d l L' X ops rest Q) : HL c d l L X ops (⟨none, .insert t m x y, ty, ps, af, gd⟩ :: rest) Q :=
 xu hg rfl rfl (fun a w hf hs => ⟨_, by
  simp only [execOp, Sem.run_bind]
  rw [hf.eval hm, hf.eval hx, hf.eval hy, vY K ht (hs.get hq) hk he hn]; rfl, hL ▸ hs.set hq (Keep.putObj r _) (World.putObj_heap_same (JM (hs.get hq)))⟩) h
end
def isI (v : Value) : Prop := ∃ n, v = .int .i64 n
def Jco (x y : Value) : Bool := ZG x y
theorem wm (ht : P.underlying t = some (.int .i64)) (b : Bool) (n : Nat) (x : Int) (w : World) : (Instr.checkKey b (n + 1) t (.int .i64 x)).run P w = .ok () w := by
 simp [Instr.checkKey, Sem.run_bind, Q6 ht, Result.andThen]
theorem VP (ht : P.underlying t = some (.int .i64)) : KeyL P t isI Jco where
 now := ⟨_, ht, fun a b ⟨a1, ha⟩ ⟨b1, hb⟩ => by subst ha hb; exact .inr (by simp [Instr.sameNow, Jco, ZG])⟩
 equal := by
  rintro _ _ w ⟨a, rfl⟩ ⟨b, rfl⟩
  exact xA (by simp [Wq, ht]) (by simp [Wq, ht]) 9999 w
 check := by
  rintro _ b w ⟨x, rfl⟩
  exact wm ht b 9999 x w
theorem Jcp (a b : Int) : Jco (.int .i64 a) (.int .i64 b) = (a == b) := rfl
structure GE where
  α : Type
  V : α → Value
  LL : α → J3
  x0 : α
inductive Kb
  | quiet
  | pure
  | grow (e : GE)
  | turn
  | dep (ts : List Nat) (e : List Value → GE)
abbrev YV := Nat → Kb
variable {tb : YV}
def Kb.isGrow : Kb → Bool
 | .grow _ => true
 | .dep _ _ => true
 | _ => false
def Xi (a : Act) (ts : List Nat) : List Value := ts.map fun t => a.eval (.tmp t)
def Kb.ge : Kb → Act → Option GE
 | .grow e, _ => some e
 | .dep ts e, a => some (e (Xi a ts))
 | _, _ => none
def Jkg (ops : Array Oper) (tb : YV) (m : Nat) : Prop :=
 ∀ j, j < m → ∀ o, ops[j]? = some o → ∀ ts e, tb j = .dep ts e → ∀ t ∈ ts, t ∈ o.looksAt ops
theorem Jkh {dst : Option Tmp} (h : ∀ d, dst = some d → d ∉ o.looksAt ops) (ht : ∀ t ∈ ts, t ∈ o.looksAt ops) : Xi (a.put dst v) ts = Xi a ts :=
 List.map_congr_left fun t hm => Act.eval_put fun d hd e => by cases e; exact h t hd (ht t hm)
theorem wn {dst : Option Tmp} (hd : Jkg ops tb m) (hj : j < m) (ho : ops[j]? = some o) (h : ∀ d, dst = some d → d ∉ o.looksAt ops) : (tb j).ge (a.put dst v) = (tb j).ge a := by
 cases ht : tb j with
 | dep ts e => show some (e (Xi (a.put dst v) ts)) = some (e (Xi a ts)); rw [Jkh h (hd j hj o ho ts e ht)]
 | _ => rfl
theorem zp {k : Kb} (a : Act) (h : k.isGrow = true) : ∃ e, k.ge a = some e := by
 cases k with
 | grow e => exact ⟨e, rfl⟩
 | dep ts e => exact ⟨_, rfl⟩
 | _ => cases h
def Kb.isTurn : Kb → Bool
 | .turn => true
 | _ => false
def Kb.isQuiet : Kb → Bool
 | .quiet => true
 | _ => false
section
variable {c : Cx} {X : XP} {S : J3} {ops : Array Oper} {md : Region.Mode}
def Jmw (LL : J3) (w w' : World) : Prop := Keep [] w w' ∧ (∀ p ∈ LL, w.heap.size ≤ p.1 ∧ w'.heap[p.1]? = some p.2) ∧ LL.Pairwise fun p q => p.1 ≠ q.1
def YG (c : Cx) (X : XP) (S : J3) (ops : Array Oper) (o : Oper) (e : GE) (a : Act) : Prop :=
 Region.wanted o (yielded ops a.tmps) = true ∧ ∀ E, SubS S E → ∀ w, St c E X w → actAt c o a w fun u w' => ∃ x, u = e.V x ∧ Jmw (e.LL x) w w'
theorem YG.same {e : GE} (hy : YG c X S ops o e a) (he : execOp a'.eval o = execOp a.eval o) (hw : Region.wanted o (yielded ops a'.tmps) = Region.wanted o (yielded ops a.tmps)) : YG c X S ops o e a' :=
 ⟨hw.trans hy.1, fun E hE w hs => (hy.2 E hE w hs).same he⟩
def YT (c : Cx) (E : J3) (X : XP) (ops : Array Oper) (o : Oper) {α : Type} (V : α → Value) (G : α → J3) (a : Act) : Prop :=
 Region.wanted o (yielded ops a.tmps) = true ∧ ∀ w, St c E X w → actAt c o a w fun u w' => ∃ x, u = V x ∧ St c (G x) X w'
def stB (c : Cx) (X : XP) (S : J3) (ops : Array Oper) (tb : YV) (i : Nat) (K : J3 → Act → Prop) (E : J3) (a : Act) : Prop :=
 ∃ o, ops[i]? = some o ∧ match tb i with
  | .quiet => ∃ v, YQ c E X ops o v a ∧ K E (a.put o.dst v)
  | .pure => ∃ v, YP c X S ops o v a ∧ K E (a.put o.dst v)
  | .grow e => (YG c X S ops o e a ∧ ∀ x, K (e.LL x ++ E) (a.put o.dst (e.V x))) ∨ (Region.wanted o (yielded ops a.tmps) = false ∧ K E (a.put o.dst undef))
  | .turn => (∃ (α : Type) (V : α → Value) (G : α → J3), YT c E X ops o V G a ∧ ∀ x, SubS S (G x) ∧ K (G x) (a.put o.dst (V x))) ∨ (Region.wanted o (yielded ops a.tmps) = false ∧ K E (a.put o.dst undef))
  | .dep ts e => (YG c X S ops o (e (Xi a ts)) a ∧ ∀ x, K ((e (Xi a ts)).LL x ++ E) (a.put o.dst ((e (Xi a ts)).V x))) ∨ (Region.wanted o (yielded ops a.tmps) = false ∧ K E (a.put o.dst undef))
theorem qr {E : J3} {e : GE} (h : (tb i).ge a = some e) :
  stB c X S ops tb i K E a ↔ ∃ o, ops[i]? = some o ∧ ((YG c X S ops o e a ∧ ∀ x, K (e.LL x ++ E) (a.put o.dst (e.V x))) ∨ (Region.wanted o (yielded ops a.tmps) = false ∧ K E (a.put o.dst undef))) := by
 unfold stB
 cases ht : tb i with
 | grow e' => rw [ht] at h; cases h; exact Iff.rfl
 | dep ts e' => rw [ht] at h; cases h; exact Iff.rfl
 | _ => rw [ht] at h; cases h
def Xj (c : Cx) (X : XP) (S : J3) (ops : Array Oper) (md : Region.Mode) (tb : YV) (m : Nat) (T : J3 → Array Bool → Act → Prop) : Nat → Array Bool → J3 → Act → Prop
 | 0, listed, E, a => T E listed a
 | f + 1, listed, E, a => Region.ready md ops listed ≠ [] ∧ ∀ i ∈ Region.ready md ops listed, i < m ∧ stB c X S ops tb i (fun E' a' => Xj c X S ops md tb m T f (listed.setIfInBounds i true) E' a') E a
theorem SubS.grow {E LL : J3} (h : SubS S E) : SubS S (LL ++ E) := fun p hp => Y' (h p hp)
theorem YQ.perm {E : J3} (hy : YQ c E X ops o v a) (hp : E.Perm E') : YQ c E' X ops o v a := by
 rcases hy with ⟨h1, h2⟩ | h
 ·exact .inl ⟨h1, fun w hs => h2 w (hs.perm hp.symm)⟩
 ·exact .inr h
theorem Wf {tb : YV} {m : Nat} {T : J3 → Array Bool → Act → Prop} (hTp : ∀ E E' listed a, E.Perm E' → T E listed a → T E' listed a) :
  ∀ (f : Nat) (listed : Array Bool) (E E' : J3) (a : Act), E.Perm E' → Xj c X S ops md tb m T f listed E a → Xj c X S ops md tb m T f listed E' a
 | 0, listed, E, E', a, hp, h => hTp _ _ _ _ hp h
 | f + 1, listed, E, E', a, hp, h => by
  refine ⟨h.1, fun i hi => ⟨(h.2 i hi).1, ?_⟩⟩
  obtain ⟨o, ho, hm⟩ := (h.2 i hi).2
  refine ⟨o, ho, ?_⟩
  cases ha : tb i with
  | quiet => rw [ha] at hm; obtain ⟨v, h1, h2⟩ := hm; exact ⟨v, h1.perm hp, Wf hTp f _ _ _ _ hp h2⟩
  | pure => rw [ha] at hm; obtain ⟨v, h1, h2⟩ := hm; exact ⟨v, h1, Wf hTp f _ _ _ _ hp h2⟩
  | grow e =>
   rw [ha] at hm
   rcases hm with ⟨h1, h2⟩ | ⟨h1, h2⟩
   ·exact .inl ⟨h1, fun x => Wf hTp f _ _ _ _ (hp.append_left _) (h2 x)⟩
   ·exact .inr ⟨h1, Wf hTp f _ _ _ _ hp h2⟩
  | turn =>
   rw [ha] at hm
   rcases hm with ⟨α, V, G, ⟨h1, h2⟩, h3⟩ | ⟨h1, h2⟩
   ·exact .inl ⟨α, V, G, ⟨h1, fun w hs => h2 w (hs.perm hp.symm)⟩, h3⟩
   ·exact .inr ⟨h1, Wf hTp f _ _ _ _ hp h2⟩
  | dep ts e =>
   rw [ha] at hm
   rcases hm with ⟨h1, h2⟩ | ⟨h1, h2⟩
   ·exact .inl ⟨h1, fun x => Wf hTp f _ _ _ _ (hp.append_left _) (h2 x)⟩
   ·exact .inr ⟨h1, Wf hTp f _ _ _ _ hp h2⟩
theorem Jxo {E : J3} (hnd : ∀ (j : Nat) (o : Oper), ops[j]? = some o → KM o.op = true)
  (hs : St c E X w) (hE : SubS S E) (h : ∀ E a w', SubS S E → St c E X w' → K E a → K' a w') (hh : stB c X S ops tb i K E a) : wpOpIn (FW c.ro) 0 c.P ops Q' i K' a w := by
 obtain ⟨o, ho, hm⟩ := hh
 have no : Region.wanted o (yielded ops a.tmps) = false → K E (a.put o.dst undef) → wpOpIn (FW c.ro) 0 c.P ops Q' i K' a w := fun hw hk => by
  exact DP
 have yes : ∀ v, YQ c E X ops o v a → K E (a.put o.dst v) → wpOpIn (FW c.ro) 0 c.P ops Q' i K' a w := fun v hy hk => by
  rcases hy with ⟨hw, hq⟩ | ⟨hw, rfl⟩
  ·exact DB
  ·exact no hw hk
 cases ha : tb i with
 | quiet => rw [ha] at hm; obtain ⟨v, h1, h2⟩ := hm; exact yes v h1 h2
 | pure => rw [ha] at hm; obtain ⟨v, h1, h2⟩ := hm; exact yes v (h1.quiet hE) h2
 | grow e =>
  rw [ha] at hm
  rcases hm with ⟨⟨hw, hr⟩, h2⟩ | ⟨hw, h2⟩
  ·exact HX
  ·exact no hw h2
 | turn =>
  rw [ha] at hm
  rcases hm with ⟨α, V, G, ⟨hw, hr⟩, h2⟩ | ⟨hw, h2⟩
  ·exact Du
  ·exact no hw h2
 | dep ts e =>
  rw [ha] at hm
  rcases hm with ⟨⟨hw, hr⟩, h2⟩ | ⟨hw, h2⟩
  ·exact HX
  ·exact no hw h2
theorem xO {tb : YV} {m g : Nat} {T : J3 → Array Bool → Act → Prop} {Q' : Exit → Act → World → Prop} (hnd : ∀ (j : Nat) (o : Oper), ops[j]? = some o → KM o.op = true)
  (hT : ∀ E listed a w, SubS S E → St c E X w → T E listed a → wpAnyIn (FW c.ro) 0 c.P md ops Q' g listed a w) :
  ∀ (f : Nat) (listed : Array Bool) (E : J3) (a : Act) (w : World), SubS S E → St c E X w → Xj c X S ops md tb m T f listed E a → wpAnyIn (FW c.ro) 0 c.P md ops Q' (f + g) listed a w
 | 0, listed, E, a, w, hE, hw, h => by rw [Nat.zero_add]; exact hT _ _ _ _ hE hw h
 | f + 1, listed, E, a, w, hE, hw, h => by
  rw [show f + 1 + g = (f + g) + 1 from by omega]
  exact ⟨fun h0 => absurd h0 h.1, fun i hi => Jxo hnd hw hE (fun E' a' w' hE' hw' h' => xO hnd hT f _ E' a' w' hE' hw' h') (h.2 i hi).2⟩
def Jfh (md : Region.Mode) (ops : Array Oper) (tb : YV) (m i : Nat) : Prop :=
 tb i = .quiet → ∀ j, j < m → tb j = .turn → ∀ listed, i ∈ Region.ready md ops listed → j ∈ Region.ready md ops listed → False
def okG (md : Region.Mode) (ops : Array Oper) (tb : YV) (i : Nat) : Nat → Array Bool → Bool
 | 0, listed => (Region.ready md ops listed).all fun j => j == i
 | f + 1, listed => (Region.ready md ops listed).all fun j => j == i || ((tb j).isGrow && okG md ops tb i f (listed.setIfInBounds j true))
theorem Jfi (hi : ops[i]? = some oi) (hai : tb i = .quiet ∨ tb i = .pure) (hsel : ∀ (j : Nat) (o : Oper) cs b, ops[j]? = some o → o.op ≠ .select cs b)
  (hbd : Jfh md ops tb m i) (hdep : Jkg ops tb m)
  (hlt : ∀ listed, HeadInv md ops m listed → listed.getD i true = false → ∀ j ∈ Region.ready md ops listed, j < m)
  (hT : ∀ E listed a, T E listed a → ∀ j ∈ Region.ready md ops listed, m ≤ j) :
  ∀ (f : Nat) (listed : Array Bool) (E : J3) (a : Act), HeadInv md ops m listed →
   (∀ j oj, ops[j]? = some oj → j ≠ i → listed.getD j true = false → (∀ e ∈ oj.after, Region.binds md e = true → e.on ≠ i) → oi.apart ops oj = true) →
   SubS S E → i ∈ Region.ready md ops listed → (YQ c E X ops oi v a ∧ (tb i = .pure → YP c X S ops oi v a)) →
   Xj c X S ops md tb m T f (listed.setIfInBounds i true) E (a.put oi.dst v) → Xj c X S ops md tb m T (f + 1) listed E a := by
 have self : ∀ {K : J3 → Act → Prop} {E : J3} {a : Act}, (YQ c E X ops oi v a ∧ (tb i = .pure → YP c X S ops oi v a)) → K E (a.put oi.dst v) → stB c X S ops tb i K E a := by
  intro K E a hy H
  refine ⟨oi, hi, ?_⟩
  rcases hai with h | h <;> rw [h]
  ·exact ⟨v, hy.1, H⟩
  ·exact ⟨v, hy.2 h, H⟩
 intro f
 induction f with
 | zero =>
  intro listed E a inv _ hSE hr hy H
  refine ⟨fun h => nc, fun j hj => ⟨hlt _ inv (mem_ready.1 hr).1 j hj, ?_⟩⟩
  by_cases hji : j = i
  ·subst hji; exact self hy H
  ·exact Eb
 | succ f ih =>
  intro listed E a inv hfree hSE hr hy H
  refine ⟨fun h => nc, fun j hj => ?_⟩
  have hjm := hlt _ inv (mem_ready.1 hr).1 j hj
  refine ⟨hjm, ?_⟩
  by_cases hji : j = i
  ·subst hji; exact self hy H
  ·obtain ⟨oj, hoj, hm⟩ := (H.2 j (ready_mono hj hji)).2
   obtain ⟨hjun, oj', hoj', hall⟩ := mem_ready.1 hj
   rw [hoj] at hoj'
   cases hoj'
   have hnot : ∀ e ∈ oj.after, Region.binds md e = true → e.on ≠ i := fun e he hb heq => by
    have h2 := hall e he hb
    rw [heq, getD_both (mem_ready.1 hr).1] at h2
    cases h2
   obtain ⟨h1, h2, h3⟩ := Oper.apart_spec (hfree j oj hoj hji hjun hnot)
   have hfree' : ∀ k ok, ops[k]? = some ok → k ≠ i → (listed.setIfInBounds j true).getD k true = false →
     (∀ e ∈ ok.after, Region.binds md e = true → e.on ≠ i) → oi.apart ops ok = true := fun k ok hk hki hun hno => by
    refine hfree k ok hk hki ?_ hno
    by_cases hjk : j = k
    ·subst hjk; exact hjun
    ·exact Ek
   have back1 := fun u => (execOp_put oj (fun cs b => hsel j oj cs b hoj) a oi.dst u h1)
   have back2 := fun u => (wanted_put oj a oi.dst u h1)
   have forth1 := fun u => (execOp_put oi (fun cs b => hsel i oi cs b hi) a oj.dst u h3)
   have forth2 := fun u => (wanted_put oi a oj.dst u h3)
   have go : ∀ E' u, SubS S E' → (E.Sublist E' ∨ tb i = .pure) → Xj c X S ops md tb m T f ((listed.setIfInBounds i true).setIfInBounds j true) E' ((a.put oi.dst v).put oj.dst u) →
     Xj c X S ops md tb m T (f + 1) (listed.setIfInBounds j true) E' (a.put oj.dst u) := fun E' u hSE' hsub hK => by
    refine ih (listed.setIfInBounds j true) E' (a.put oj.dst u) (inv.set hj hjm) hfree' hSE' (ready_mono hr (Ne.symm hji)) ⟨?_, fun hp => (hy.2 hp).same (forth1 u) (forth2 u)⟩ ?_
    ·rcases hsub with hsub | hp
     ·exact (hy.1.weak hsub).same (forth1 u) (forth2 u)
     ·exact ((hy.2 hp).same (forth1 u) (forth2 u)).quiet hSE'
    ·rw [Array.setIfInBounds_comm _ _ hji, ← Act.put_comm a v u h2]
     exact hK
   refine ⟨oj, hoj, ?_⟩
   cases ha : tb j with
   | quiet => rw [ha] at hm; obtain ⟨u, g1, g2⟩ := hm; exact ⟨u, g1.same (back1 v).symm (back2 v).symm, go E u hSE (.inl (T')) g2⟩
   | pure => rw [ha] at hm; obtain ⟨u, g1, g2⟩ := hm; exact ⟨u, g1.same (back1 v).symm (back2 v).symm, go E u hSE (.inl (T')) g2⟩
   | grow e =>
    rw [ha] at hm
    rcases hm with ⟨g1, g2⟩ | ⟨g1, g2⟩
    ·exact D3
    ·exact Hd
   | turn =>
    rw [ha] at hm
    rcases hm with ⟨α, V, G, ⟨g0, g1⟩, g2⟩ | ⟨g1, g2⟩
    ·refine .inl ⟨α, V, G, ⟨(back2 v).symm.trans g0, fun w hs => (g1 w hs).same (back1 v).symm⟩, fun x => ⟨(g2 x).1, go _ _ (g2 x).1 ?_ (g2 x).2⟩⟩
     rcases hai with hq | hp
     ·exact (hbd hq j hjm ha listed hr hj).elim
     ·exact .inr hp
    ·exact Hd
   | dep ts e =>
    obtain ⟨o', ho', hm'⟩ := (qr (e := e (Xi a ts)) ((wn hdep hjm hoj h1).trans nT)).1 (H.2 j (ready_mono hj hji)).2
    rw [hoj] at ho'
    cases ho'
    rcases hm' with ⟨g1, g2⟩ | ⟨g1, g2⟩
    ·exact D3
    ·exact Hd
theorem Jcq (hi : ops[i]? = some oi) (hai : (tb i).isGrow = true) (hdep : Jkg ops tb m) (hsel : ∀ (j : Nat) (o : Oper) cs b, ops[j]? = some o → o.op ≠ .select cs b)
  (hlt : ∀ listed, HeadInv md ops m listed → listed.getD i true = false → ∀ j ∈ Region.ready md ops listed, j < m)
  (hT : ∀ E listed a, T E listed a → ∀ j ∈ Region.ready md ops listed, m ≤ j) :
  ∀ (f : Nat) (listed : Array Bool) (E : J3) (a : Act), HeadInv md ops m listed →
   (∀ j oj, ops[j]? = some oj → j ≠ i → listed.getD j true = false → (∀ e ∈ oj.after, Region.binds md e = true → e.on ≠ i) → oi.apart ops oj = true) →
   SubS S E → i ∈ Region.ready md ops listed → Region.wanted oi (yielded ops a.tmps) = false →
   Xj c X S ops md tb m T f (listed.setIfInBounds i true) E (a.put oi.dst undef) → Xj c X S ops md tb m T (f + 1) listed E a := by
 have self : ∀ {K : J3 → Act → Prop} {E : J3} {a : Act}, Region.wanted oi (yielded ops a.tmps) = false → K E (a.put oi.dst undef) → stB c X S ops tb i K E a := by
  intro K E a hy H
  obtain ⟨e, he⟩ := zp a hai
  exact (qr he).2 ⟨oi, hi, .inr ⟨hy, H⟩⟩
 intro f
 induction f with
 | zero =>
  intro listed E a inv _ hSE hr hy H
  refine ⟨fun h => nc, fun j hj => ⟨hlt _ inv (mem_ready.1 hr).1 j hj, ?_⟩⟩
  by_cases hji : j = i
  ·subst hji; exact self hy H
  ·exact Eb
 | succ f ih =>
  intro listed E a inv hfree hSE hr hy H
  refine ⟨fun h => nc, fun j hj => ?_⟩
  have hjm := hlt _ inv (mem_ready.1 hr).1 j hj
  refine ⟨hjm, ?_⟩
  by_cases hji : j = i
  ·subst hji; exact self hy H
  ·obtain ⟨oj, hoj, hm⟩ := (H.2 j (ready_mono hj hji)).2
   obtain ⟨hjun, oj', hoj', hall⟩ := mem_ready.1 hj
   rw [hoj] at hoj'
   cases hoj'
   have hnot : ∀ e ∈ oj.after, Region.binds md e = true → e.on ≠ i := fun e he hb heq => by
    have h2 := hall e he hb
    rw [heq, getD_both (mem_ready.1 hr).1] at h2
    cases h2
   obtain ⟨h1, h2, h3⟩ := Oper.apart_spec (hfree j oj hoj hji hjun hnot)
   have hfree' : ∀ k ok, ops[k]? = some ok → k ≠ i → (listed.setIfInBounds j true).getD k true = false →
     (∀ e ∈ ok.after, Region.binds md e = true → e.on ≠ i) → oi.apart ops ok = true := fun k ok hk hki hun hno => by
    refine hfree k ok hk hki ?_ hno
    by_cases hjk : j = k
    ·subst hjk; exact hjun
    ·exact Ek
   have back1 := fun u => (execOp_put oj (fun cs b => hsel j oj cs b hoj) a oi.dst u h1)
   have back2 := fun u => (wanted_put oj a oi.dst u h1)
   have forth1 := fun u => (execOp_put oi (fun cs b => hsel i oi cs b hi) a oj.dst u h3)
   have forth2 := fun u => (wanted_put oi a oj.dst u h3)
   have go : ∀ E' u, SubS S E' → Xj c X S ops md tb m T f ((listed.setIfInBounds i true).setIfInBounds j true) E' ((a.put oi.dst undef).put oj.dst u) →
     Xj c X S ops md tb m T (f + 1) (listed.setIfInBounds j true) E' (a.put oj.dst u) := fun E' u hSE' hK => by
    refine ih (listed.setIfInBounds j true) E' (a.put oj.dst u) (inv.set hj hjm) hfree' hSE' (ready_mono hr (Ne.symm hji)) ((forth2 u).trans hy) ?_
    rw [Array.setIfInBounds_comm _ _ hji, ← Act.put_comm a undef u h2]
    exact hK
   refine ⟨oj, hoj, ?_⟩
   cases ha : tb j with
   | quiet => rw [ha] at hm; obtain ⟨u, g1, g2⟩ := hm; exact ⟨u, g1.same (back1 undef).symm (back2 undef).symm, go E u hSE g2⟩
   | pure => rw [ha] at hm; obtain ⟨u, g1, g2⟩ := hm; exact ⟨u, g1.same (back1 undef).symm (back2 undef).symm, go E u hSE g2⟩
   | grow e =>
    rw [ha] at hm
    rcases hm with ⟨g1, g2⟩ | ⟨g1, g2⟩
    ·exact DO
    ·exact Da
   | turn =>
    rw [ha] at hm
    rcases hm with ⟨α, V, G, ⟨g0, g1⟩, g2⟩ | ⟨g1, g2⟩
    ·exact .inl ⟨α, V, G, ⟨(back2 undef).symm.trans g0, fun w hs => (g1 w hs).same (back1 undef).symm⟩, fun x => ⟨(g2 x).1, go _ _ (g2 x).1 (g2 x).2⟩⟩
    ·exact Da
   | dep ts e =>
    obtain ⟨o', ho', hm'⟩ := (qr (e := e (Xi a ts)) ((wn hdep hjm hoj h1).trans nT)).1 (H.2 j (ready_mono hj hji)).2
    rw [hoj] at ho'
    cases ho'
    rcases hm' with ⟨g1, g2⟩ | ⟨g1, g2⟩
    ·exact DO
    ·exact Da
theorem zq {ei : GE} (hi : ops[i]? = some oi) (him : i < m) (hdep : Jkg ops tb m) (hsel : ∀ (j : Nat) (o : Oper) cs b, ops[j]? = some o → o.op ≠ .select cs b)
  (hTp : ∀ E E' listed a, E.Perm E' → T E listed a → T E' listed a)
  (hlt : ∀ listed, HeadInv md ops m listed → listed.getD i true = false → ∀ j ∈ Region.ready md ops listed, j < m)
  (hT : ∀ E listed a, T E listed a → ∀ j ∈ Region.ready md ops listed, m ≤ j) :
  ∀ (f : Nat) (listed : Array Bool) (E : J3) (a : Act), HeadInv md ops m listed →
   (∀ j oj, ops[j]? = some oj → j ≠ i → listed.getD j true = false → (∀ e ∈ oj.after, Region.binds md e = true → e.on ≠ i) → oi.apart ops oj = true) →
   SubS S E → (tb i).ge a = some ei → i ∈ Region.ready md ops listed → okG md ops tb i f listed = true → YG c X S ops oi ei a →
   (∀ x, Xj c X S ops md tb m T f (listed.setIfInBounds i true) (ei.LL x ++ E) (a.put oi.dst (ei.V x))) → Xj c X S ops md tb m T (f + 1) listed E a := by
 have self : ∀ {K : J3 → Act → Prop} {E : J3} {a : Act}, (tb i).ge a = some ei → YG c X S ops oi ei a → (∀ x, K (ei.LL x ++ E) (a.put oi.dst (ei.V x))) → stB c X S ops tb i K E a := by
  intro K E a hai hy H
  exact (qr hai).2 ⟨oi, hi, .inl ⟨hy, H⟩⟩
 intro f
 induction f with
 | zero =>
  intro listed E a inv _ hSE hai hr hok hy H
  refine ⟨fun h => nc, fun j hj => ⟨hlt _ inv (mem_ready.1 hr).1 j hj, ?_⟩⟩
  by_cases hji : j = i
  ·subst hji; exact self hai hy H
  ·have h1 := hT _ _ _ (H ei.x0) j (ready_mono hj hji)
   have h2 := hlt _ inv (mem_ready.1 hr).1 j hj
   omega
 | succ f ih =>
  intro listed E a inv hfree hSE hai hr hok hy H
  refine ⟨fun h => nc, fun j hj => ?_⟩
  have hjm := hlt _ inv (mem_ready.1 hr).1 j hj
  refine ⟨hjm, ?_⟩
  by_cases hji : j = i
  ·subst hji; exact self hai hy H
  ·unfold okG at hok
   have hokj := List.all_eq_true.1 hok j hj
   simp only [Bool.or_eq_true, beq_iff_eq, hji, false_or, Bool.and_eq_true] at hokj
   obtain ⟨hgj, hok'⟩ := hokj
   obtain ⟨ej, ha⟩ := zp a hgj
   obtain ⟨hjun, oj, hoj, hall⟩ := mem_ready.1 hj
   have hnot : ∀ e ∈ oj.after, Region.binds md e = true → e.on ≠ i := fun e he hb heq => by
    have h2 := hall e he hb
    rw [heq, getD_both (mem_ready.1 hr).1] at h2
    cases h2
   obtain ⟨h1, h2, h3⟩ := Oper.apart_spec (hfree j oj hoj hji hjun hnot)
   have hfree' : ∀ k ok, ops[k]? = some ok → k ≠ i → (listed.setIfInBounds j true).getD k true = false →
     (∀ e ∈ ok.after, Region.binds md e = true → e.on ≠ i) → oi.apart ops ok = true := fun k ok hk hki hun hno => by
    refine hfree k ok hk hki ?_ hno
    by_cases hjk : j = k
    ·subst hjk; exact hjun
    ·exact Ek
   have back1 := fun u => (execOp_put oj (fun cs b => hsel j oj cs b hoj) a oi.dst u h1)
   have back2 := fun u => (wanted_put oj a oi.dst u h1)
   have forth1 := fun u => (execOp_put oi (fun cs b => hsel i oi cs b hi) a oj.dst u h3)
   have forth2 := fun u => (wanted_put oi a oj.dst u h3)
   have hstep : ∀ x, (YG c X S ops oj ej (a.put oi.dst (ei.V x)) ∧ ∀ y, Xj c X S ops md tb m T f ((listed.setIfInBounds i true).setIfInBounds j true) (ej.LL y ++ (ei.LL x ++ E)) ((a.put oi.dst (ei.V x)).put oj.dst (ej.V y))) ∨
     (Region.wanted oj (yielded ops (a.put oi.dst (ei.V x)).tmps) = false ∧ Xj c X S ops md tb m T f ((listed.setIfInBounds i true).setIfInBounds j true) (ei.LL x ++ E) ((a.put oi.dst (ei.V x)).put oj.dst undef)) := fun x => by
    obtain ⟨o', ho', hm⟩ := (qr ((wn hdep hjm hoj h1).trans ha)).1 ((H x).2 j (ready_mono hj hji)).2
    rw [hoj] at ho'
    cases ho'
    exact hm
   refine (qr ha).2 ⟨oj, hoj, ?_⟩
   cases hw : Region.wanted oj (yielded ops a.tmps) with
   | true =>
    have hpos : ∀ x, YG c X S ops oj ej (a.put oi.dst (ei.V x)) ∧ ∀ y, Xj c X S ops md tb m T f ((listed.setIfInBounds i true).setIfInBounds j true) (ej.LL y ++ (ei.LL x ++ E)) ((a.put oi.dst (ei.V x)).put oj.dst (ej.V y)) := fun x => by
     rcases hstep x with h | h
     ·exact h
     ·have := (back2 (ei.V x)).symm.trans h.1; rw [hw] at this; cases this
    refine .inl ⟨(hpos ei.x0).1.same (back1 _).symm (back2 _).symm, fun y => ?_⟩
    refine ih (listed.setIfInBounds j true) (ej.LL y ++ E) (a.put oj.dst (ej.V y)) (inv.set hj hjm) hfree' hSE.grow ((wn hdep him hi h3).trans hai) (ready_mono hr (Ne.symm hji)) hok' (hy.same (forth1 _) (forth2 _)) fun x => ?_
    rw [Array.setIfInBounds_comm _ _ hji, ← Act.put_comm a _ _ h2]
    refine Wf hTp f _ _ _ _ ?_ ((hpos x).2 y)
    rw [← Ld', ← Ld']
    exact List.Perm.append_right _ B'
   | false =>
    have hneg : ∀ x, Xj c X S ops md tb m T f ((listed.setIfInBounds i true).setIfInBounds j true) (ei.LL x ++ E) ((a.put oi.dst (ei.V x)).put oj.dst undef) := fun x => by
     rcases hstep x with h | h
     ·have := (back2 (ei.V x)).symm.trans h.1.1; rw [hw] at this; cases this
     ·exact h.2
    refine .inr ⟨rfl, ?_⟩
    refine ih (listed.setIfInBounds j true) E (a.put oj.dst undef) (inv.set hj hjm) hfree' hSE ((wn hdep him hi h3).trans hai) (ready_mono hr (Ne.symm hji)) hok' (hy.same (forth1 _) (forth2 _)) fun x => ?_
    rw [Array.setIfInBounds_comm _ _ hji, ← Act.put_comm a _ _ h2]
    exact hneg x
inductive OT
  | nil
  | one (k : Nat) (t : OT)
  | two (k1 : Nat) (t1 : OT) (k2 : Nat) (t2 : OT)
def Jki (c : Cx) (X : XP) (S : J3) (ops : Array Oper) (tb : YV) (T : J3 → Act → Prop) : List Nat → J3 → Act → Prop
 | [], E, a => T E a
 | k :: rest, E, a => stB c X S ops tb k (fun E' a' => Jki c X S ops tb T rest E' a') E a
theorem wo  {K' : J3 → Act → Prop} {E : J3} (h : stB c X S ops tb i K E a) (hSE : SubS S E) (hK : ∀ E a, SubS S E → K E a → K' E a) : stB c X S ops tb i K' E a := by
 obtain ⟨o, h0, hm⟩ := h
 refine ⟨o, h0, ?_⟩
 cases ht : tb i with
 | quiet => rw [ht] at hm; obtain ⟨v, h1, h2⟩ := hm; exact ⟨v, h1, hK _ _ hSE h2⟩
 | pure => rw [ht] at hm; obtain ⟨v, h1, h2⟩ := hm; exact ⟨v, h1, hK _ _ hSE h2⟩
 | grow e => rw [ht] at hm; exact hm.imp (fun h => ⟨h.1, fun x => hK _ _ hSE.grow (h.2 x)⟩) (fun h => ⟨h.1, hK _ _ hSE h.2⟩)
 | turn => rw [ht] at hm; exact hm.imp (fun ⟨α, V, G, h1, h2⟩ => ⟨α, V, G, h1, fun x => ⟨(h2 x).1, hK _ _ (h2 x).1 (h2 x).2⟩⟩) (fun h => ⟨h.1, hK _ _ hSE h.2⟩)
 | dep ts e => rw [ht] at hm; exact hm.imp (fun h => ⟨h.1, fun x => hK _ _ hSE.grow (h.2 x)⟩) (fun h => ⟨h.1, hK _ _ hSE h.2⟩)
def yG (c : Cx) (X : XP) (S : J3) (ops : Array Oper) (tb : YV) (T : J3 → Act → Prop) : OT → J3 → Act → Prop
 | .nil, E, a => T E a
 | .one k t, E, a => stB c X S ops tb k (fun E' a' => yG c X S ops tb T t E' a') E a
 | .two k1 t1 k2 t2, E, a => stB c X S ops tb k1 (fun E' a' => yG c X S ops tb T t1 E' a') E a ∧ stB c X S ops tb k2 (fun E' a' => yG c X S ops tb T t2 E' a') E a
def Jcr (md : Region.Mode) (ops : Array Oper) (m g : Nat) : Nat → OT → Array Bool → Bool
 | 0, .nil, listed => Region.seqB md ops g m listed
 | n + 1, .one k t, listed => Nat.blt k m && decide (Region.ready md ops listed = [k]) && Jcr md ops m g n t (listed.setIfInBounds k true)
 | n + 1, .two k1 t1 k2 t2, listed => Nat.blt k1 m && Nat.blt k2 m && decide (Region.ready md ops listed = [k1, k2]) && Jcr md ops m g n t1 (listed.setIfInBounds k1 true) && Jcr md ops m g n t2 (listed.setIfInBounds k2 true)
 | _, _, _ => false
theorem xP {tb : YV} {m g : Nat} {T : J3 → Act → Prop} : ∀ (n : Nat) (t : OT) (listed : Array Bool) (E : J3) (a : Act), SubS S E → Jcr md ops m g n t listed = true → yG c X S ops tb T t E a →
    Xj c X S ops md tb m (fun E' listed' a' => Region.seqB md ops g m listed' = true ∧ T E' a') n listed E a
  | 0, .nil, listed, E, a, _, hB, h => ⟨by simpa [Jcr] using hB, h⟩
  | n + 1, .one k t, listed, E, a, hS, hB, h => by
    simp only [Jcr, Bool.and_eq_true, decide_eq_true_eq] at hB
    obtain ⟨⟨hk, hr⟩, hB⟩ := hB
    refine ⟨by rw [hr]; simp, fun i hi => ?_⟩
    rw [hr] at hi
    rw [U'.1 hi]
    exact ⟨by have : k + 1 ≤ m := H' hk
              omega, wo h hS fun E' a' hS' h' => xP n t _ E' a' hS' hB h'⟩
  | n + 1, .two k1 t1 k2 t2, listed, E, a, hS, hB, h => by
    simp only [Jcr, Bool.and_eq_true, decide_eq_true_eq] at hB
    obtain ⟨⟨⟨⟨hk1, hk2⟩, hr⟩, hB1⟩, hB2⟩ := hB
    have l1 : k1 + 1 ≤ m := H' hk1
    have l2 : k2 + 1 ≤ m := H' hk2
    refine ⟨by rw [hr]; simp, fun i hi => ?_⟩
    rw [hr] at hi
    rcases F'.1 hi with rfl | hi
    · exact ⟨by omega, wo h.1 hS fun E' a' hS' h' => xP n t1 _ E' a' hS' hB1 h'⟩
    · rw [U'.1 hi]
      exact ⟨by omega, wo h.2 hS fun E' a' hS' h' => xP n t2 _ E' a' hS' hB2 h'⟩
def zv (md : Region.Mode) (ops : Array Oper) (tb : YV) (m n : Nat) (G : Array Bool → Bool) : List Nat → Array Bool → Bool
  | [], listed => G listed
  | k :: r, listed => Nat.blt k m && (match (tb k).isTurn with
      | true => decide (Region.ready md ops listed = [k])
      | false => (Region.ready md ops listed).contains k && Region.free md ops listed k && (!(tb k).isGrow || okG md ops tb k (r.length + n) listed)) && zv md ops tb m n G r (listed.setIfInBounds k true)
theorem qt {tb : YV} {m n : Nat} {G GG : Array Bool → Bool} {TT T : J3 → Act → Prop} (hbase : ∀ listed E a, SubS S E → G listed = true → TT E a → Xj c X S ops md tb m (fun E' listed' a' => GG listed' = true ∧ T E' a') n listed E a) (hsel : Region.noSelect ops = true) (hTp : ∀ E E' a, E.Perm E' → T E a → T E' a) (hbd : ∀ i, i < m → Jfh md ops tb m i) (hdep : Jkg ops tb m) (hlt : ∀ i, i < m → ∀ listed, HeadInv md ops m listed → listed.getD i true = false → ∀ j ∈ Region.ready md ops listed, j < m)
  (hseq : ∀ listed, GG listed = true → ∀ j ∈ Region.ready md ops listed, m ≤ j) :
  ∀ (l : List Nat) (listed : Array Bool) (E : J3) (a : Act), HeadInv md ops m listed → SubS S E →
  zv md ops tb m n G l listed = true → Jki c X S ops tb TT l E a →
  Xj c X S ops md tb m (fun E' listed' a' => GG listed' = true ∧ T E' a') (l.length + n) listed E a
 | [], listed, E, a, _, hSE, hB, h => by
  rw [List.length_nil, Nat.zero_add]
  exact hbase listed E a hSE (by simpa [zv] using hB) h
 | k :: l, listed, E, a, inv, hSE, hB, h => by
  rw [List.length_cons, show l.length + 1 + n = (l.length + n) + 1 from by omega]
  simp only [zv, Bool.and_eq_true] at hB
  obtain ⟨⟨hkm, hr⟩, hB'⟩ := hB
  have hkm : k < m := by
   have : k + 1 ≤ m := H' hkm
   omega
  have hr' : k ∈ Region.ready md ops listed := by
   cases ht : (tb k).isTurn with
   | true => rw [ht] at hr; simp only [decide_eq_true_eq] at hr; rw [hr]; exact N'
   | false => rw [ht] at hr; simp only [Bool.and_eq_true] at hr; simpa using hr.1.1
  have next : ∀ E' a', SubS S E' → Jki c X S ops tb TT l E' a' → Xj c X S ops md tb m (fun E' listed' a' => GG listed' = true ∧ T E' a') (l.length + n) (listed.setIfInBounds k true) E' a' := fun E' a' hSE' hw =>
   qt hbase hsel hTp hbd hdep hlt hseq l _ E' a' (inv.set hr' hkm) hSE' hB' hw
  obtain ⟨o, h0, hm⟩ := h
  have quiet : (tb k).isTurn = false → ∀ v, (tb k = .quiet ∨ tb k = .pure) → (YQ c E X ops o v a ∧ (tb k = .pure → YP c X S ops o v a)) → Jki c X S ops tb TT l E (a.put o.dst v) →
    Xj c X S ops md tb m (fun E' listed' a' => GG listed' = true ∧ T E' a') ((l.length + n) + 1) listed E a := fun hnt v hai hy hw => by
   rw [hnt] at hr
   simp only [Bool.and_eq_true] at hr
   exact Jfi h0 hai (Region.noSelect_spec hsel) (hbd k hkm) hdep (hlt k hkm) (fun E' listed' a' hL => hseq _ hL.1) (l.length + n) listed E a inv (Region.free_spec h0 hr.1.2) hSE hr' hy (next _ _ hSE hw)
  cases ha : tb k with
  | quiet => rw [ha] at hm; obtain ⟨v, hy, hw⟩ := hm; exact quiet nT v (.inl ha) ⟨hy, fun e => by rw [ha] at e; cases e⟩ hw
  | pure => rw [ha] at hm; obtain ⟨v, hy, hw⟩ := hm; exact quiet nT v (.inr ha) ⟨hy.quiet hSE, fun _ => hy⟩ hw
  | grow e =>
   rw [ha] at hm hr
   simp only [Kb.isTurn, Kb.isGrow, Bool.not_true, Bool.false_or, Bool.and_eq_true] at hr
   rcases hm with ⟨h1, h2⟩ | ⟨h1, h2⟩
   ·exact G8
   ·exact GU
  | dep ts e =>
   rw [ha] at hm hr
   simp only [Kb.isTurn, Kb.isGrow, Bool.not_true, Bool.false_or, Bool.and_eq_true] at hr
   rcases hm with ⟨h1, h2⟩ | ⟨h1, h2⟩
   ·exact G8
   ·exact GU
  | turn =>
   rw [ha] at hm hr
   simp only [Kb.isTurn, decide_eq_true_eq] at hr
   refine ⟨fun e => (by rw [e] at hr'; cases hr'), fun i hi => ?_⟩
   rw [hr] at hi
   have hik : i = k := by simpa using hi
   subst hik
   refine ⟨hkm, o, h0, ?_⟩
   rw [ha]
   rcases hm with ⟨α, V, G, h1, h2⟩ | ⟨h1, h2⟩
   ·exact .inl ⟨α, V, G, h1, fun x => ⟨(h2 x).1, next _ _ (h2 x).1 (h2 x).2⟩⟩
   ·exact .inr ⟨h1, next _ _ hSE h2⟩
def Zd : List (Nat × Kb) → YV
 | [], _ => .quiet
 | (j, p) :: r, k => match Nat.beq k j with | true => p | false => Zd r k
def xQ (md : Region.Mode) (ops : Array Oper) (tb : YV) (m : Nat) : Bool :=
 (List.range m).all fun j => if (tb j).isTurn then (List.range m).all fun i => !(tb i).isQuiet || onB md ops j i || onB md ops i j else true
theorem j7 (h : xQ md ops tb m = true) (hi : i < m) : Jfh md ops tb m i := fun hq j hj he listed hir hjr => by
 have h1 := List.all_eq_true.1 h j (List.mem_range.2 hj)
 rw [he] at h1
 simp only [Kb.isTurn, if_true] at h1
 have h2 := List.all_eq_true.1 h1 i (List.mem_range.2 hi)
 rw [hq] at h2
 simp only [Kb.isQuiet, Bool.not_true, Bool.false_or, Bool.or_eq_true] at h2
 rcases h2 with h2 | h2
 ·exact xC h2 hjr hir
 ·exact xC h2 hir hjr
end
section
variable {c : Cx} {l : KY} {L E : J3} {X : XP} {Q : Exit → Act → World → Prop} {d : List Deferred}
variable {ops : Array Oper} {rest : List Nat} {i k : Nat} {v : Value} {o : Oper} {tb : YV} {S : J3} {T : J3 → Act → Prop}
def HB (c : Cx) (d : List Deferred) (l : KY) (E : J3) (X : XP) (S : J3) (ops : Array Oper) (tb : YV) (rest : List Nat) (T : J3 → Act → Prop) : Prop :=
 ∀ a, Fr c.n d l a → Jki c X S ops tb T rest E a
def Jxp (ops : Array Oper) (tb : YV) (m : Nat) : Bool :=
 (List.range m).all fun j => match tb j with
  | .dep ts _ => match ops[j]? with
   | some o => ts.all fun t => (o.looksAt ops).contains t
   | none => true
  | _ => true
theorem zy (h : Jxp ops tb m = true) : Jkg ops tb m := fun j hj o ho ts e ht t hm => by
 have h1 := List.all_eq_true.1 h j (List.mem_range.2 hj)
 rw [ht] at h1
 simp only [ho] at h1
 simpa using List.all_eq_true.1 h1 t hm
def J0g (md : Region.Mode) (ops : Array Oper) (tb : YV) (m g n : Nat) (t : OT) : List Nat → Array Bool → Bool := zv md ops tb m n (Jcr md ops m g n t)
def Jfj (ops : List Oper) (tb : YV) (m n : Nat) (order : List Nat) (t : OT) : Bool :=
 (ops.all fun o => KM o.op) && Region.noSelect ops.toArray && Nat.ble m ops.length && Nat.beq (order.length + n) m &&
 (Nat.beq m ops.length || (Region.sinkB .any ops.toArray m && Region.chainB .any ops.toArray m)) && xQ .any ops.toArray tb m && Jxp ops.toArray tb m &&
 J0g .any ops.toArray tb m (ops.length - m) n t order (Array.replicate ops.length false)
def Jxq (ops : List Oper) (tb : YV) (m : Nat) (order : List Nat) : Bool := Jfj ops tb m 0 order .nil
theorem wp {ops : List Oper} (S : J3) (tab : List (Nat × Kb)) (m n : Nat) (order : List Nat) (t : OT) (hm : c.P.follows .mixedOrders = true) (hB : Jfj ops (Zd tab) m n order t = true) (hSL : SubS S L)
  (h : HB c d l L X S ops.toArray (Zd tab) order (yG c X S ops.toArray (Zd tab) (fun E a' => ∀ w, St c E X w → wpListIn (FW c.ro) 0 c.P ops.toArray Q (ops.drop m) a' w) t)) : HC c d l L X (.region id ops.toArray true) Q := fun a w hf hs => by
 simp only [Jfj, Bool.and_eq_true, Bool.or_eq_true] at hB
 obtain ⟨⟨⟨⟨⟨⟨⟨h1, hsel⟩, hle⟩, hol⟩, hsc⟩, hcr⟩, hdp⟩, hlex⟩ := hB
 have hle' := H' hle
 have hol' := Nat.eq_of_beq_eq_true hol
 have hnd : ∀ (j : Nat) (o : Oper), ops.toArray[j]? = some o → KM o.op = true := fun j o ho => List.all_eq_true.1 h1 o (List.mem_of_getElem? Ml)
 have hdl : (ops.drop m).length = ops.length - m := by simp
 have hlt : ∀ i, i < m → ∀ listed, HeadInv .any ops.toArray m listed → listed.getD i true = false → ∀ j ∈ Region.ready .any ops.toArray listed, j < m := by
  intro i hi listed inv hun j hj
  rcases Nat.lt_or_ge j m with hjm | hjm
  exact hjm
  have hjs : j < ops.length := by obtain ⟨_, oj, hoj, _⟩ := mem_ready.1 hj; simpa using (Array.getElem?_eq_some_iff.1 hoj).1
  rcases hsc with h0 | ⟨h2, h3⟩
  exact F4
  exact Dd
 have inv0 : HeadInv .any ops.toArray m (Array.replicate ops.length false) :=
  ⟨by simp, fun j oj _ hl => nL, fun t _ ht => getD_in MI (getD_replicate_false _ _)⟩
 have H := qt (c := c) (X := X) (md := .any) (n := n) (GG := Region.seqB .any ops.toArray (ops.length - m) m) (fun listed E a hS hG hT => xP n t listed E a hS hG hT) hsel (fun E E' a hp hT w hs => hT w (hs.perm hp.symm)) (fun i hi => j7 hcr hi) (zy hdp) hlt (fun listed hq => seqB_ready hq) order _ L a inv0 hSL hlex (h a hf)
 refine wpIn_region_any hm ?_
 have := xO (Q' := Q) (g := ops.length - m) hnd (fun E' listed a' w' _ hw' hL => by
  have := WY (ro := c.ro) (P := c.P) (md := .any) (Q' := Q) (ops.drop m) m listed a' w' (fun j => by simp [List.getElem?_drop]) MK (hL.2 w' hw')
  rwa [hdl] at this) _ _ _ _ _ hSL Mr H
 rw [hol', show m + (ops.length - m) = ops.toArray.size from by simp; omega] at this
 simpa using this
theorem Kk {ops : List Oper} (S : J3) (tab : List (Nat × Kb)) (m : Nat) (order : List Nat) (hm : c.P.follows .mixedOrders = true) (hB : Jxq ops (Zd tab) m order = true) (hSL : SubS S L)
  (h : HB c d l L X S ops.toArray (Zd tab) order (fun E a' => ∀ w, St c E X w → wpListIn (FW c.ro) 0 c.P ops.toArray Q (ops.drop m) a' w)) : HC c d l L X (.region id ops.toArray true) Q :=
 wp S tab m 0 order .nil hm hB hSL h
theorem KJ (h : HL c d l E X ops tail Q) : HB c d l E X S ops tb [] (fun E' a' => ∀ w, St c E' X w → wpListIn (FW c.ro) 0 c.P ops Q tail a' w) :=
 fun a hf w hs => h a w hf hs
theorem Xk (hk : X3 ops.toList k = some o) (hg : KW l ops o = some true) (hd : o.dst = some i) (hi : Nat.ble (i + 1) c.n = true) (hA : tb k = .quiet) (hr : Kg c d l E X o v) (h : HB c d ((i, v) :: l) E X S ops tb rest T) : HB c d l E X S ops tb (k :: rest) T := fun a hf => by
 refine ⟨o, Vn hk, ?_⟩
 rw [hA]
 refine ⟨v, .inl ⟨Kh hf hg, fun w hs => Zu (hr a w hf hs) ⟨rfl, Keep.refl _ _⟩⟩, ?_⟩
 rw [hd]; exact h _ (hf.put (H' hi))
theorem Jr (hk : X3 ops.toList k = some o) (hg : KW l ops o = some true) (hd : o.dst = some i) (hi : Nat.ble (i + 1) c.n = true) (hA : tb k = .pure) (hr : ∀ E', SubS S E' → Kg c d l E' X o v) (h : HB c d ((i, v) :: l) E X S ops tb rest T) : HB c d l E X S ops tb (k :: rest) T := fun a hf => by
 refine ⟨o, Vn hk, ?_⟩
 rw [hA]
 refine ⟨v, .inl ⟨Kh hf hg, fun E' hE' w hs => Zu (hr E' hE' a w hf hs) ⟨rfl, Keep.refl _ _⟩⟩, ?_⟩
 rw [hd]; exact h _ (hf.put (H' hi))
theorem Jmx (e : v = v') (h : HB c d ((i, v') :: l) E X S ops tb rest T) : HB c d ((i, v) :: l) E X S ops tb rest T := e ▸ h
theorem VD
  (hk : X3 ops.toList k = some ⟨some i, .call ⟨.value f, args, at_⟩, ty, ps, af, gd⟩) (hg : KW l ops ⟨some i, .call ⟨.value f, args, at_⟩, ty, ps, af, gd⟩ = some true) (hi : Nat.ble (i + 1) c.n = true) (hA : tb k = .pure) (hca : Qw l f args = some (g, vs)) (eg : Enters c.P g)
  (hp : Pure c.P g vs.toArray v) (h : HB c d ((i, v) :: l) E X S ops tb rest T) : HB c d l E X S ops tb (k :: rest) T := fun a hf => by
 refine ⟨_, Vn hk, ?_⟩
 rw [hA]
 exact ⟨v, .inl ⟨Kh hf hg, fun _ _ w _ => jy hf hca eg ((hp.run w).mono fun _ _ ⟨he, hk⟩ => ⟨v, he, rfl, hk⟩)⟩, h _ (hf.put (H' hi))⟩
def Wg (V : Nat → Value) (ob : Obj) : GE := ⟨Nat, V, fun r => [(r, ob)], 0⟩
def V1 {α : Type} (x0 : α) (V : α → Value) (LL : α → J3) : GE := ⟨α, V, LL, x0⟩
theorem xS {e : GE} (hk : X3 ops.toList k = some o) (hg : KW l ops o = some true) (hd : o.dst = some i) (hi : Nat.ble (i + 1) c.n = true) (hA : tb k = .grow e) (hr : ∀ E', SubS S E' → ∀ a w, Fr c.n d l a → St c E' X w → actAt c o a w fun u w' => ∃ x, u = e.V x ∧ Jmw (e.LL x) w w')
  (h : ∀ x, HB c d ((i, e.V x) :: l) (e.LL x ++ E) X S ops tb rest T) : HB c d l E X S ops tb (k :: rest) T := fun a hf => by
 refine ⟨o, Vn hk, ?_⟩
 rw [hA]
 refine .inl ⟨⟨Kh hf hg, fun E' hE' w hs => hr E' hE' a w hf hs⟩, fun x => ?_⟩
 rw [hd]; exact h x _ (hf.put (H' hi))
def Y6 (l : KY) : List Nat → Option (List Value)
 | [] => some []
 | t :: ts => match VA l t, Y6 l ts with
  | some v, some r => some (v :: r)
  | _, _ => none
theorem j8 {n : Nat} {a : Act} (hf : Fr n d l a) : ∀ {ts : List Nat} {vs : List Value}, Y6 l ts = some vs → Xi a ts = vs
 | [], vs, h => by cases h; rfl
 | t :: ts, vs, h => by
  unfold Y6 at h
  cases h1 : VA l t with
  | none => rw [h1] at h; cases h
  | some v =>
   cases h2 : Y6 l ts with
   | none => rw [h1, h2] at h; cases h
   | some r =>
    rw [h1, h2] at h
    cases h
    show a.eval (.tmp t) :: Xi a ts = v :: r
    rw [j8 hf h2, hf.eval (x := .tmp t) (v := v) h1]
theorem Jxr {e : List Value → GE} {e0 : GE} (hk : X3 ops.toList k = some o) (hg : KW l ops o = some true) (hd : o.dst = some i) (hi : Nat.ble (i + 1) c.n = true) (hA : tb k = .dep ts e) (hv : Y6 l ts = some vs) (he : e vs = e0) (hr : ∀ E', SubS S E' → ∀ a w, Fr c.n d l a → St c E' X w → actAt c o a w fun u w' => ∃ x, u = e0.V x ∧ Jmw (e0.LL x) w w')
  (h : ∀ x, HB c d ((i, e0.V x) :: l) (e0.LL x ++ E) X S ops tb rest T) : HB c d l E X S ops tb (k :: rest) T := fun a hf => by
 refine ⟨o, Vn hk, ?_⟩
 rw [hA]
 subst he
 show (YG c X S ops o (e (Xi a ts)) a ∧ ∀ x, Jki c X S ops tb T rest ((e (Xi a ts)).LL x ++ E) (a.put o.dst ((e (Xi a ts)).V x))) ∨ _
 rw [j8 hf hv]
 refine .inl ⟨⟨Kh hf hg, fun E' hE' w hs => hr E' hE' a w hf hs⟩, fun x => ?_⟩
 rw [hd]; exact h x _ (hf.put (H' hi))
theorem Jmy {V : Nat → Value} (hk : X3 ops.toList k = some o) (hg : KW l ops o = some true) (hd : o.dst = some i) (hi : Nat.ble (i + 1) c.n = true) (hA : tb k = .grow (Wg V ob)) (hr : ∀ a w, Fr c.n d l a → (execOp a.eval o).run c.P w = .ok (.value (V w.heap.size)) (w.alloc ob))
  (h : ∀ r, HB c d ((i, V r) :: l) ((r, ob) :: E) X S ops tb rest T) : HB c d l E X S ops tb (k :: rest) T :=
 xS (e := Wg V ob) hk hg hd hi hA (fun E' _ a w hf hs => Zu (hr a w hf) ⟨w.heap.size, rfl, Keep.alloc ob, fun p hp => by rw [U'.1 hp]; exact ⟨Lc', (MapKept.heap_alloc w _).1⟩, List.pairwise_singleton _ _⟩) h
theorem Jsx {e : List Value → GE} {V : Nat → Value} (hk : X3 ops.toList k = some o) (hg : KW l ops o = some true) (hd : o.dst = some i) (hi : Nat.ble (i + 1) c.n = true) (hA : tb k = .dep ts e) (hv : Y6 l ts = some vs) (he : e vs = Wg V ob) (hr : ∀ a w, Fr c.n d l a → (execOp a.eval o).run c.P w = .ok (.value (V w.heap.size)) (w.alloc ob))
  (h : ∀ r, HB c d ((i, V r) :: l) ((r, ob) :: E) X S ops tb rest T) : HB c d l E X S ops tb (k :: rest) T :=
 Jxr (e0 := Wg V ob) hk hg hd hi hA hv he (fun E' _ a w hf hs => Zu (hr a w hf) ⟨w.heap.size, rfl, Keep.alloc ob, fun p hp => by rw [U'.1 hp]; exact ⟨Lc', (MapKept.heap_alloc w _).1⟩, List.pairwise_singleton _ _⟩) h
theorem Vb {ev : List Value → GE} {dv : List Value} {n e : Nat} {vs : KY} {r : List Value} {z : Value} (hk : X3 ops.toList k = some ⟨some i, .buildSlice t n pa.toArray, ty, ps, af, gd⟩) (hg : KW l ops ⟨some i, .buildSlice t n pa.toArray, ty, ps, af, gd⟩ = some true) (hi : Nat.ble (i + 1) c.n = true)
  (hA : tb k = .dep ts ev) (hv : Y6 l ts = some dv) (he : ev dv = Wg (slV n) (.cells r.toArray e (0, 0)))
  (hp : X5 l pa = some vs) (ht : Q5 c.P t = some e) (hz : Vo c.P e = some z) (hs : Q9 c.P e = some sz) (hzs : z.cells.size = sz) (hb : Nat.ble (n * sz) 16777216 = true) (h0 : Nat.ble 1 (n * sz) = true)
  (hmk : (madeCells z.cells (n * sz)).toList = zs) (hf : ZN (fun i => some (i * sz, sz)) zs (Vp vs) = some r)
  (h : ∀ q, HB c d ((i, .slice (some ⟨q, 0, none⟩) n n) :: l) ((q, .cells r.toArray e (0, 0)) :: E) X S ops tb rest T) : HB c d l E X S ops tb (k :: rest) T :=
 Jsx (V := slV n) hk hg rfl hi hA hv he (fun a w hfr => by
  have h1 := Wn hfr hp
  have h2 : (pa.toArray.map fun (p : Nat × Operand) => (p.1, a.eval p.2)) = vs.toArray := by
   apply Array.toList_inj.1; rw [Array.toList_map]; simpa using h1
  rw [Vt] at hf
  subst hmk
  have h3 := Xe ht hz hs hzs (H' hb) (H' h0) hf w
  rw [← h2] at h3
  refine HZ ?_
  have h4 : (Instr.buildSlice t n (pa.toArray.map fun (i, x) => (i, a.eval x))).run c.P w = .ok (.slice (some ⟨w.heap.size, 0, none⟩) n n) (w.alloc (.cells r.toArray e)) := h3
  rw [h4]; rfl) h
def Jhu (n e : Nat) (vs : List Value) : GE := Wg (slV n) (.cells (vs.flatMap fun v => v.cells.toList).toArray e (0, 0))
theorem Vv {z : Value} (hk : X3 ops.toList k = some ⟨some i, .alloc t, ty, ps, af, gd⟩) (hg : KW l ops ⟨some i, .alloc t, ty, ps, af, gd⟩ = some true) (hi : Nat.ble (i + 1) c.n = true) (hA : tb k = .grow (Wg yF (.cells cs t (0, 0)))) (hz : Vo c.P t = some z) (hc : z.cells = cs)
  (h : ∀ r, HB c d ((i, .pointer (some ⟨r, 0, none⟩)) :: l) ((r, .cells cs t (0, 0)) :: E) X S ops tb rest T) : HB c d l E X S ops tb (k :: rest) T :=
 Jmy (V := yF) hk hg rfl hi hA (fun a w hf => by simp [execOp, Instr.alloc, Sem.run_bind, XZ hz, Result.andThen, newVar, newRow, hc, yF]) h
theorem QV
  (hk : X3 ops.toList k = some ⟨some i, .call ⟨.value f, args, at_⟩, ty, ps, af, gd⟩) (hg : KW l ops ⟨some i, .call ⟨.value f, args, at_⟩, ty, ps, af, gd⟩ = some true) (hi : Nat.ble (i + 1) c.n = true) (hA : tb k = .grow (V1 x0 V LL)) (hca : Qw l f args = some (g, vs)) (eg : Enters c.P g)
  (hp : PureE c.P g vs.toArray V LL) (h : ∀ x, HB c d ((i, V x) :: l) (LL x ++ E) X S ops tb rest T) : HB c d l E X S ops tb (k :: rest) T :=
 xS (e := V1 x0 V LL) hk hg rfl hi hA (fun E' _ a w hf hs => jy hf hca eg ((hp.run w).mono fun _ _ ⟨x, he, hk, h1, h2⟩ => ⟨V x, he, x, rfl, hk, h1, h2⟩)) h
theorem wq (hk : X3 ops.toList k = some o) (hg : KW l ops o = some true) (hd : o.dst = none) (hA : tb k = .turn) (hr : ∀ a w, Fr c.n d l a → St c E X w → ∃ w', (execOp a.eval o).run c.P w = .ok .skip w' ∧ St c E' X w') (hS : SubS S E')
  (h : HB c d l E' X S ops tb rest T) : HB c d l E X S ops tb (k :: rest) T := fun a hf => by
 refine ⟨o, Vn hk, ?_⟩
 rw [hA]
 refine .inl ⟨Unit, fun _ => undef, fun _ => E', ⟨Kh hf hg, fun w hs => ?_⟩, fun _ => ⟨hS, ?_⟩⟩
 ·obtain ⟨w', h1, h2⟩ := hr a w hf hs
  exact Jcd h1 ⟨(), rfl, h2⟩
 ·rw [hd]; exact h _ hf
theorem KV  {n : Nat} (hko : X3 ops.toList k = some ⟨none, .store t x y, ty, ps, af, gd⟩) (hg : KW l ops ⟨none, .store t x y, ty, ps, af, gd⟩ = some true) (hA : tb k = .turn)
  (hx : KU l x = some (.pointer (some ⟨r, 0, none⟩))) (hk : E[q]? = some (r, .cells cs e (0, 0))) (hy : KU l y = some (.agg ys.toArray)) (ht : Q9 c.P t = some n) (hn : ys.length = n) (hcz : cs.size = n) (ho : ys.all VU = true) (hL : E.set q (r, .cells ys.toArray e (0, 0)) = E') (hS : SubS S E')
  (h : HB c d l E' X S ops tb rest T) : HB c d l E X S ops tb (k :: rest) T :=
 wq hko hg rfl hA (fun a w hf hst => ⟨w.setRow r ys.toArray, by
  have hcs : (cs.toList.take 0 ++ ys.toArray.toList ++ cs.toList.drop (0 + n)).toArray = ys.toArray := by
   apply Array.toList_inj.1
   simp [← hcz]
  refine Ev ?_
  have h1 := run_storeCells_at (P := c.P) r 0 e ys.toArray.toList 0 cs w (hst.get hk) MD (fun u hu => by rw [X4]; exact List.all_eq_true.1 ho u (by simpa using hu))
  simp only [Nat.add_zero, Array.length_toList, List.size_toArray, hn] at h1
  rw [hcs] at h1
  simp [Instr.storeAt, Instr.sureAddr, Sem.run_bind, Result.andThen, storeVar, Vz ht, Value.cells, hn, h1], by
  subst hL
  exact hst.set hk (Keep.setRow r ys.toArray) (setRow_heap _ _ _ _ _ _ (hst.get hk))⟩) hS h
theorem Qy (hko : X3 ops.toList k = some ⟨none, .store t x y, ty, ps, af, gd⟩) (hg : KW l ops ⟨none, .store t x y, ty, ps, af, gd⟩ = some true) (hA : tb k = .turn)
  (hx : KU l x = some (.pointer (some ⟨r, off, none⟩))) (hk : E[q]? = some (r, .cells cs e (0, 0))) (hy : KU l y = some v) (ht : Q9 c.P t = some 1) (ho : VU v = true) (hc : (cs[off]?).isSome = true)
  (hcs : cs.setIfInBounds off v = cs') (hL : E.set q (r, .cells cs' e (0, 0)) = E') (hS : SubS S E')
  (h : HB c d l E' X S ops tb rest T) : HB c d l E X S ops tb (k :: rest) T :=
 wq hko hg rfl hA (fun a w hf hs => ⟨w.setCell ⟨r, off, none⟩ v, by
  simp only [execOp]; rw [hf.eval hx, hf.eval hy]
  obtain ⟨old, hold⟩ := Option.isSome_iff_exists.1 hc
  have h1 := run_store c.P w ⟨r, off, none⟩ v .plain (by rw [X4]; exact ho)
  rw [VY (hs.get hk), hold, qi (hs.get hk) (Jxf off)] at h1
  have hcell : v.cells = #[v] := by cases v <;> first | rfl | cases ho
  simp [Instr.storeAt, Instr.sureAddr, Sem.run_bind, Result.andThen, storeVar, Vz ht, hcell, storeCells, Addr.add, h1], by
  subst hL; subst hcs
  exact hs.set hk (Keep.setCell r off v) (Wm v (hs.get hk))⟩) hS h
theorem Ze (h1 : -9223372036854775808 ≤ z) (h2 : z ≤ 9223372036854775807) (h : HB c d ((i, .int .i64 z) :: l) E X S ops tb rest T) : HB c d ((i, .int .i64 (IntKind.i64.wrap z)) :: l) E X S ops tb rest T := by rw [wrap_i64 h1 h2]; exact h
end
abbrev BS : Type := List UInt8
theorem wt : ∀ a : BS, Op.bytesLess a a = false
 | [] => rfl
 | x :: a => by simp [Op.bytesLess, wt a]
theorem Zf : ∀ {a b c : BS}, Op.bytesLess a b = true → Op.bytesLess b c = true → Op.bytesLess a c = true
 | _, [], _, h, _ => by simp [Op.bytesLess] at h
 | _, _ :: _, [], _, h => by simp [Op.bytesLess] at h
 | [], y :: b, z :: c, _, _ => rfl
 | x :: a, y :: b, z :: c, h, h2 => by
  simp only [Op.bytesLess, Bool.or_eq_true, decide_eq_true_eq, Bool.and_eq_true, beq_iff_eq] at h h2 ⊢
  rcases h with h | ⟨rfl, h⟩
  ·rcases h2 with h2 | ⟨rfl, h2⟩
   ·exact .inl (UInt8.lt_trans h h2)
   ·exact .inl h
  ·rcases h2 with h2 | ⟨rfl, h2⟩
   ·exact .inl h2
   ·exact .inr ⟨rfl, Zf h h2⟩
theorem Jmz : ∀ a b : BS, a = b ∨ Op.bytesLess a b = true ∨ Op.bytesLess b a = true
 | [], [] => .inl rfl
 | [], _ :: _ => .inr (.inl rfl)
 | _ :: _, [] => .inr (.inr rfl)
 | x :: a, y :: b => by
  simp only [Op.bytesLess, Bool.or_eq_true, decide_eq_true_eq, Bool.and_eq_true, beq_iff_eq]
  by_cases h1 : x < y
  ·exact .inr (.inl (.inl h1))
  by_cases h2 : y < x
  ·exact .inr (.inr (.inl h2))
  have e : x = y := UInt8.le_antisymm (UInt8.not_lt.1 h2) (UInt8.not_lt.1 h1)
  subst e
  rcases Jmz a b with rfl | h | h
  ·exact .inl O
  ·exact .inr (.inl (.inr ⟨rfl, h⟩))
  ·exact .inr (.inr (.inr ⟨rfl, h⟩))
theorem Jwg {a b : BS} (h : Op.bytesLess a b = true) : a ≠ b := by rintro rfl; rw [wt] at h; cases h
theorem Jxs {a b : BS} (h : Op.bytesLess a b = false) (hn : a ≠ b) : Op.bytesLess b a = true := by
 rcases Jmz a b with h1 | h1 | h1
 ·exact absurd h1 hn
 ·rw [h] at h1; cases h1
 ·exact h1
section
variable {α : Type} (kf : α → BS)
def qu : List α → Bool
 | [] => true
 | [_] => true
 | x :: y :: l => Op.bytesLess (kf x) (kf y) && qu (y :: l)
abbrev VE (l : List α) : Prop := l.Pairwise fun x y => Op.bytesLess (kf x) (kf y) = true
theorem qv : ∀ l : List α, qu kf l = true ↔ VE kf l
 | [] => by simp [qu]
 | [_] => by simp [qu]
 | x :: y :: l => by
  rw [qu, Bool.and_eq_true, qv (y :: l)]
  refine Iff.trans ?_ List.pairwise_cons.symm
  constructor
  ·rintro ⟨h1, h2⟩
   refine ⟨fun z hz => ?_, h2⟩
   rcases F'.1 hz with rfl | hz
   ·exact h1
   ·exact Zf h1 ((List.pairwise_cons.1 h2).1 z hz)
  ·rintro ⟨h1, h2⟩
   exact ⟨h1 y N', h2⟩
def Xl (k : BS) (l : List α) : Option α := l.find? fun x => kf x == k
def wu (x : α) : List α → List α
 | [] => [x]
 | y :: ys => if Op.bytesLess (kf y) (kf x) then y :: wu x ys else if kf y = kf x then x :: ys else x :: y :: ys
def Jkj (k : BS) (l : List α) : List α := l.filter fun y => !(kf y == k)
variable {kf}
theorem Vq {k : BS} {y : α} {l : List α} : Xl kf k (y :: l) = if kf y = k then some y else Xl kf k l := by
 unfold Xl
 rw [List.find?_cons]
 by_cases h : kf y = k
 ·simp [h]
 ·rw [if_neg h, show (kf y == k) = false from by simpa using h]
theorem zB {k : BS} {y : α} {l : List α} (h : Xl kf k l = some y) : kf y = k ∧ y ∈ l := ⟨by have := List.find?_some h; simpa using this, List.mem_of_find?_eq_some h⟩
theorem zC {y : α} : ∀ {l : List α}, VE kf l → y ∈ l → Xl kf (kf y) l = some y
 | z :: l, hs, hm => by
  rw [Vq]
  obtain ⟨h1, h2⟩ := List.pairwise_cons.1 hs
  rcases F'.1 hm with rfl | hm
  ·rw [if_pos rfl]
  ·rw [if_neg (Jwg (h1 y hm)), zC h2 hm]
theorem xU {x y : α} : ∀ {l : List α}, y ∈ wu kf x l → y = x ∨ y ∈ l
 | [], h => by simpa [wu] using h
 | z :: l, h => by
  unfold wu at h
  split at h
  ·rcases F'.1 h with rfl | h
   ·exact .inr N'
   ·exact (xU h).elim .inl fun h => .inr (M' h)
  ·split at h
   ·rcases F'.1 h with rfl | h
    ·exact .inl O
    ·exact .inr (M' h)
   ·exact F'.1 h
theorem wv {x : α} : ∀ {l : List α}, VE kf l → VE kf (wu kf x l)
 | [], _ => by simp [wu]
 | z :: l, h => by
  obtain ⟨h1, h2⟩ := List.pairwise_cons.1 h
  unfold wu
  split
  ·rename_i hz
   refine List.pairwise_cons.2 ⟨fun y hy => ?_, wv h2⟩
   rcases xU hy with rfl | hy
   ·exact hz
   ·exact h1 y hy
  ·rename_i hz
   split
   ·rename_i he
    exact List.pairwise_cons.2 ⟨fun y hy => he ▸ h1 y hy, h2⟩
   ·rename_i he
    have hx := Jxs (by simpa using hz) he
    refine List.pairwise_cons.2 ⟨fun y hy => ?_, h⟩
    rcases F'.1 hy with rfl | hy
    ·exact hx
    ·exact Zf hx (h1 y hy)
theorem Jcs {x : α} {k : BS} : ∀ {l : List α}, VE kf l → Xl kf k (wu kf x l) = if kf x = k then some x else Xl kf k l
 | [], _ => by unfold wu; rw [Vq]
 | z :: l, h => by
  obtain ⟨h1, h2⟩ := List.pairwise_cons.1 h
  unfold wu
  split
  ·rename_i hz
   rw [Vq, Vq, Jcs h2]
   by_cases hk : kf z = k
   ·subst hk
    rw [if_pos rfl, if_neg (fun e => Jwg hz e.symm), if_pos rfl]
   ·rw [if_neg hk, if_neg hk]
  ·split
   ·rename_i he
    rw [Vq, Vq, he]
    split <;> rfl
   ·rw [Vq]
theorem Jfk {k : BS} {l : List α} (h : VE kf l) : VE kf (Jkj kf k l) := h.filter _
theorem Jct {k j : BS} : ∀ {l : List α}, Xl kf j (Jkj kf k l) = if k = j then none else Xl kf j l
 | [] => by simp [Jkj, Xl]
 | z :: l => by
  have ih := Jct (k := k) (j := j) (l := l)
  unfold Jkj at ih ⊢
  rw [List.filter_cons, Vq]
  by_cases hz : kf z = k
  ·subst hz
   rw [if_neg mf, ih]
   split
   ·rfl
   ·rfl
  ·rw [if_pos (by simpa using hz), Vq, ih]
   by_cases hj : kf z = j
   ·subst hj
    rw [if_pos rfl, if_pos rfl, if_neg (fun e => hz e.symm)]
   ·rw [if_neg hj, if_neg hj]
theorem Jsy {k : BS} {l : List α} {y : α} (h : y ∈ Jkj kf k l) : y ∈ l := (List.mem_filter.1 h).1
end
def Xm : BS := List.replicate 32 0
structure W4 : Type where
  a : Nat
  b : Nat
  c : Nat
  d : Nat
deriving DecidableEq
def W4.l (w : W4) : List Nat := [w.a, w.b, w.c, w.d]
def w40 : W4 := ⟨0, 0, 0, 0⟩
def W4.of (l : List Nat) : W4 := ⟨l.getD 0 0, l.getD 1 0, l.getD 2 0, l.getD 3 0⟩
theorem W4.of_l {l : List Nat} (h : l.length = 4) : (W4.of l).l = l := by
 match l, h with
 | [a, b, c, d], _ => rfl
theorem W4.l_inj {x y : W4} (h : x.l = y.l) : x = y := by
 cases x; cases y; simp [W4.l] at h; simp [h]
structure AcE : Type where
  addr : BS
  nonce : Nat
  bal : W4
  code : BS
  slots : List (BS × BS)
deriving DecidableEq
variable {s : List AcE}
def ac0 : AcE := ⟨[], 0, w40, [], []⟩
def Jsz (x : BS × BS) : Bool := decide (x.1.length ≠ 32) || decide (x.2.length ≠ 32)
def xV (x : BS × BS) : Bool := decide (x.2 = Xm)
def yH (a : AcE) : Int := if a.addr.length ≠ 20 ∨ a.slots.any Jsz = true then 2 else if qu Prod.fst a.slots = false then 11 else if a.code.length > 512 ∨ a.slots.length > 16 then 5 else if a.slots.any xV = true then 8 else 0
def Jhv (last : Option BS) (a : AcE) : Int := if yH a ≠ 2 ∧ (∃ b, last = some b ∧ Op.bytesLess b a.addr = false) then 11 else yH a
instance (last : Option BS) (a : AcE) : Decidable (∃ b, last = some b ∧ Op.bytesLess b a.addr = false) := match last with
  | none => .isFalse (by simp)
  | some b => if h : Op.bytesLess b a.addr = false then .isTrue ⟨b, rfl, h⟩ else .isFalse (by simpa using h)
def goS : Option BS → List AcE → Int
 | _, [] => 0
 | last, a :: l => if Jhv last a ≠ 0 then Jhv last a else goS (some a.addr) l
def Jfl (s : List AcE) : Int := if s.length > 32 then 5 else goS none s
def WW (s : List AcE) (k : BS) : Option AcE := Xl AcE.addr k s
def V7 (a : AcE) (k : BS) : BS := match Xl Prod.fst k a.slots with
 | some x => x.2
 | none => Xm
def X7 (l : List (BS × BS)) (k v : BS) : List (BS × BS) := if v = Xm then Jkj Prod.fst k l else wu Prod.fst (k, v) l
def Jm0 (a : AcE) (k v : BS) : AcE × Int := if yH a ≠ 0 then (a, yH a) else if k.length ≠ 32 ∨ v.length ≠ 32 then (a, 2) else if (X7 a.slots k v).length > 16 then (a, 5) else ({ a with slots := X7 a.slots k v }, 0)
theorem j9 {a : AcE} (h : yH a = 0) : a.addr.length = 20 ∧ (∀ x ∈ a.slots, x.1.length = 32 ∧ x.2.length = 32 ∧ x.2 ≠ Xm) ∧ VE Prod.fst a.slots ∧ a.code.length ≤ 512 ∧ a.slots.length ≤ 16 := by
 unfold yH at h
 split at h
 ·cases h
 rename_i h1
 split at h
 ·cases h
 rename_i h2
 split at h
 ·cases h
 rename_i h3
 split at h
 ·cases h
 rename_i h4
 simp only [not_or, Decidable.not_not] at h1 h3
 refine ⟨h1.1, fun x hx => ?_, (qv _ _).1 (by simpa using h2), by omega, by omega⟩
 have a1 := h1.2
 simp only [Bool.not_eq_true, List.any_eq_false] at a1 h4
 have := a1 x hx
 have h5 := h4 x hx
 unfold Jsz at this
 unfold xV at h5
 simp at this h5
 exact ⟨this.1, this.2, h5⟩
theorem Js0 {a : AcE} (h1 : a.addr.length = 20) (h2 : ∀ x ∈ a.slots, x.1.length = 32 ∧ x.2.length = 32 ∧ x.2 ≠ Xm) (h3 : VE Prod.fst a.slots) (h4 : a.code.length ≤ 512) (h5 : a.slots.length ≤ 16) : yH a = 0 := by
 unfold yH
 have e1 : ¬ a.slots.any Jsz = true := by
  simp only [Bool.not_eq_true, List.any_eq_false]
  intro x hx
  obtain ⟨a1, a2, _⟩ := h2 x hx
  simp [Jsz, a1, a2]
 have e2 : ¬ a.slots.any xV = true := by
  simp only [Bool.not_eq_true, List.any_eq_false]
  intro x hx
  obtain ⟨_, _, a3⟩ := h2 x hx
  simp [xV, a3]
 have e3 := (qv Prod.fst a.slots).2 h3
 rw [if_neg (fun h => h.elim (fun h => h h1) e1), if_neg (by rw [e3]; simp), if_neg m3, if_neg e2]
theorem Jhw {last : Option BS} {a : AcE} : Jhv last a = 0 ↔ yH a = 0 ∧ ∀ b, last = some b → Op.bytesLess b a.addr = true := by
 unfold Jhv
 split
 ·rename_i h
  obtain ⟨h1, b, h2, h3⟩ := h
  constructor
  ·intro h; cases h
  ·rintro ⟨_, h⟩; rw [h b h2] at h3; cases h3
 ·rename_i h
  constructor
  ·intro h0
   refine ⟨h0, fun b hb => ?_⟩
   cases h4 : Op.bytesLess b a.addr
   ·exact absurd ⟨by omega, b, hb, h4⟩ h
   ·rfl
  ·exact fun h => h.1
theorem Jwh : ∀ {last : Option BS} {s : List AcE}, goS last s = 0 ↔ (∀ a ∈ s, yH a = 0) ∧ VE AcE.addr s ∧ (∀ b, last = some b → ∀ a ∈ s, Op.bytesLess b a.addr = true)
 | last, [] => by simp [goS]
 | last, a :: l => by
  rw [goS]
  split
  ·rename_i h
   constructor
   ·intro h0; exact absurd h0 h
   ·rintro ⟨h1, h2, h3⟩
    exact absurd (Jhw.2 ⟨h1 a N', fun b hb => h3 b hb a N'⟩) h
  ·rename_i h
   have h := Jhw.1 (Decidable.not_not.1 h)
   rw [Jwh]
   constructor
   ·rintro ⟨h1, h2, h3⟩
    refine ⟨fun x hx => ?_, List.pairwise_cons.2 ⟨fun x hx => h3 _ O x hx, h2⟩, fun b hb x hx => ?_⟩
    ·rcases F'.1 hx with rfl | hx
     ·exact h.1
     ·exact h1 x hx
    ·rcases F'.1 hx with rfl | hx
     ·exact h.2 b hb
     ·exact Zf (h.2 b hb) (h3 _ O x hx)
   ·rintro ⟨h1, h2, h3⟩
    obtain ⟨h4, h5⟩ := List.pairwise_cons.1 h2
    exact ⟨fun x hx => h1 x (M' hx), h5, fun b hb x hx => by cases hb; exact h4 x hx⟩
theorem Jxt : Jfl s = 0 ↔ s.length ≤ 32 ∧ (∀ a ∈ s, yH a = 0) ∧ VE AcE.addr s := by
 unfold Jfl
 split
 ·constructor
  ·intro h; cases h
  ·rintro ⟨h, _⟩; omega
 ·rw [Jwh]
  constructor
  ·rintro ⟨h1, h2, _⟩; exact ⟨by omega, h1, h2⟩
  ·rintro ⟨_, h1, h2⟩; exact ⟨h1, h2, by simp⟩
def yz (P : Program) (w : World) (T Rl : J3) (n : Nat) : Cx := ⟨P, none, w, T.map (·.1), [], Rl, n⟩
theorem St.startT {n : Nat} {T : J3} (hT : jn T w) (hR : jn Rl w) (hd : T.Pairwise fun p q => p.1 ≠ q.1) (hne : ∀ p ∈ Rl, ∀ q ∈ T, p.1 ≠ q.1) : St (yz P w T Rl n) T (fun _ _ => True) w :=
 ⟨Keep.refl _ _, fun p hp => ⟨.inl (List.mem_map.2 ⟨p, hp, rfl⟩), by simp [yz], hT p hp⟩, hd, fun p hp => ⟨fun h => by obtain ⟨q, hq, e⟩ := List.mem_map.1 h; exact hne p hp q hq e.symm, by simp [yz], hR p hp⟩, by simp [yz], ⟨[], by simp, fun _ _ => trivial⟩⟩
theorem Jq {f : FuncId} {T : J3} (hf : P.funcs[f]? = some fn) (hb : fn.body = some code) (hlen : Nat.ble vs.length fn.ntmps = true)
  (h : ∀ w, HC (yz P w T Rl fn.ntmps) [] (Wd 0 vs) T (fun _ _ => True) code (bodyPostM (FW none) 0 P fn (fun e w' => ∃ x, e = .returned (V x) ∧ St (yz P w T Rl fn.ntmps) (LL x) (fun _ _ => True) w'))) : PureT P f vs.toArray V T LL Rl := ⟨fun w hT hR hd hne =>
 (Vj (yz P w T Rl fn.ntmps) hf hb rfl rfl rfl hlen (St.startT hT hR hd hne) (h w)).mono fun _ _ ⟨x, he, hs⟩ => ⟨x, he, by have := hs.keep; simpa [yz] using this, fun p hp => ⟨(hs.own p hp).1, (hs.own p hp).2.2⟩, hs.distinct⟩⟩
section
variable {c : Cx} {l : KY} {L : J3} {X : XP} {Q : Exit → Act → World → Prop} {d : List Deferred}
variable {ops : Array Oper} {rest : List Oper} {i : Nat} {v : Value} {t : TypeId} {ps : String} {af : Array Edge} {gd : Option (Nat × Bool)} {ty t2 : TypeId}
theorem St.turnT {T LL : J3} (hs : St c (T ++ L0) X w) (hk : Keep (T.map (·.1)) w w') (hL : ∀ p ∈ LL, (p.1 ∈ T.map (·.1) ∨ w.heap.size ≤ p.1) ∧ w'.heap[p.1]? = some p.2) (hd : LL.Pairwise fun p q => p.1 ≠ q.1) : St c (LL ++ L0) X w' := by
 have hT : ∀ p ∈ T, p ∈ T ++ L0 := fun p hp => W' hp
 have hle := hs.keep.size
 obtain ⟨hd1, hd2, hd3⟩ := List.pairwise_append.1 hs.distinct
 have hin : ∀ k ∈ T.map (·.1), ∃ p ∈ T, p.1 = k := fun k hk => by obtain ⟨p, hp, e⟩ := List.mem_map.1 hk; exact ⟨p, hp, e⟩
 refine ⟨hs.keep.glue hk ?_, fun p hp => ?_, ?_, hs.ext, hs.xlt, ?_⟩
 ·intro k hk
  obtain ⟨p, hp, rfl⟩ := hin k hk
  exact (hs.own p (hT p hp)).1.imp (fun h => W' h) id
 ·rcases G'.1 hp with hp | hp
  ·obtain ⟨h1, h2⟩ := hL p hp
   rcases h1 with h1 | h1
   ·obtain ⟨q, hq, e⟩ := hin _ h1
    obtain ⟨g1, g2, _⟩ := hs.own q (hT q hq)
    rw [e] at g1 g2
    exact ⟨g1, g2, h2⟩
   ·exact ⟨.inr m3, fun hx => (by have := hs.xlt _ hx; omega), h2⟩
  ·obtain ⟨g1, g2, g3⟩ := hs.own p (Y' hp)
   refine ⟨g1, g2, ?_⟩
   rw [hk.block _ (JM g3) (fun h => by obtain ⟨q, hq, e⟩ := hin _ h; exact hd3 q hq p hp e)]
   exact g3
 ·refine List.pairwise_append.2 ⟨hd, hd2, fun p hp q hq => ?_⟩
  rcases (hL p hp).1 with h1 | h1
  ·obtain ⟨u, hu, e⟩ := hin _ h1
   rw [← e]; exact hd3 u hu q hq
  ·have := JM (hs.own q (Y' hq)).2.2
   omega
 ·obtain ⟨xs, e1, e2⟩ := hs.x
  refine ⟨xs, fun k hkx => ?_, fun w2 hw2 => e2 w2 fun k hkx => (hw2 k hkx).trans (hk.block k (e1 k hkx).2.1 (fun h => by obtain ⟨q, hq, e⟩ := hin _ h; exact (e1 k hkx).2.2 q (hT q hq) e))⟩
  obtain ⟨a1, a2, a3⟩ := e1 k hkx
  refine ⟨a1, Nat.lt_of_lt_of_le a2 hk.size, fun p hp => ?_⟩
  rcases G'.1 hp with hp | hp
  ·rcases (hL p hp).1 with h1 | h1
   ·obtain ⟨u, hu, e⟩ := hin _ h1
    rw [← e]; exact a3 u (hT u hu)
   ·omega
  ·exact a3 p (Y' hp)
theorem Jx  {T : J3}
  (hp : L.Perm (T ++ L0)) (hg : KW l ops ⟨some i, .call ⟨.value f, args, at_⟩, ty, ps, af, gd⟩ = some true) (hi : Nat.ble (i + 1) c.n = true) (hca : Qw l f args = some (g, vs)) (eg : Enters c.P g)
  (hpt : PureT c.P g vs.toArray V T LL Rl) (hR : ∀ p ∈ Rl, known c L0 p.1 p.2) (h : ∀ x, HL c d ((i, V x) :: l) (LL x ++ L0) X ops rest Q) : HL c d l L X ops (⟨some i, .call ⟨.value f, args, at_⟩, ty, ps, af, gd⟩ :: rest) Q :=
 Zb (V := V) (L' := fun x => LL x ++ L0) (X' := fun _ => X) hg hi hca eg (fun w hs => by
  have hs := hs.perm hp
  obtain ⟨hd1, _, hd3⟩ := List.pairwise_append.1 hs.distinct
  refine (hpt.run w (fun p hp => (hs.own p (W' hp)).2.2) (fun p hp => ?_) hd1 (fun p hp q hq => ?_)).mono fun _ _ ⟨x, he, hk, h1, h2⟩ => ⟨x, he, hs.turnT hk h1 h2⟩
  ·exact (hR p hp).elim (fun h => (hs.own _ (Y' h)).2.2) hs.readR
  ·rcases hR p hp with h | h
   ·exact fun e => hd3 q hq _ h e.symm
   ·rintro e
    obtain ⟨h1, _, h3⟩ := hs.ext _ h
    have h3 := JM h3
    rcases (hs.own q (W' hq)).1 with h4 | h4
    ·exact h1 (e ▸ h4)
    ·simp only at h3 e; omega) h
theorem KA
  (hg : KW l ops ⟨some i, .call ⟨.value f, args, at_⟩, ty, ps, af, gd⟩ = some true) (hi : Nat.ble (i + 1) c.n = true) (hca : Qw l f args = some (g, vs)) (eg : Enters c.P g)
  (hpt : PureT c.P g vs.toArray V [] LL Rl) (hR : ∀ p ∈ Rl, known c L p.1 p.2) (h : ∀ x, HL c d ((i, V x) :: l) (LL x ++ L) X ops rest Q) : HL c d l L X ops (⟨some i, .call ⟨.value f, args, at_⟩, ty, ps, af, gd⟩ :: rest) Q :=
 Jx (T := []) (L0 := L) (O') hg hi hca eg hpt hR h
theorem PureR.toT {f : FuncId} {args : Array Value} (h : PureR P f args v Rl) : PureT (α := Unit) P f args (fun _ => v) [] (fun _ => []) Rl :=
 ⟨fun w _ hR _ _ => (h.run w hR).mono fun _ _ ⟨he, hk⟩ => ⟨(), he, hk, by simp, List.Pairwise.nil⟩⟩
theorem PureT.map {β : Type} {f : FuncId} {args : Array Value} {V' : β → Value} {T : J3} {LL' : β → J3} (h : PureT P f args V T LL Rl) (g : α → β) (hv : ∀ x, V x = V' (g x)) (hl : ∀ x, (LL' (g x)).Sublist (LL x)) : PureT P f args V' T LL' Rl :=
 ⟨fun w hT hR hd hne => (h.run w hT hR hd hne).mono fun _ _ ⟨x, he, hk, h1, h2⟩ => ⟨g x, he.trans (by rw [hv]), hk, fun p hp => h1 p ((hl x).subset hp), h2.sublist (hl x)⟩⟩
end
section
variable {H : Type} {enc : TypeId × Value → H} {P : Program} {w : World} {base : Nat} {sp : Nat → Bool} {held : Bool}
theorem zD {a : Addr} {cs : List Value} (h : w.cells? base a m = some cs) : cs.length = m ∧ ∀ i, i < m → w.cell? (a.add i) = cs[i]? := by
 unfold World.cells? at h
 split at h
 ·exact ⟨by simpa using mapM_some_length h, fun i hi => mapM_some_get h i i (by simp [hi])⟩
 ·cases h
theorem Jfm {a : Addr} (h : w.cell? a = some v) : a.spot = none ∧ ∃ all e fr, w.heap[a.block]? = some (.cells all e fr) ∧ all[a.off]? = some v := by
 unfold World.cell? at h
 split at h
 ·rename_i c e fr hc
  split at h
  ·cases h
  ·rename_i hs
   exact ⟨by simpa using hs, c, e, fr, hc, h⟩
 ·cases h
theorem Jfn {b o : Nat} {cs : List Value} {all : Array Value} (h : w.cells? base ⟨b, o, none⟩ m = some cs) (hb : w.heap[b]? = some (.cells all e fr)) : (all.toList.drop o).take m = cs := by
 obtain ⟨hl, hg⟩ := zD h
 apply List.ext_getElem?
 intro i
 rw [List.getElem?_take]
 split
 ·rename_i hi
  rw [← hg i hi, WJ, List.getElem?_drop, Array.getElem?_toList]
  simp only [World.cell?, hb]
  rfl
 ·rename_i hi
  rw [List.getElem?_eq_none m3]
theorem Jcu {α : Type} {f : α → List Value} {m b : Nat} {all : Array Value} {e : TypeId} {fr : Nat × Nat} (hb : w.heap[b]? = some (.cells all e fr)) :
  ∀ (l : List α) (o : Nat), (∀ i x, l[i]? = some x → w.cells? base ⟨b, o + i * m, none⟩ m = some (f x)) → (all.toList.drop o).take (l.length * m) = l.flatMap f
 | [], o, _ => by simp
 | y :: l, o, h => by
  have h0 := Jfn (h 0 y rfl) hb
  have hr := Jcu hb l (o + m) (fun i x hx => by
   have := h (i + 1) x hx
   rwa [Nat.succ_mul, Nat.add_comm (i * m) m, ← Nat.add_assoc] at this)
  rw [Nat.zero_mul, Nat.add_zero] at h0
  rw [List.length_cons, Nat.succ_mul, Nat.add_comm, List.take_add, h0, List.drop_drop, hr, List.flatMap_cons]
theorem xW {f : α → List Value} (hm : 0 < m) (hf : ∀ x, (f x).length = m) {l : List α} {a : Addr} (hle : l.length ≤ cap) (h : ∀ i x, l[i]? = some x → w.cells? base (a.add (i * m)) m = some (f x)) :
  Seg (Jkf w) l.length (l.flatMap f) (some (a, cap)) := by
 refine ⟨hle, fun h0 => ?_⟩
 obtain ⟨y, hy⟩ : ∃ y, l[0]? = some y := ⟨_, List.getElem?_eq_getElem h0⟩
 have h1 := h 0 y hy
 rw [Nat.zero_mul] at h1
 have e0 : a.add 0 = a := by simp [Addr.add]
 rw [e0] at h1
 obtain ⟨hl, hg⟩ := zD h1
 have h2 := hg 0 hm
 rw [e0] at h2
 obtain ⟨v, hv⟩ : ∃ v, (f y)[0]? = some v := ⟨_, List.getElem?_eq_getElem m3⟩
 rw [hv] at h2
 obtain ⟨hs, all, e, fr, hb, _⟩ := Jfm h2
 refine ⟨hs, all, e, fr, Jcn hb, ?_⟩
 rw [j6 hf]
 refine Jcu (base := base) hb l a.off fun i x hx => ?_
 have := h i x hx
 have e1 : a.add (i * m) = ⟨a.block, a.off + i * m, none⟩ := by
  obtain ⟨b, o, s⟩ := a
  have : s = none := hs
  subst this
  exact WJ _ _ _
 rwa [e1] at this
theorem qO {α : Type} {Q : Nat → α → Prop} : ∀ (n : Nat), (∀ i, i < n → ∃ x, Q i x) → ∃ l : List α, l.length = n ∧ ∀ i x, l[i]? = some x → Q i x
 | 0, _ => ⟨[], rfl, fun i x h => by simp at h⟩
 | n + 1, h => by
  obtain ⟨l, hl, hq⟩ := qO n (fun i hi => h i m3)
  obtain ⟨x, hx⟩ := h n m3
  refine ⟨l ++ [x], by simp [hl], fun i y hy => ?_⟩
  rw [List.getElem?_append] at hy
  split at hy
  ·exact hq i y hy
  ·rename_i hi
   have hn : i = n := by
    have := (La'.1 hy).1
    simp at this; omega
   subst hn
   rw [hl, Nat.sub_self] at hy
   obtain rfl : x = y := by simpa using hy
   exact hx
theorem Jcv {f : α → List Value} {ok : α → Prop} {t e : Nat} {cs : List Value} {x : DataW H × List MemPlace} (hm : 0 < m) (hf : ∀ x, (f x).length = m) (ht : P.underlying t = some (.slice e)) (hc : P.cellsOf e = m)
  (hE : ∀ n, n < fuel → ∀ cs x, DataW.trod enc P w base sp held n e cs = some x → ∃ y, cs = f y ∧ ok y)
  (h : DataW.trod enc P w base sp held fuel t cs = some x) : ∃ (l : List α) (p : Pl), cs = [Km l.length p] ∧ Seg (Jkf w) l.length (l.flatMap f) p ∧ l.length ≤ 9223372036854775807 ∧ ∀ y ∈ l, ok y := by
 rcases DataW.trod_slice ht h with ⟨rfl, _⟩ | ⟨a, len, cap, elems, rest, n, hn, rfl, _, _, hlc, hcm, hlen, hel, _⟩
 ·exact ⟨[], none, rfl, rfl, by simp, fun y hy => by simp at hy⟩
 ·have hex : ∀ i, i < len → ∃ y, w.cells? base (a.add (i * m)) m = some (f y) ∧ ok y := by
   intro i hi
   have h1 := hel i hi
   rw [hc] at h1
   obtain ⟨z, hz⟩ : ∃ z, elems[i]? = some z := ⟨_, List.getElem?_eq_getElem m3⟩
   rw [hz, Option.bind_eq_some_iff] at h1
   obtain ⟨cs1, h2, h3⟩ := h1
   obtain ⟨y, rfl, hy⟩ := hE n m3 _ _ h3
   exact ⟨y, h2, hy⟩
  obtain ⟨l, rfl, hq⟩ := qO len hex
  have hcap : cap ≤ 9223372036854775807 := by simpa [maxLen] using hcm
  refine ⟨l, some (a, cap), rfl, xW hm hf hlc (fun i y hy => (hq i y hy).1), by omega, fun y hy => ?_⟩
  obtain ⟨i, hi, rfl⟩ := List.mem_iff_getElem.1 hy
  exact (hq i _ (List.getElem?_eq_getElem hi)).2
theorem Jfo {t tf : Nat} {cs : List Value} {x : DataW H × List MemPlace} (ht : P.underlying t = some (.struct fs)) (hi : (fs[i]?).map (fun f => (f.type, f.offset)) = some (tf, off)) (hm : P.cellsOf tf = m)
  (h : DataW.trod enc P w base sp held fuel t cs = some x) : ∃ n y, n < fuel ∧ DataW.trod enc P w base sp held n tf ((cs.drop off).take m) = some y := by
 obtain ⟨xs, n, rfl, _, _, hl, hg⟩ := DataW.trod_struct ht h
 obtain ⟨f, hf, he⟩ := Option.map_eq_some_iff.1 hi
 obtain ⟨rfl, rfl⟩ := Prod.mk.inj he
 have hi2 : i < xs.length := by rw [hl]; exact (Array.getElem?_eq_some_iff.1 hf).1
 subst hm
 exact ⟨n, xs[i], by omega, by rw [hg i f hf]; exact List.getElem?_eq_getElem hi2⟩
theorem Jkk {t : Nat} {cs : List Value} {x : DataW H × List MemPlace} (ht : P.underlying t = some (.struct fs)) (hm : P.cellsOf t = m) (h : DataW.trod enc P w base sp held fuel t cs = some x) : cs.length = m := by
 obtain ⟨xs, n, rfl, _, hl, _, _⟩ := DataW.trod_struct ht h
 rw [hl, hm]
theorem Jm1 {t : Nat} {cs : List Value} {x : DataW H × List MemPlace} (ht : P.underlying t = some (.int .u64)) (h : DataW.trod enc P w base sp held fuel t cs = some x) : ∃ n : Nat, cs = [uV n] ∧ VL n := by
 obtain ⟨n, rfl, _, hw⟩ := DataW.trod_int ht h
 have := bounds_u64 hw
 exact ⟨n.toNat, by unfold uV; congr 2; omega, by unfold VL; omega⟩
theorem Jcw {t : Nat} {r : Reach} (ht : P.underlying t = some (.struct fs)) (h : Value.okWide P w r b0 t v) {cs : List Value} (hc : v.cells.toList = cs) : v = .agg cs.toArray := by
 obtain ⟨c1, rfl, _⟩ := okWide_struct ht h
 subst hc
 simp [Value.cells]
end
abbrev Jk (s : BS) : Value := .string (bs s)
structure W4.ok (w : W4) : Prop where
  a : VL w.a
  b : VL w.b
  c : VL w.c
  d : VL w.d
theorem W4.ok.wok {w : W4} (h : w.ok) : WOk w.l := ⟨rfl, fun x hx => by
 unfold W4.l at hx
 simp only [F', List.not_mem_nil, or_false] at hx
 rcases hx with rfl | rfl | rfl | rfl
 ·exact h.a
 ·exact h.b
 ·exact h.c
 ·exact h.d⟩
theorem W4.ok_of {l : List Nat} (h : WOk l) : (W4.of l).ok := by
 obtain ⟨h1, h2⟩ := h
 match l, h1 with
 | [a, b, c, d], _ => exact ⟨h2 a mf, h2 b mf, h2 c mf, h2 d mf⟩
theorem QS : VL 0 := by unfold VL; decide
theorem w40_ok : w40.ok := ⟨QS, QS, QS, QS⟩
structure Rec : Type where
  number : Nat
  time : Nat
  base : W4
  blob : W4
  overhead : W4
  scalar : Nat
  extra : Nat
  operator : Nat
deriving DecidableEq
def Jxu : Rec := ⟨0, 0, w40, w40, w40, 0, 0, 0⟩
def Rec.nats (r : Rec) : List Nat := [r.number, r.time, r.base.a, r.base.b, r.base.c, r.base.d, r.blob.a, r.blob.b, r.blob.c, r.blob.d, r.overhead.a, r.overhead.b, r.overhead.c, r.overhead.d, r.scalar, r.extra, r.operator]
def Rec.cells (r : Rec) : List Value := r.nats.map uV
def Rec.val (r : Rec) : Value := .agg r.cells.toArray
theorem Rec.len (r : Rec) : r.cells.length = 17 := rfl
theorem Rec.one (r : Rec) : r.cells.all VU = true := rfl
structure Rec.ok (r : Rec) : Prop where
  number : VL r.number
  time : VL r.time
  base : r.base.ok
  blob : r.blob.ok
  overhead : r.overhead.ok
  scalar : VL r.scalar
  extra : VL r.extra
  operator : VL r.operator
def slC (x : BS × BS) : List Value := [Jk x.1, Jk x.2]
def J2b (l : List (BS × BS)) : List Value := l.flatMap slC
abbrev Jkl : Nat := 9223372036854775807
structure AcL : Type where
  addr : BS
  nonce : Nat
  bal : W4
  code : BS
  slots : List (BS × BS)
  p : Pl
def AcL.cells (a : AcL) : List Value := [Jk a.addr, uV a.nonce, uV a.bal.a, uV a.bal.b, uV a.bal.c, uV a.bal.d, Jk a.code, Km a.slots.length a.p]
def AcL.val (a : AcL) : Value := .agg a.cells.toArray
def AcL.er (a : AcL) : AcE := ⟨a.addr, a.nonce, a.bal, a.code, a.slots⟩
theorem AcL.len (a : AcL) : a.cells.length = 8 := rfl
theorem AcL.one (a : AcL) : a.cells.all VU = true := rfl
structure AcL.In (R : J3) (a : AcL) : Prop where
  addr : a.addr.length ≤ Jkl
  nonce : VL a.nonce
  bal : a.bal.ok
  code : a.code.length ≤ Jkl
  len : a.slots.length ≤ Jkl
  seg : Seg R a.slots.length (J2b a.slots) a.p
  slots : ∀ x ∈ a.slots, x.1.length ≤ Jkl ∧ x.2.length ≤ Jkl
theorem AcL.In.mono {R : J3} {a : AcL} (h : a.In R) (hs : ∀ q ∈ R, q ∈ R') : a.In R' := ⟨h.addr, h.nonce, h.bal, h.code, h.len, h.seg.mono hs, h.slots⟩
def J2c (l : List AcL) : List Value := l.flatMap AcL.cells
structure StL : Type where
  accts : List AcL
  p : Pl
def StL.cells (s : StL) : List Value := [Km s.accts.length s.p]
def StL.val (s : StL) : Value := .agg s.cells.toArray
def StL.er (s : StL) : List AcE := s.accts.map AcL.er
structure StL.In (R : J3) (s : StL) : Prop where
  len : s.accts.length ≤ Jkl
  seg : Seg R s.accts.length (J2c s.accts) s.p
  accts : ∀ a ∈ s.accts, a.In R
theorem StL.In.mono {R : J3} {s : StL} (h : s.In R) (hs : ∀ q ∈ R, q ∈ R') : s.In R' := ⟨h.len, h.seg.mono hs, fun a ha => (h.accts a ha).mono hs⟩
theorem Jm2 {f : α → List Value} (hf : ∀ x, (f x).length = m) {l : List α} {k : Nat} {x : α} (h : l[j]? = some x) (hk : (f x)[k]? = some v) : (l.flatMap f)[j * m + k]? = some v := by
 have h1 := j5 hf h
 have hlt : k < m := by have := (La'.1 hk).1; rwa [hf] at this
 rw [← h1, List.getElem?_take, if_pos hlt, List.getElem?_drop] at hk
 exact hk
section
variable {c : Cx} {l : KY} {L : J3} {X : XP} {d : List Deferred} {i : Nat} {t : TypeId} {ps : String} {af : Array Edge} {gd : Option (Nat × Bool)} {ty : TypeId}
theorem Ky {f : α → List Value} (hf : ∀ x, (f x).length = m) {p : Pl} {R : J3} {xs : List α} {y : α} (hR : ∀ q ∈ R, known c L q.1 q.2) (hx : KU l x = some (.pointer (some ⟨plB p, plO p + j * m, none⟩))) (hs : Seg R xs.length (xs.flatMap f) p) (hy : xs[j]? = some y) (ht : WH c.P t = some true) (hm : Q9 c.P t = some m) :
  Kg c d l L X ⟨some i, .load t x, ty, ps, af, gd⟩ (.agg (f y).toArray) :=
 Jke hR hx hs (Jht hy) ht hm (j5 hf hy) (hf y)
theorem Zg {f : α → List Value} {k : Nat} (hf : ∀ x, (f x).length = m) {p : Pl} {R : J3} {xs : List α} {y : α} (hR : ∀ q ∈ R, known c L q.1 q.2) (hx : KU l x = some (.pointer (some ⟨plB p, plO p + (j * m + k), none⟩))) (hs : Seg R xs.length (xs.flatMap f) p) (hy : xs[j]? = some y) (hv : (f y)[k]? = some v) (ht : WH c.P t = some false) :
  Kg c d l L X ⟨some i, .load t x, ty, ps, af, gd⟩ v :=
 Jcm hR hx hs (Jht hy) ht (Jm2 hf hy hv)
end
theorem Jxv {l : List Nat} (hl : WOk l) : qp (QB l 32) = l := by
 have : qp (QB l 32) = vy (dg l) 32 := zd fun i hi => by
  have h := xF l (n := 32) (m := 31 - i) m3
  have e : 32 - 1 - (31 - i) = i := by omega
  rw [e] at h
  rw [List.getD_eq_getElem?_getD, h, Option.getD_some, UInt8.toNat_ofNat', Nat.mod_eq_of_lt (Jmm l i)]
 rw [this, Jwd hl]
def bW (w : W4) : BS := QB w.l 32
def uW (s : BS) : W4 := W4.of (ZI s).1
theorem ww (s : BS) : WOk (ZI s).1 := by
 unfold ZI; split
 ·exact xI _
 ·exact Jhr
theorem J2d (s : BS) : (uW s).l = (ZI s).1 := W4.of_l (ww s).1
theorem J2e {w : W4} (h : w.ok) : uW (bW w) = w := by
 apply W4.l_inj
 rw [J2d]
 unfold ZI bW
 rw [if_pos (Q7 _ _)]
 exact Jxv h.wok
def wN1 (n : Nat) : W4 := ⟨n, 0, 0, 0⟩
def Jkm (n : Nat) : BS := bW (wN1 n)
def Jkn : Nat → Nat
 | 0 => 0
 | 1 => 1
 | 2 => 5
 | 3 => 6
 | 4 => 3
 | 5 => 7
 | _ => 8
def Jfp (f : Int) : Nat → Bool
 | 0 => true
 | 1 => true
 | 2 => decide (f ≤ 2)
 | 3 => decide (f ≤ 2)
 | 4 => decide (f ≥ 3)
 | 5 => decide (f ≥ 3)
 | _ => decide (f = 5)
def wx (r : Rec) : Nat → W4
 | 0 => ⟨r.number, r.time, 0, 0⟩
 | 1 => r.base
 | 2 => r.overhead
 | 3 => ⟨r.scalar, 0, 0, 0⟩
 | 4 => ⟨r.scalar, r.extra, 0, 0⟩
 | 5 => r.blob
 | _ => ⟨r.operator, 0, 0, 0⟩
def Jhx (r : Rec) (w : W4) : Nat → Rec
 | 0 => { r with number := w.a, time := w.b }
 | 1 => { r with base := w }
 | 2 => { r with overhead := w }
 | 3 => { r with scalar := w.a }
 | 4 => { r with scalar := w.a, extra := w.b }
 | 5 => { r with blob := w }
 | _ => { r with operator := w.a }
theorem Jm3 {r : Rec} (h : r.ok) (i : Nat) : (wx r i).ok := by
 unfold wx
 split
 ·exact ⟨h.number, h.time, QS, QS⟩
 ·exact h.base
 ·exact h.overhead
 ·exact ⟨h.scalar, QS, QS, QS⟩
 ·exact ⟨h.scalar, h.extra, QS, QS⟩
 ·exact h.blob
 ·exact ⟨h.operator, QS, QS, QS⟩
def wy (f : Int) (g : Nat → W4) : List Nat → Rec → Rec
 | [], out => out
 | i :: l, out => wy f g l (if Jfp f i then Jhx out (g i) i else out)
def tab : List Nat := [0, 1, 2, 3, 4, 5, 6]
def Jm4 (f : Int) (r : Rec) : Rec := wy f (wx r) tab Jxu
def Jhy (f : Int) (a : AcE) : Rec := wy f (fun i => uW (V7 a (Jkm (Jkn i)))) tab Jxu
def ZY (f : Int) : Prop := 0 ≤ f ∧ f ≤ 5
instance (f : Int) : Decidable (ZY f) := inferInstanceAs (Decidable (_ ∧ _))
theorem xX {f : Int} (h : ZY f) : f = 0 ∨ f = 1 ∨ f = 2 ∨ f = 3 ∨ f = 4 ∨ f = 5 := by unfold ZY at h; omega
def Jhz (f : Int) (r : Rec) : Bool := !((decide (f ≥ 3) && decide (r.overhead ≠ w40)) || (decide (f < 3) && (decide (r.extra ≠ 0) || decide (r.blob ≠ w40))) || (decide (f < 5) && decide (r.operator ≠ 0)))
theorem Jm5 {f : Int} {r : Rec} (h : ZY f) : Jm4 f r = r ↔ Jhz f r = true := by
 obtain ⟨n, t, b, l, o, s, e, p⟩ := r
 rcases xX h with rfl | rfl | rfl | rfl | rfl | rfl <;>
  (simp [Jm4, wy, tab, Jfp, Jhx, wx, Jhz, Jxu]; try (constructor <;> (intro h; simp_all <;> omega)))
def Jcx (which : Int) : BS := if which < 0 ∨ which > 1 then [] else 66 :: (List.replicate 18 0 ++ [UInt8.ofNat (1 + which).toNat])
def J2f : BS := [111, 110, 101]
def J2g : BS := [116, 119, 111]
def Jxw : BS := [116, 104, 114, 101, 101]
def J0i : BS := [102, 105, 118, 101]
def J2h : BS := [102, 101, 101]
def zE (f which : Int) : BS × Bool := if which = 1 then (if f ≥ 2 then (J2h, true) else ([], false)) else if f = 0 then (J2f, true) else if f ≤ 2 then (J2g, true) else if f ≤ 4 then (Jxw, true) else (J0i, true)
def A0 : BS := Jcx 0
def A1 : BS := Jcx 1
theorem qP {l : List (BS × BS)} {k v : BS} (h : VE Prod.fst l) : VE Prod.fst (X7 l k v) := by
 unfold X7; split
 ·exact Jfk h
 ·exact wv h
theorem Jko {l : List (BS × BS)} {k v j : BS} (h : VE Prod.fst l) : Xl Prod.fst j (X7 l k v) = if k = j then (if v = Xm then none else some (k, v)) else Xl Prod.fst j l := by
 unfold X7
 by_cases hv : v = Xm
 ·rw [if_pos hv, if_pos hv, Jct]
 ·rw [if_neg hv, if_neg hv, Jcs h]
theorem Jcy {l : List (BS × BS)} {k v : BS} {x : BS × BS} (h : x ∈ X7 l k v) : (x = (k, v) ∧ v ≠ Xm) ∨ x ∈ l := by
 unfold X7 at h
 split at h
 ·exact .inr (Jsy h)
 ·rename_i hv; exact (xU h).imp (fun h => ⟨h, hv⟩) id
theorem Jxx {a : AcE} {k v : BS} (h1 : yH a = 0) (h2 : k.length = 32) (h3 : v.length = 32) (h4 : (X7 a.slots k v).length ≤ 16) : Jm0 a k v = ({ a with slots := X7 a.slots k v }, 0) := by
 unfold Jm0
 rw [if_neg m3, if_neg m3, if_neg m3]
theorem Js1 {a : AcE} {k v : BS} (h1 : yH a = 0) (h2 : k.length = 32) (h3 : v.length = 32) (h4 : (X7 a.slots k v).length ≤ 16) : yH { a with slots := X7 a.slots k v } = 0 := by
 obtain ⟨g1, g2, g3, g4, g5⟩ := j9 h1
 refine Js0 g1 (fun x hx => ?_) (qP g3) g4 h4
 rcases Jcy hx with ⟨rfl, hv⟩ | hx
 ·exact ⟨h2, h3, hv⟩
 ·exact g2 x hx
theorem Jkp {a : AcE} {k v j : BS} (h : VE Prod.fst a.slots) : V7 { a with slots := X7 a.slots k v } j = if k = j then v else V7 a j := by
 unfold V7
 simp only
 rw [Jko h]
 by_cases hk : k = j
 ·rw [if_pos hk, if_pos hk]
  by_cases hv : v = Xm
  ·rw [if_pos hv]; exact hv.symm
  ·rw [if_neg hv]
 ·rw [if_neg hk, if_neg hk]
def xY : AcE → List (BS × BS) → AcE × Int
 | a, [] => (a, 0)
 | a, x :: l => if (Jm0 a x.1 x.2).2 ≠ 0 then Jm0 a x.1 x.2 else xY (Jm0 a x.1 x.2).1 l
structure RowsOk (a b : AcE) (l : List (BS × BS)) : Prop where
  lk : yH b = 0
  addr : b.addr = a.addr
  nonce : b.nonce = a.nonce
  bal : b.bal = a.bal
  code : b.code = a.code
  at_ : ∀ x ∈ l, V7 b x.1 = x.2
  off : ∀ k, (∀ x ∈ l, x.1 ≠ k) → V7 b k = V7 a k
theorem Jm6 {a : AcE} (h : yH a = 0) {x : BS × BS} (hx : x ∈ a.slots) : V7 a x.1 = x.2 ∧ x.2 ≠ Xm := by
 obtain ⟨_, g2, g3, _⟩ := j9 h
 unfold V7
 rw [zC g3 hx]
 exact ⟨rfl, (g2 x hx).2.2⟩
theorem Jm7 {a : AcE} {k : BS} (h : V7 a k ≠ Xm) : (k, V7 a k) ∈ a.slots := by
 unfold V7 at h ⊢
 cases hl : Xl Prod.fst k a.slots with
 | none => rw [hl] at h; exact absurd O h
 | some x =>
  obtain ⟨h1, h2⟩ := zB hl
  simp only
  rw [← h1]; exact h2
theorem xZ {α : Type} {kf : α → BS} : ∀ {m l : List α}, VE kf m → VE kf l → (∀ y ∈ l, y ∈ m) → l.length ≤ m.length
 | [], [], _, _, _ => Lc'
 | [], y :: l, _, _, h => absurd (h y N') mf
 | z :: m, [], _, _, _ => Z'
 | z :: m, y :: l, hm, hl, h => by
  obtain ⟨m1, m2⟩ := List.pairwise_cons.1 hm
  obtain ⟨l1, l2⟩ := List.pairwise_cons.1 hl
  rcases F'.1 (h y N') with e | hy
  ·rw [e] at l1
   have := xZ (m := m) (l := l) m2 l2 fun x hx => by
    rcases F'.1 (h x (M' hx)) with rfl | hx2
    ·have := l1 _ hx; rw [wt] at this; cases this
    ·exact hx2
   simp only [List.length_cons]; omega
  ·have := xZ (m := m) (l := y :: l) m2 hl fun x hx => by
    rcases F'.1 (h x hx) with rfl | hx2
    ·have a1 := m1 y hy
     rcases F'.1 hx with rfl | hx3
     ·rw [wt] at a1; cases a1
     ·have := Zf a1 (l1 _ hx3); rw [wt] at this; cases this
    ·exact hx2
   simp only [List.length_cons] at this ⊢; omega
theorem fill {a : AcE} (ha : yH a = 0) : ∀ (l : List (BS × BS)) (x : AcE), yH x = 0 → (∀ k, V7 x k = V7 a k ∨ V7 x k = Xm) → (∀ p ∈ l, p.1.length = 32 ∧ p.2.length = 32 ∧ (p.2 = V7 a p.1 ∨ p.2 = Xm)) → (xY x l).2 = 0
 | [], _, _, _, _ => rfl
 | p :: l, x, hx, hs, hp => by
  obtain ⟨p1, p2, p3⟩ := hp p N'
  have hsx := (j9 hx).2.2.1
  have hlen : (X7 x.slots p.1 p.2).length ≤ 16 := by
   refine Lb' (xZ (kf := Prod.fst) (j9 ha).2.2.1 (qP hsx) fun y hy => ?_) (j9 ha).2.2.2.2
   have hne : y.2 ≠ Xm ∧ y.2 = V7 a y.1 := by
    rcases Jcy hy with ⟨rfl, hv⟩ | hy
    ·exact ⟨hv, p3.resolve_right hv⟩
    ·obtain ⟨e1, e2⟩ := Jm6 hx hy
     refine ⟨e2, ?_⟩
     rcases hs y.1 with h | h
     ·rw [← e1, h]
     ·rw [← e1] at e2; exact absurd h e2
   have h3 := Jm7 (a := a) (k := y.1) (by rw [← hne.2]; exact hne.1)
   rw [← hne.2] at h3
   exact h3
  unfold xY
  rw [Jxx hx p1 p2 hlen, if_neg mf]
  refine fill ha l _ (Js1 hx p1 p2 hlen) (fun k => ?_) fun q hq => hp q (M' hq)
  rw [Jkp hsx]
  split
  ·rename_i e; subst e; exact p3
  ·exact hs k
theorem Jaa (hs : Jfl s = 0) {k : BS} {a : AcE} (h : WW s k = some a) : a.addr = k ∧ yH a = 0 := by
 obtain ⟨h1, h2⟩ := zB h
 exact ⟨h1, (Jxt.1 hs).2.1 a h2⟩
def Js2 (f : Int) (r : Rec) (i : Nat) : BS × BS := (Jkm (Jkn i), if Jfp f i then bW (wx r i) else Xm)
def Jm8 (k : BS) : Prop := ∃ i ∈ tab, Jkm (Jkn i) = k
def Jfq (t : List AcE) (which : Int) : AcE := { (WW t (Jcx which)).getD ac0 with addr := Jcx which }
theorem Jm9 (hs : Jfl s = 0) {w : Int} {a : AcE} (h : WW s (Jcx w) = some a) : Jfq s w = a := by
 unfold Jfq
 rw [h]
 obtain ⟨h1, _⟩ := Jaa hs h
 cases a
 simp only at h1
 simp [h1]
structure Wrote (f : Int) (s t : List AcE) (r : Rec) : Prop where
  forked : ZY f
  fits : Jhz f r = true
  old : Jfl s = 0
  new : Jfl t = 0
  acct : ∃ b0, WW t A0 = some b0 ∧ yH b0 = 0 ∧ b0.addr = A0 ∧ b0.nonce = (Jfq s 0).nonce ∧ b0.bal = (Jfq s 0).bal ∧ b0.code = (zE f 0).1 ∧ (∀ i ∈ tab, V7 b0 (Jkm (Jkn i)) = (Js2 f r i).2) ∧ ∀ k, ¬ Jm8 k → V7 b0 k = V7 (Jfq s 0) k
  others : ∀ k, k ≠ A0 → k ≠ A1 → WW t k = WW s k
  fee : if (zE f 1).2 = true then WW t A1 = some { Jfq s 1 with code := (zE f 1).1 } else WW t A1 = WW s A1
def zF (s : List AcE) (k : BS) : AcE := (WW s k).getD ac0
theorem wz {f : Int} {g g' : Nat → W4} : ∀ {l : List Nat} {out : Rec}, (∀ i ∈ l, Jfp f i = true → g i = g' i) → wy f g l out = wy f g' l out
 | [], _, _ => rfl
 | i :: l, out, h => by
  unfold wy
  have e : (if Jfp f i then Jhx out (g i) i else out) = if Jfp f i then Jhx out (g' i) i else out := by
   by_cases hi : Jfp f i = true
   ·rw [if_pos hi, if_pos hi, h i N' hi]
   ·rw [if_neg hi, if_neg hi]
  rw [e]
  exact wz fun j hj => h j (M' hj)
theorem Jkq {f : Int} {a : AcE} {r : Rec} (hf : ZY f) (hr : r.ok) (hb : Jhz f r = true) (h : ∀ i ∈ tab, V7 a (Jkm (Jkn i)) = (Js2 f r i).2) : Jhy f a = r := by
 have e : Jhy f a = Jm4 f r := wz fun i hi hh => by
  rw [h i hi]
  unfold Js2
  simp only
  rw [if_pos hh]
  exact J2e (Jm3 hr i)
 rw [e]
 exact (Jm5 hf).2 hb
structure Checked (f : Int) (s : List AcE) (a : AcE) : Prop where
  forked : ZY f
  st : Jfl s = 0
  at0 : WW s A0 = some a
  code : a.code = (zE f 0).1
  rows : ∀ i ∈ tab, V7 a (Jkm (Jkn i)) = (Js2 f (Jhy f a) i).2
  fee : (zE f 1).2 = true → ∃ b, WW s A1 = some b ∧ b.code = (zE f 1).1
theorem Wrote.checked {f : Int} {t : List AcE} {r : Rec} (h : Wrote f s t r) (hr : r.ok) : ∃ a, Checked f t a ∧ Jhy f a = r := by
 obtain ⟨h1, h2, h3, h4, ⟨b0, c1, c2, c3, c4, c5, c6, c7, c8⟩, h6, h7⟩ := h
 have e := Jkq h1 hr h2 c7
 refine ⟨b0, ⟨h1, h4, c1, c6, by rw [e]; exact c7, fun hf => ?_⟩, e⟩
 rw [if_pos hf] at h7
 exact ⟨_, h7, rfl⟩
theorem Checked.lk {f : Int} {a : AcE} (h : Checked f s a) : yH a = 0 := (Jaa h.st h.at0).2
theorem Checked.addr {f : Int} {a : AcE} (h : Checked f s a) : a.addr = A0 := (Jaa h.st h.at0).1
theorem Checked.old {f : Int} {a : AcE} (h : Checked f s a) : Jfq s 0 = a := Jm9 h.st h.at0
structure Kept (s t : List AcE) : Prop where
  others : ∀ k, k ≠ A0 → k ≠ A1 → WW t k = WW s k
  there : ∀ k, (WW s k).isSome = true → (WW t k).isSome = true
  nonce : ∀ k, (zF t k).nonce = (zF s k).nonce
  bal : ∀ k, (zF t k).bal = (zF s k).bal
  slot : ∀ k j, (k = A0 → ¬ Jm8 j) → V7 (zF t k) j = V7 (zF s k) j
theorem Kept.refl (s : List AcE) : Kept s s := ⟨fun _ _ _ => rfl, fun _ h => h, fun _ => rfl, fun _ => rfl, fun _ _ _ => rfl⟩
theorem Kept.trans {t u : List AcE} (h : Kept s t) (k : Kept t u) : Kept s u :=
 ⟨fun x a b => (k.others x a b).trans (h.others x a b), fun x hx => k.there x (h.there x hx), fun x => (k.nonce x).trans (h.nonce x), fun x => (k.bal x).trans (h.bal x), fun x j hj => (k.slot x j hj).trans (h.slot x j hj)⟩
def Way (f g : Int) : Prop := 0 ≤ f ∧ f ≤ g ∧ g ≤ 5
instance (f g : Int) : Decidable (Way f g) := inferInstanceAs (Decidable (_ ∧ _))
def plS (sz a : Nat) : Pl → Pl
 | none => none
 | some (⟨b, o, s⟩, cap) => some (⟨b, if cap = a then o else o + a * sz, s⟩, cap - a)
theorem Seg.slice {R : J3} {n a b : Nat} {cs : List Value} {p : Pl} (h : Seg R n cs p) (hl : cs.length = n * sz) (hab : a < b) (hb : b ≤ n) : Seg R (b - a) ((cs.drop (a * sz)).take ((b - a) * sz)) (plS sz a p) := by
 cases p with
 | none => have h : n = 0 := h; omega
 | some q =>
  obtain ⟨⟨r, o, s⟩, cap⟩ := q
  obtain ⟨h1, h2⟩ := h
  obtain ⟨h3, all, e, fr, h4, h5⟩ := h2 m3
  have hne : ¬ cap = a := by omega
  simp only [plS, if_neg hne]
  have hlen : ((cs.drop (a * sz)).take ((b - a) * sz)).length = (b - a) * sz := by
   exact Dp
  refine ⟨by omega, fun _ => ⟨h3, all, e, fr, h4, ?_⟩⟩
  rw [hlen]
  exact wk h5 O hlen
def yI {α : Type} (pr : α → Bool) (xs : List α) : Int := match xs.findIdx? pr with
 | some i => (i : Int)
 | none => -1
theorem jA {xs : List α} (h : ∀ (j : Nat) x, xs[j]? = some x → pr x = false) : yI pr xs = -1 := by
 unfold yI
 have : xs.findIdx? pr = none := by
  rw [List.findIdx?_eq_none_iff]
  intro x hx
  obtain ⟨j, hj, rfl⟩ := List.mem_iff_getElem.1 hx
  simpa using h j _ (List.getElem?_eq_getElem hj)
 rw [this]
theorem jB {xs : List α} {x : α} (hx : xs[i]? = some x) (hp : pr x = true) (h : ∀ j, j < i → ∀ y, xs[j]? = some y → pr y = false) : yI pr xs = (i : Int) := by
 unfold yI
 obtain ⟨h1, h2⟩ := La'.1 hx
 have : xs.findIdx? pr = some i := by
  rw [List.findIdx?_eq_some_iff_getElem]
  exact ⟨h1, by rw [h2]; exact hp, fun j hj => by simpa using h j hj _ (List.getElem?_eq_getElem m3)⟩
 rw [this]
theorem vz {xs : List α} : decide (yI pr xs ≥ 0) = xs.any pr := by
 unfold yI
 cases h : xs.findIdx? pr with
 | none =>
  rw [List.findIdx?_eq_none_iff] at h
  have : xs.any pr = false := by rw [List.any_eq_false]; intro x hx; simpa using h x hx
  rw [this]; rfl
 | some i =>
  rw [List.findIdx?_eq_some_iff_getElem] at h
  obtain ⟨h1, h2, _⟩ := h
  have : xs.any pr = true := List.any_eq_true.2 ⟨xs[i], List.getElem_mem _, h2⟩
  rw [this]; simp
def fV (f : FuncId) : Value := .func (.func f) #[] #[]
theorem row_some {n : Nat} {xs : List Value} (h : rowOk sz n xs row) (hn : 0 < n) : ∃ r cap sp, row = some (r, cap, sp) := by
 cases row with
 | none => have := h.1; omega
 | some q => obtain ⟨r, cap, sp⟩ := q; exact ⟨r, cap, sp, rfl⟩
theorem Jxy {P M S V : List Value} {o n : Nat} (ho : P.length = o) (hn : M.length = n) : (P ++ (M ++ S)).take o ++ V ++ (P ++ (M ++ S)).drop (o + n) = P ++ (V ++ S) := by
 subst ho hn
 rw [List.take_left' rfl, ← List.drop_drop, List.drop_left' rfl, List.drop_left' rfl, Ld']
theorem Pure.toR {f : FuncId} {args : Array Value} {R : J3} (h : Pure P f args v) : PureR P f args v R := ⟨fun w _ => h.run w⟩
theorem Jkr {f : α → List Value} (hf : ∀ x, (f x).length = m) {xs : List α} {x y : α} (hx : xs[i]? = some x) (hy : xs[i + 1]? = some y) : ((xs.flatMap f).drop (i * m)).take (2 * m) = [x, y].flatMap f := by
 have h1 := j5 hf hx
 have h2 := j5 hf hy
 rw [show 2 * m = m + m by omega, List.take_add, h1, List.drop_drop, show i * m + m = (i + 1) * m by rw [Nat.succ_mul], h2]
 simp
def lastE (l : List AcE) : Nat → Option BS
 | 0 => none
 | i + 1 => l[i]?.map AcE.addr
theorem Seg.two {f : α → List Value} (hf : ∀ x, (f x).length = m) {R : J3} {xs : List α} {p : Pl} (h : Seg R xs.length (xs.flatMap f) p) {x y : α} (hx : xs[j]? = some x) (hy : xs[i]? = some y) (e : j + 1 = i) : Seg R [x, y].length ([x, y].flatMap f) (plS m j p) := by
 subst e
 have hlt := (La'.1 hy).1
 have h1 := h.slice (sz := m) (a := j) (b := j + 2) (j6 hf xs) m3 m3
 rw [show j + 2 - j = 2 by omega, Jkr hf hx hy] at h1
 exact h1
theorem PureR.mono {f : FuncId} {args : Array Value} {R : J3} (h : PureR P f args v R) (hs : ∀ q ∈ R, q ∈ R') : PureR P f args v R' := ⟨fun w hw => h.run w fun p hp => hw p (hs p hp)⟩
def Ke : QZ → Pl
 | none => none
 | some (r, cap, _) => some (⟨r, 0, none⟩, cap)
theorem Jxz (n : Nat) (row : QZ) (h : row = none → n = 0) : Km n (Ke row) = JV n row := by
 cases row with
 | none => rw [h rfl]; rfl
 | some q => rfl
theorem Ks {n e : Nat} {cs : List Value} (h : rowOk sz n cs row) (h0 : 0 < sz) : Seg (J9 e cs row) n cs (Ke row) := by
 cases row with
 | none => exact h.1
 | some q =>
  obtain ⟨r, cap, sp⟩ := q
  obtain ⟨h1, h2⟩ := h
  exact ⟨Nat.le_of_mul_le_mul_right (by omega : n * sz ≤ cap * sz) h0, fun _ => ⟨rfl, _, e, (0, 0), N', by simp⟩⟩
structure AcRes (R : J3) (e : AcE × Int) : Type where
  a : AcL
  err : Int
  L : J3
  ok : a.In (L ++ R)
  eq : (a.er, err) = e
structure StRes (R : J3) (e : List AcE × Int) : Type where
  s : StL
  err : Int
  L : J3
  ok : s.In (L ++ R)
  eq : (s.er, err) = e
def AcRes.val {R : J3} {e : AcE × Int} (x : AcRes R e) : Value := .tuple #[x.a.val, .int .i64 x.err]
def StRes.val {R : J3} {e : List AcE × Int} (x : StRes R e) : Value := .tuple #[x.s.val, .int .i64 x.err]
theorem Jna (n : Nat) (row : QZ) : VU (JV n row) = true := by cases row <;> rfl
inductive EqF (P : Program) (xs ys : List Value) : List Field → Bool → Prop
  | nil : EqF P xs ys [] true
  | scal {f : Field} {fs : List Field} {a b : Value} {r : Bool} (hn : (f.name == "_") = false) (he : WH P f.type = some false) (ga : X3 xs f.offset = some a) (gb : X3 ys f.offset = some b) (ha : Wq P f.type a = true) (hb : Wq P f.type b = true) (h : EqF P xs ys fs r) : EqF P xs ys (f :: fs) (ZG a b && r)
  | arr {f : Field} {fs : List Field} {n e : Nat} {va vb : List Value} {r : Bool} (hn : (f.name == "_") = false) (ht : qH P f.type = some (n, e)) (hz : Q9 P f.type = some n) (he : WH P e = some false) (hs : Q9 P e = some 1) (ga : (xs.drop f.offset).take n = va) (gb : (ys.drop f.offset).take n = vb) (hla : va.length = n) (hlb : vb.length = n)
      (h1 : va.all (Wq P e) = true) (h2 : vb.all (Wq P e) = true) (h : EqF P xs ys fs r) : EqF P xs ys (f :: fs) (Qs va vb && r)
theorem zG {t n : Nat} {cs va : List Value} {e : Nat} (ht : qH P t = some (m, e)) (hz : Q9 P t = some n) (ga : (cs.drop off).take n = va) (hl : va.length = n) (w : World) : (part t cs.toArray off).run P w = .ok (.agg va.toArray) w := by
 have e1 : (cs.toArray.extract off (off + n)) = va.toArray := by
  apply Array.toList_inj.1
  rw [← ga, List.extract_toArray, List.extract_eq_take_drop, Nat.add_sub_cancel_left]
 unfold part
 simp only [Sem.run_bind, vp (show WH P t = some true from by unfold WH; rw [xw ht]), Result.andThen, Vz hz, if_true, e1]
 rfl
theorem jC  {xs : List Value} {d : Nat} : ∀ {fs : List Field} {b : Bool}, EqF P xs ys fs b → (Op.eqFields (d + 2) xs.toArray ys.toArray fs).run P w = .ok b w := by
 intro fs b h
 induction h with
 | nil => simp [Op.eqFields]
 | @scal f fs a b r hn he ga gb ha hb h ih =>
  have hn' : f.name ≠ "_" := by intro e; rw [e] at hn; simp at hn
  simp only [Op.eqFields, Sem.run_ite, if_pos hn', Sem.run_bind, Zt he (show xs.toArray[f.offset]? = some a from by rw [List.getElem?_toArray, ← Vm]; exact ga), Zt he (show ys.toArray[f.offset]? = some b from by rw [List.getElem?_toArray, ← Vm]; exact gb), Result.andThen, xA ha hb]
  cases hab : ZG a b
  ·simp
  ·simpa using ih
 | @arr f fs n e va vb r hn ht hz he hs ga gb hla hlb h1 h2 h ih =>
  have hn' : f.name ≠ "_" := by intro e; rw [e] at hn; simp at hn
  simp only [Op.eqFields, Sem.run_ite, if_pos hn', Sem.run_bind, zG ht hz ga hla, zG ht hz gb hlb, Result.andThen, qk ht he hs hla hlb h1 h2]
  cases hab : Qs va vb
  ·simp
  ·simpa using ih
section
variable {c : Cx} {l : KY} {L : J3} {X : XP} {d : List Deferred}
variable {i : Nat} {t : TypeId} {ps : String} {af : Array Edge} {gd : Option (Nat × Bool)} {ty t2 : TypeId}
theorem Jh0  {xs : List Value} {b : Bool} (hx : KU l x = some (.agg xs.toArray)) (hy : KU l y = some (.agg ys.toArray)) (ht : c.P.underlying t = some (.struct (c.P.fieldsOf t))) (hp : c.P.stoodInHeld t = false) (hgt : c.P.eqGuardType c.P.depth t = false) (hE : EqF c.P xs ys (c.P.fieldsOf t).toList b) :
  Kg c d l L X ⟨some i, .binOp .eql t x y t2, ty, ps, af, gd⟩ (.bool b) := fun a' w hf _ => by
 have hr := run_equalIn_struct (P := c.P) w 9999 t xs.toArray ys.toArray ht hp
 rw [jC hE] at hr
 have h0 := run_eql_struct (P := c.P) w t xs.toArray ys.toArray
 rw [hr] at h0
 simp only [execOp]
 rw [hf.eval hx, hf.eval hy]
 simp only [Sem.run_bind, run_eqGuard_agg w .eql t x y _ _ hgt, Result.andThen, h0]
 rfl
theorem Js3  {xs : List Value} {b : Bool} (hx : KU l x = some (.agg xs.toArray)) (hy : KU l y = some (.agg ys.toArray)) (ht : c.P.underlying t = some (.struct (c.P.fieldsOf t))) (hp : c.P.stoodInHeld t = false) (hgt : c.P.eqGuardType c.P.depth t = false) (hE : EqF c.P xs ys (c.P.fieldsOf t).toList b) :
  Kg c d l L X ⟨some i, .binOp .neq t x y t2, ty, ps, af, gd⟩ (.bool (!b)) := fun a' w hf _ => by
 have hr := run_equalIn_struct (P := c.P) w 9999 t xs.toArray ys.toArray ht hp
 rw [jC hE] at hr
 have h0 := run_neq_struct (P := c.P) w t xs.toArray ys.toArray
 rw [hr] at h0
 simp only [execOp]
 rw [hf.eval hx, hf.eval hy]
 simp only [Sem.run_bind, run_eqGuard_agg w .neq t x y _ _ hgt, Result.andThen, h0]
 rfl
end
theorem vA (a b : BS) : ZG (Jk a) (Jk b) = decide (a = b) := xz a b
theorem wA {xs ys : List α} (hl : xs.length = ys.length) (hi : xs.length ≤ i) (h : ∀ j, j < i → xs[j]? = ys[j]?) : xs = ys := by
 apply List.ext_getElem?
 intro j
 by_cases hj : j < i
 ·exact h j hj
 ·rw [List.getElem?_eq_none m3, List.getElem?_eq_none m3]
theorem wB {xs ys : List α} {x y : α} (hx : xs[i]? = some x) (hy : ys[i]? = some y) (h : ¬ x = y) : ¬ xs = ys := by
 rintro rfl; rw [hx] at hy; exact h (J' hy)
theorem eqU (a b : Nat) : ZG (uV a) (uV b) = decide (a = b) := by
 show ((a : Int) == (b : Int)) = _
 by_cases h : a = b
 ·subst h; simp
 ·have : ¬ (a : Int) = b := by omega
  simp [h, this]
theorem eqW (x y : W4) : Qs [uV x.a, uV x.b, uV x.c, uV x.d] [uV y.a, uV y.b, uV y.c, uV y.d] = decide (x = y) := by
 simp only [Qs, eqU]
 obtain ⟨a, b, c, d⟩ := x
 obtain ⟨a', b', c', d'⟩ := y
 by_cases h1 : a = a' <;> by_cases h2 : b = b' <;> by_cases h3 : c = c' <;> by_cases h4 : d = d' <;> simp [h1, h2, h3, h4]
section
variable {c : Cx} {d : List Deferred} {l : KY} {E : J3} {X : XP} {S : J3} {ops : Array Oper} {tb : YV} {rest : List Nat} {T : J3 → Act → Prop} {k i : Nat}
theorem zH
  (hk : X3 ops.toList k = some ⟨some i, .call ⟨.value f, args, at_⟩, ty, ps, af, gd⟩) (hg : KW l ops ⟨some i, .call ⟨.value f, args, at_⟩, ty, ps, af, gd⟩ = some true) (hi : Nat.ble (i + 1) c.n = true) (hA : tb k = .grow (V1 x0 V LL)) (hca : Qw l f args = some (g, vs)) (eg : Enters c.P g)
  (hp : PureT c.P g vs.toArray V [] LL Rl) (hR : ∀ p ∈ Rl, p ∈ S ∨ p ∈ c.R) (h : ∀ x, HB c d ((i, V x) :: l) (LL x ++ E) X S ops tb rest T) : HB c d l E X S ops tb (k :: rest) T :=
 xS (e := V1 x0 V LL) hk hg rfl hi hA (fun E' hE a w hf hs => jy hf hca eg ((hp.run w (fun p hp => by cases hp) (fun p hp => (hR p hp).elim (fun h => (hs.own _ (hE p h)).2.2) hs.readR) List.Pairwise.nil (fun p _ q hq => by cases hq)).mono fun _ _ ⟨x, he, hk, h1, h2⟩ => ⟨V x, he, x, rfl, hk, (fun p hp => ⟨((h1 p hp).1).elim (fun h => by cases h) id, (h1 p hp).2⟩), h2⟩)) h
end
theorem jD {l : KY} (hp : L.Perm L') (h : HC c d l L' X code Q) : HC c d l L X code Q := fun a w hf hs => h a w hf (hs.perm hp)
theorem Ye (A B C : List α) : (A ++ (B ++ C)).Perm (B ++ (A ++ C)) := by
 rw [← Ld', ← Ld']
 exact List.perm_append_comm.append_right C
structure AcSt (R : J3) : Type where
  a : AcL
  L : J3
  ok : a.In (L ++ R)
structure StSt (R : J3) : Type where
  s : StL
  L : J3
  ok : s.In (L ++ R)
def AcSt.next {R : J3} (s : AcSt R) {e : AcE × Int} (x : AcRes (s.L ++ R) e) : AcSt R := ⟨x.a, x.L ++ s.L, by rw [Ld']; exact x.ok⟩
def StSt.next {R : J3} (s : StSt R) {L' : J3} {e : List AcE × Int} (x : StRes (L' ++ (s.L ++ R)) e) : StSt R := ⟨x.s, x.L ++ (L' ++ s.L), by rw [Ld', Ld']; exact x.ok⟩
theorem map_drop (f : Nat → α) (h : i < 7) : (tab.map f).drop i = f i :: (tab.map f).drop (i + 1) := by
 have : i = 0 ∨ i = 1 ∨ i = 2 ∨ i = 3 ∨ i = 4 ∨ i = 5 ∨ i = 6 := by omega
 rcases this with rfl | rfl | rfl | rfl | rfl | rfl | rfl <;> rfl
def ja (v : Value) : List PanicEntry := [{ v, recovered := false }]
structure PureX {α : Type} (P : Program) (f : FuncId) (args : Array Value) (ok : Prop) (bad : Value → Prop) (V : α → Value) (LL : α → J3) (Rl : J3) : Prop where
  run : ∀ w, jn Rl w → Calls P f args w fun e w' => (ok ∧ ∃ x, e = .returned (V x) ∧ Keep [] w w' ∧ (∀ p ∈ LL x, w.heap.size ≤ p.1 ∧ w'.heap[p.1]? = some p.2) ∧ (LL x).Pairwise fun p q => p.1 ≠ q.1) ∨ (∃ v, bad v ∧ e = .panicked (ja v) ∧ Keep [] w w')
def cxX (P : Program) (w : World) (Rl : J3) (n : Nat) : Cx := ⟨P, none, w, [], [], Rl, n⟩
theorem St.startX {n : Nat} (hR : jn Rl w) : St (cxX P w Rl n) [] (fun _ _ => True) w :=
 ⟨Keep.refl _ _, by simp, by simp, fun p hp => ⟨by simp [cxX], by simp [cxX], hR p hp⟩, by simp [cxX], ⟨[], by simp, fun _ _ => trivial⟩⟩
def Jwi {α : Type} (c : Cx) (ok : Prop) (bad : Value → Prop) (V : α → Value) (LL : α → J3) : Ending → World → Prop := fun e w' =>
 (ok ∧ ∃ x, e = .returned (V x) ∧ St c (LL x) (fun _ _ => True) w') ∨ (∃ v, bad v ∧ e = .panicked (ja v) ∧ Keep [] c.w1 w')
theorem Vk {f : FuncId} {ok : Prop} (hf : P.funcs[f]? = some fn) (hb : fn.body = some code) (hlen : Nat.ble vs.length fn.ntmps = true)
  (h : ∀ w, HC (cxX P w Rl fn.ntmps) [] (Wd 0 vs) [] (fun _ _ => True) code (bodyPostM (FW none) 0 P fn (Jwi (cxX P w Rl fn.ntmps) ok bad V LL))) : PureX P f vs.toArray ok bad V LL Rl := ⟨fun w hR =>
 (Vj (cxX P w Rl fn.ntmps) hf hb rfl rfl rfl hlen (St.startX hR) (h w)).mono fun _ _ h => h.imp
  (fun ⟨ho, x, he, hs⟩ => ⟨ho, x, he, by have := hs.keep; simpa [cxX] using this, fun p hp => by have := (hs.own p hp); simp only [cxX, List.not_mem_nil, false_or] at this; exact ⟨this.1, this.2.2⟩, hs.distinct⟩)
  (fun ⟨v, hv, he, hk⟩ => ⟨v, hv, he, hk⟩)⟩
theorem PureX.mono {f : FuncId} {args : Array Value} {ok ok' : Prop} {bad' : Value → Prop} (h : PureX P f args ok bad V LL Rl) (h1 : ok → ok') (h2 : ∀ v, bad v → bad' v) : PureX P f args ok' bad' V LL Rl :=
 ⟨fun w hR => (h.run w hR).mono fun _ _ h => h.imp (fun ⟨a, b⟩ => ⟨h1 a, b⟩) (fun ⟨v, a, b⟩ => ⟨v, h2 v a, b⟩)⟩
theorem PureX.map {β : Type} {f : FuncId} {args : Array Value} {ok : Prop} {V' : β → Value} {LL' : β → J3} (h : PureX P f args ok bad V LL Rl) (g : α → β) (hv : ∀ x, V x = V' (g x)) (hl : ∀ x, (LL' (g x)).Sublist (LL x)) : PureX P f args ok bad V' LL' Rl :=
 ⟨fun w hR => (h.run w hR).mono fun _ _ h => h.imp (fun ⟨a, x, he, hk, h1, h2⟩ => ⟨a, g x, he.trans (by rw [hv]), hk, fun p hp => h1 p ((hl x).subset hp), h2.sublist (hl x)⟩) id⟩
theorem PureX.toT {f : FuncId} {args : Array Value} {ok : Prop} (h : PureX P f args ok bad V LL Rl) (hb : ∀ v, ¬ bad v) : PureT P f args V [] LL Rl :=
 ⟨fun w _ hR _ _ => (h.run w hR).mono fun _ _ h => h.elim (fun ⟨_, x, he, hk, h1, h2⟩ => ⟨x, he, hk, fun p hp => ⟨.inr (h1 p hp).1, (h1 p hp).2⟩, h2⟩) (fun ⟨v, hv, _⟩ => absurd hv (hb v))⟩
section
variable {c : Cx} {l : KY} {L : J3} {X : XP} {Q : Exit → Act → World → Prop} {K : Act → World → Prop} {d : List Deferred}
variable {ops : Array Oper} {rest : List Oper} {i : Nat} {v : Value} {t : TypeId} {ps : String} {af : Array Edge} {gd : Option (Nat × Bool)} {ty : TypeId}
theorem KD {ok : Prop}
  (hg : KW l ops ⟨some i, .call ⟨.value f, args, at_⟩, ty, ps, af, gd⟩ = some true) (hi : Nat.ble (i + 1) c.n = true) (hca : Qw l f args = some (g, vs)) (eg : Enters c.P g)
  (hpt : PureX c.P g vs.toArray ok bad V LL Rl) (hR : ∀ p ∈ Rl, known c L p.1 p.2) (h : ok → ∀ x, HL c d ((i, V x) :: l) (LL x ++ L) X ops rest Q) (hp : ∀ v, bad v → HQ c d l L X (Q (.panic (ja v)))) :
  HL c d l L X ops (⟨some i, .call ⟨.value f, args, at_⟩, ty, ps, af, gd⟩ :: rest) Q := fun a w hf hs => by
 refine QX (Kh hf hg) O ?_
 rw [VK hf hca c.P w _ rfl eg, Oper.uponIn_enter]
 refine ⟨fun hdep => nW, ?_⟩
 have hc := callsIn_wide (n := 0) |>.2 (hpt.run w fun p hp => hs.known (hR p hp))
 refine CallsIn.mono mT ?_
 rintro e w' (⟨ho, x, rfl, hk, h1, h2⟩ | ⟨v, hv, rfl, hk⟩)
 ·exact h ho x _ w' (hf.put (H' hi)) (hs.freshs hk h1 h2)
 ·exact hp v hv a w' hf (hs.more hk)
theorem Jcz (hg : KW l ops ⟨dst, .panic x, ty, ps, af, gd⟩ = some true) (hx : KU l x = some (.iface tt v)) (h : HQ c d l L X (Q (.panic (ja (.iface tt v))))) : HL c d l L X ops (⟨dst, .panic x, ty, ps, af, gd⟩ :: rest) Q := fun a w hf hs => by
 refine QX (Kh hf hg) O ?_
 have hrun : (execOp a.eval ⟨dst, .panic x, ty, ps, af, gd⟩).run c.P w = .halt (.panic (.iface tt v)) w := by
  have e : (Instr.panic (.iface tt v)).run c.P w = .halt (.panic (.iface tt v)) w := rfl
  simp only [execOp, hf.eval hx]
  simp [Sem.run_bind, e, Result.andThen]
 rw [hrun, Oper.uponIn_panic]
 exact h a w hf hs
theorem J6 (h : HQ c d l L X (Q (.panic ch))) : HQ c d l L X (Exit.then K Q (.panic ch)) := h
theorem Jz (h : HQ c d l L X (Q (.panic ch))) : HQ c d l L X (Exit.inBlock id Q (.panic ch)) := h
theorem Jh1 (h : ∀ w, St c L X w → R (.panicked ch) w) : HQ c [] l L X (bodyPostM (FW none) 0 P fn R (.panic ch)) := fun a w hf hs => by
 show LeavesInM _ _ _ _ _ _ _ _ _
 rw [hf.defers]
 exact h w hs
theorem Va {ok : Prop} (hc1 : c.ids = []) (hc2 : c.xids = []) (h : bad v) : HQ c [] l L X (bodyPostM (FW none) 0 P fn (Jwi c ok bad V LL) (.panic (ja v))) :=
 Jh1 fun w hs => .inr ⟨v, h, rfl, by have := hs.keep; rw [hc1, hc2] at this; exact this⟩
end
def dF (g : FuncId) (caps : List Value) : Deferred := { target := .fn (.func g) caps.toArray, args := #[] }
def Jwj (c : Cx) (L' : J3) (X : XP) : Ending → FrameMode → World → Prop := fun e u' w' => (∃ x, e = .returned x) ∧ settle u' = .returning ∧ St c L' X w'
section
variable {c : Cx} {l : KY} {L : J3} {X : XP} {Q : Exit → Act → World → Prop} {K : Act → World → Prop} {d : List Deferred}
variable {ops : Array Oper} {rest : List Oper} {i : Nat} {v : Value} {t : TypeId} {ps : String} {af : Array Edge} {gd : Option (Nat × Bool)} {ty : TypeId}
theorem Xn (hro : c.ro = none) (hg : KW l ops ⟨dst, .defer ⟨.value f, #[], at_⟩, ty, ps, af, gd⟩ = some true) (hf : KU l f = some (.func (.func g) #[] caps.toArray))
  (h : HL c (dF g caps :: d) l L X ops rest Q) (hdst : dst = none) : HL c d l L X ops (⟨dst, .defer ⟨.value f, #[], at_⟩, ty, ps, af, gd⟩ :: rest) Q := fun a w hfr hs => by
 subst hdst
 unfold wpListIn
 rw [if_pos (Kh hfr hg)]
 refine ⟨Qc, ?_⟩
 have e0 : (FW c.ro).round = none := by rw [hro]; rfl
 rw [e0, Oper.semAt_none]
 have h4 := hfr.eval hf
 have hrun : (execOp a.eval ⟨none, .defer ⟨.value f, #[], at_⟩, ty, ps, af, gd⟩).run c.P w = .ok (.defer (dF g caps)) w := by
  refine HZ ?_
  simp [resolve, h4, Deferred.ofValue, Result.andThen, dF]
 rw [hrun, Oper.uponIn_defer]
 exact h _ w ⟨hfr.size, by simp [Act.put, hfr.defers], hfr.slots⟩ hs
theorem Jnb (eg : Enters P g) (caps : List Value) (w : World) : (invoke (dF g caps).target (dF g caps).args).run P w = .ok (.enter g caps.toArray) w := by
 have := eg (#[] ++ caps.toArray) w
 have e1 : (#[] ++ caps.toArray : Array Value) = caps.toArray := by simp
 rw [e1] at this
 simpa [invoke, dF] using this
theorem Jfr (eg : Enters P g)
  (hD : ∀ w, St c L X w → CallsDIn (FW none) 0 P g caps.toArray .returning w (Jwj c L' X)) (h : HQ c d l L' X (bodyPostM (FW none) 0 P fn R .ret)) : HQ c (dF g caps :: d) l L X (bodyPostM (FW none) 0 P fn R .ret) := fun a w hf hs => by
 show LeavesInM _ _ _ _ _ _ _ _ _
 rw [hf.defers]
 refine ⟨by simp, .inr ⟨fun hdep => nW, _, _, g, caps.toArray, rfl, Jnb eg caps w, fun _ _ => trivial, ?_⟩⟩
 refine CallsDIn.mono (hD w hs) ?_
 rintro e u' w' ⟨⟨x, rfl⟩, hu, hs'⟩
 have h1 := h { tmps := a.tmps, defers := d } w' ⟨hf.size, rfl, hf.slots⟩ hs'
 simp only [hu]
 exact h1
theorem Jh2 (eg : Enters P g)
  (hD : ∀ w, St c L X w → CallsDIn (FW none) 0 P g caps.toArray (.panicking ch) w (Jwj c L' X)) (h : HQ c d l L' X (bodyPostM (FW none) 0 P fn R .ret)) : HQ c (dF g caps :: d) l L X (bodyPostM (FW none) 0 P fn R (.panic ch)) := fun a w hf hs => by
 show LeavesInM _ _ _ _ _ _ _ _ _
 rw [hf.defers]
 refine ⟨by simp, .inr ⟨fun hdep => nW, _, _, g, caps.toArray, rfl, Jnb eg caps w, fun _ _ => trivial, ?_⟩⟩
 refine CallsDIn.mono (hD w hs) ?_
 rintro e u' w' ⟨⟨x, rfl⟩, hu, hs'⟩
 have h1 := h { tmps := a.tmps, defers := d } w' ⟨hf.size, rfl, hf.slots⟩ hs'
 simp only [hu]
 exact h1
end
def HCS (c : Cx) (d : List Deferred) (l : KY) (L : J3) (X : XP) (code : Code) (cs : List Frame) (Q : Exit → Act → List Frame → World → Prop) : Prop :=
 ∀ a w, Fr c.n d l a → St c L X w → code.wpSIn (FW none) 0 c.P Q a cs w
def HS (c : Cx) (d : List Deferred) (l : KY) (L : J3) (X : XP) (ops : Array Oper) (rest : List Nat) (cs : List Frame) (Q : Exit → Act → List Frame → World → Prop) : Prop :=
 ∀ a w, Fr c.n d l a → St c L X w → wpOpsSIn (FW none) 0 c.P ops Q rest a cs w
section
variable {c : Cx} {l : KY} {L : J3} {X : XP} {Q : Exit → Act → List Frame → World → Prop} {d : List Deferred} {cs : List Frame}
variable {ops : Array Oper} {rest : List Nat} {i k : Nat} {v : Value} {o : Oper}
theorem wD (hro : c.ro = none) (h : HC c d l L X code (fun e a w => Q e a cs w)) : HCS c d l L X code cs Q := fun a w hf hs => by
 have h1 := h a w hf hs
 rw [hro] at h1
 exact wpSIn_of_wpIn O h1
theorem vB {x y : Code} (h : ∀ K, (∀ d l L X cs, HCS c d l L X y cs Q → HQ c d l L X (fun a w => K a cs w)) → HCS c d l L X x cs (Exit.thenS K Q)) : HCS c d l L X (x.seq y) cs Q :=
 fun a w hf hs => wpSIn_seq (h (fun a cs w => y.wpSIn (FW none) 0 c.P Q a cs w) (fun _ _ _ _ _ hy a w hf hs => hy a w hf hs) a w hf hs)
theorem Y7 (h : HS c d l L X ops (List.range ops.size) cs Q) : HCS c d l L X (.region id ops false) cs Q := fun a w hf hs => wpSIn_region (h a w hf hs)
theorem Jab (h : HQ c d l L X (fun a w => Q .normal a cs w)) : HS c d l L X ops [] cs Q := h
theorem Yf (ho : X3 ops.toList k = some o) (hg : KW l ops o = some true) (hd : o.dst = some i) (hi : Nat.ble (i + 1) c.n = true) (hr : Kg c d l L X o v) (h : HS c d ((i, v) :: l) L X ops rest cs Q) : HS c d l L X ops (k :: rest) cs Q := fun a w hf hs => by
 have hk : ops[k]? = some o := by rw [← Vn ho]
 simp only [wpOpsSIn, hk]
 refine ⟨Qc, ?_⟩
 rw [if_pos (Kh hf hg), hr a w hf hs]
 rw [hd]
 exact h _ w (hf.put (H' hi)) hs
def Jks (cs : List Frame) : Value := match recoverD cs with | some (v, _) => v | none => .nilIface
def Jkt (cs : List Frame) : List Frame := match recoverD cs with | some (_, cs') => cs' | none => cs
theorem Y8 (ho : X3 ops.toList k = some o) (hg : KW l ops o = some true) (hd : o.dst = some i) (hi : Nat.ble (i + 1) c.n = true) (hr : ∀ a w, Fr c.n d l a → (execOp a.eval o).run c.P w = .ok .recover w) {cs' : List Frame} (hv : Jks cs = v) (hc : Jkt cs = cs') (h : HS c d ((i, v) :: l) L X ops rest cs' Q) : HS c d l L X ops (k :: rest) cs Q := fun a w hf hs => by
 have hk : ops[k]? = some o := by rw [← Vn ho]
 simp only [wpOpsSIn, hk]
 refine ⟨Qc, ?_⟩
 rw [if_pos (Kh hf hg), hr a w hf, hd]
 have h1 := h _ w (hf.put (H' hi)) hs
 subst hv hc
 unfold Jks Jkt at h1
 cases e : recoverD cs with
 | none => rw [e] at h1; exact h1
 | some q => obtain ⟨u, cs2⟩ := q; rw [e] at h1; exact h1
theorem Jnc {R : Ending → FrameMode → World → Prop} {cs cs' : List Frame} (hP : c.P = P) (hcs : cs' = { c₀ with mode := u' } :: cs) (hr : fn.results = rs.toArray) (h : ResAll c l L rs vs) (hR : ∀ w, St c L X w → R (.returned (QD vs)) u' w) :
  HQ c [] l L X (fun a w => bodyPostS P fn c₀ cs R .ret a cs' w) := fun a w hf hs => ⟨hf.defers, u', hcs, _, hP ▸ qG hf hs h hr, hR w hs⟩
theorem Yg {R : Ending → FrameMode → World → Prop} {cs cs' : List Frame} (hP : c.P = P) (hcs : cs' = { c₀ with mode := u' } :: cs) (hr : fn.results = rs.toArray) (h : ResAll c l L rs vs) (hR : ∀ w, St c L X w → R (.returned (QD vs)) u' w) :
  HQ c [] l L X (fun a w => bodyPostS P fn c₀ cs R .normal a cs' w) := Jnc (R := R) (fn := fn) hP hcs hr h hR
end
theorem Wr {f : FuncId} {u : FrameMode} {R : Ending → FrameMode → World → Prop} (c : Cx) (hf : P.funcs[f]? = some fn) (hb : fn.body = some code) (hc : c.P = P) (hn : c.n = fn.ntmps)
  (hlen : Nat.ble vs.length fn.ntmps = true) (hs : St c L X w) (h : ∀ c₀ cs, c₀.mode = u → HCS c [] (Wd 0 vs) L X code (c₀ :: cs) (bodyPostS P fn c₀ cs R)) : CallsDIn (FW none) 0 P f vs.toArray u w R := by
 refine callsDIn_of_wpSIn hf hb trivial fun c₀ cs hu => ?_
 have h1 := h c₀ cs hu _ w (yT (n := c.n) (by rw [hn]; exact H' hlen)) hs
 rw [hc, hn] at h1
 exact h1
theorem Jc0 {cs : List Frame} (h : c₀.mode = .panicking (ja v)) : Jks (c₀ :: cs) = v ∧ Jkt (c₀ :: cs) = { c₀ with mode := .panicking [{ v, recovered := true }] } :: cs := by
 have e : recoverD (c₀ :: cs) = some (v, { c₀ with mode := .panicking [{ v, recovered := true }] } :: cs) := by simp only [recoverD, h, ja]
 unfold Jks Jkt
 rw [e]
 exact ⟨rfl, rfl⟩
theorem Jc1 {cs : List Frame} (h : c₀.mode = .returning) : Jks (c₀ :: cs) = .nilIface ∧ Jkt (c₀ :: cs) = { c₀ with mode := .returning } :: cs := by
 have e : recoverD (c₀ :: cs) = none := by simp only [recoverD, h]
 unfold Jks Jkt
 rw [e]
 refine ⟨rfl, ?_⟩
 cases c₀
 simp only at h
 rw [h]
def Jnd : KY → Nat → Option Value
 | [], _ => none
 | (j, v) :: l, i => match Nat.beq i j with | true => some v | false => Jnd l i
def J0j (ops : List Oper) (j : Nat) : Option Nat := match X3 ops j with | some o => o.dst | none => none
def Jfs (ops : List Oper) (tv : KY) : List Edge → KY
 | [] => []
 | e :: es => match J0j ops e.on, Jnd tv e.on with | some i, some v => (i, v) :: Jfs ops tv es | _, _ => Jfs ops tv es
def Jwk (ops : List Oper) (tv : KY) (j : Nat) : KY := match X3 ops j with | some o => Jfs ops tv (o.after.toList.filter fun e => Region.binds .any e) | none => []
inductive BoomOk (c : Cx) (d : List Deferred) (l : KY) (L : J3) (X : XP) (ops : List Oper) (tv : KY) : KY → Prop
  | nil : BoomOk c d l L X ops tv []
  | cons {j : Nat} {v : Value} {o : Oper} {ds rest : KY} (h1 : X3 ops j = some o) (h2 : Jwk ops tv j = ds) (h3 : Kg c d (ds ++ l) L X o v) (h : BoomOk c d l L X ops tv rest) : BoomOk c d l L X ops tv ((j, v) :: rest)
theorem BoomOk.get {l : KY} {ops : List Oper} {tv : KY} : ∀ {tw : KY}, BoomOk c d l L X ops tv tw → ∀ p ∈ tw, ∃ o, X3 ops p.1 = some o ∧ Kg c d (Jwk ops tv p.1 ++ l) L X o p.2
 | _, .nil, p, h => by cases h
 | _, .cons h1 h2 h3 h, p, hp => by
  rcases F'.1 hp with rfl | hp
  ·exact ⟨_, h1, h2 ▸ h3⟩
  ·exact h.get p hp
section
variable {c : Cx} {X : XP} {S : J3} {ops : Array Oper} {md : Region.Mode}
def J0k (md : Region.Mode) (ops : Array Oper) (tb : YV) (m : Nat) (G : Array Bool → Bool) : List Nat → Array Bool → Bool := zv md ops tb m 0 G
end
def J2j (ops : List Oper) (m : Nat) : Bool := (List.range ops.length).all fun t => Nat.blt t m || (List.range m).all fun i => Region.waitsFor .any ops.toArray t i
def zI (n m : Nat) : Array Bool := (List.replicate m true ++ List.replicate (n - m) false).toArray
def Jne (ops : List Oper) (tb : YV) (m : Nat) (order : List Nat) : Bool :=
 (ops.all fun o => KM o.op) && Region.noSelect ops.toArray && Nat.ble m ops.length && Nat.beq order.length m && J2j ops m && xQ .any ops.toArray tb m && Jxp ops.toArray tb m &&
 J0k .any ops.toArray tb m (fun z => decide (z = zI ops.length m)) order (Array.replicate ops.length false)
section
variable {c : Cx} {l : KY} {L E : J3} {X : XP} {Q : Exit → Act → World → Prop} {d : List Deferred}
variable {tb : YV} {S : J3}
def HN (c : Cx) (d : List Deferred) (l : KY) (L : J3) (X : XP) (ops : Array Oper) (g : Nat) (listed : Array Bool) (Q : Exit → Act → World → Prop) : Prop :=
 ∀ a w, Fr c.n d l a → St c L X w → wpAnyIn (FW c.ro) 0 c.P .any ops Q g listed a w
theorem Jnf {ops : List Oper} (S : J3) (tab : List (Nat × Kb)) (m : Nat) (order : List Nat) (hm : c.P.follows .mixedOrders = true) (hB : Jne ops (Zd tab) m order = true) (hSL : SubS S L)
  (h : HB c d l L X S ops.toArray (Zd tab) order (fun E a' => ∀ w, St c E X w → wpAnyIn (FW c.ro) 0 c.P .any ops.toArray Q (ops.length - m) (zI ops.length m) a' w)) : HC c d l L X (.region id ops.toArray true) Q := fun a w hf hs => by
 simp only [Jne, Bool.and_eq_true] at hB
 obtain ⟨⟨⟨⟨⟨⟨⟨h1, hsel⟩, hle⟩, hol⟩, hall⟩, hcr⟩, hdp⟩, hlex⟩ := hB
 have hle' := H' hle
 have hol' := Nat.eq_of_beq_eq_true hol
 have hnd : ∀ (j : Nat) (o : Oper), ops.toArray[j]? = some o → KM o.op = true := fun j o ho => List.all_eq_true.1 h1 o (List.mem_of_getElem? Ml)
 have hlt : ∀ i, i < m → ∀ listed, HeadInv .any ops.toArray m listed → listed.getD i true = false → ∀ j ∈ Region.ready .any ops.toArray listed, j < m := by
  intro i hi listed inv hun j hj
  rcases Nat.lt_or_ge j m with hjm | hjm
  exact hjm
  obtain ⟨_, oj, hoj, hw⟩ := mem_ready.1 hj
  have hjs : j < ops.length := by simpa using (Array.getElem?_eq_some_iff.1 hoj).1
  have h2 := List.all_eq_true.1 hall j (List.mem_range.2 hjs)
  rw [Bool.or_eq_true] at h2
  rcases h2 with h2 | h2
  have : j + 1 ≤ m := H' h2
  omega
  have h3 := List.all_eq_true.1 h2 i (List.mem_range.2 hi)
  obtain ⟨o2, ho2, e, he, hb, hon⟩ := Region.waitsFor_spec h3
  have : o2 = oj := J' (ho2.symm.trans hoj)
  subst this
  have h4 := hw e he hb
  rw [hon] at h4
  have h5 := getD_both hun
  rw [h5] at h4; cases h4
 have inv0 : HeadInv .any ops.toArray m (Array.replicate ops.length false) :=
  ⟨by simp, fun j oj _ hl => nL, fun t _ ht => getD_in MI (getD_replicate_false _ _)⟩
 have hseq : ∀ listed, decide (listed = zI ops.length m) = true → ∀ j ∈ Region.ready .any ops.toArray listed, m ≤ j := by
  intro listed hq j hj
  rw [decide_eq_true_eq] at hq
  subst hq
  obtain ⟨hu, _⟩ := mem_ready.1 hj
  rcases Nat.lt_or_ge j m with hjm | hjm
  exfalso
  have : (zI ops.length m).getD j true = true := by
   unfold zI
   rw [Array.getD_eq_getD_getElem?, List.getElem?_toArray, List.getElem?_append_left (by simpa using hjm), List.getElem?_replicate, if_pos hjm]; rfl
  rw [this] at hu; cases hu
  exact hjm
 have H := qt (c := c) (X := X) (md := .any) (n := 0) (GG := fun listed => decide (listed = zI ops.length m)) (fun listed E a _ hG hT => ⟨hG, hT⟩) hsel (fun E E' a hp hT w hs => hT w (hs.perm hp.symm)) (fun i hi => j7 hcr hi) (zy hdp) hlt hseq order _ L a inv0 hSL hlex (h a hf)
 refine wpIn_region_any hm ?_
 have := xO (Q' := Q) (g := ops.length - m) hnd (fun E' listed a' w' _ hw' hL => by
  have h5 := hL.1
  rw [decide_eq_true_eq] at h5
  subst h5
  exact hL.2 w' hw') _ _ _ _ _ hSL Mr H
 rw [hol', Nat.add_zero, show m + (ops.length - m) = ops.toArray.size from by simp; omega] at this
 simpa using this
variable {ops : Array Oper} {g : Nat} {listed : Array Bool}
theorem Js5 (h : HN c d l E X ops g listed Q) : HB c d l E X S ops tb [] (fun E' a' => ∀ w, St c E' X w → wpAnyIn (FW c.ro) 0 c.P .any ops Q g listed a' w) := fun a hf w hs => h a w hf hs
theorem Jx0 (hr : Region.ready .any ops listed = []) (h : HQ c d l L X (Q .normal)) : HN c d l L X ops 0 listed Q := fun a w hf hs => ⟨hr, h a w hf hs⟩
def HNO (c : Cx) (d : List Deferred) (l : KY) (L : J3) (X : XP) (ops : Array Oper) (g : Nat) (listed : Array Bool) (Q : Exit → Act → World → Prop) (i : Nat) : Prop :=
 ∀ a w, Fr c.n d l a → St c L X w → wpOpIn (FW c.ro) 0 c.P ops Q i (wpAnyIn (FW c.ro) 0 c.P .any ops Q g (listed.setIfInBounds i true)) a w
inductive AllN (p : Nat → Prop) : List Nat → Prop
  | nil : AllN p []
  | cons {i : Nat} {r : List Nat} (h : p i) (hr : AllN p r) : AllN p (i :: r)
theorem AllN.get {p : Nat → Prop} : ∀ {r : List Nat}, AllN p r → ∀ i ∈ r, p i
 | _, .cons h hr, i, hi => by
  rcases F'.1 hi with rfl | hi
  ·exact h
  ·exact hr.get i hi
theorem V8 {is : List Nat} (hr : Region.ready .any ops listed = is) (hne : is.isEmpty = false) (h : AllN (HNO c d l L X ops g listed Q) is) : HN c d l L X ops (g + 1) listed Q := fun a w hf hs =>
 ⟨fun h0 => (by rw [h0] at hr; subst hr; cases hne), fun i hi => h.get i (hr ▸ hi) a w hf hs⟩
theorem Ws (ho : X3 ops.toList i = some o) (hn : KM o.op = true)
  (h : HL c d l L X ops [o] (Exit.then (fun a w => wpAnyIn (FW c.ro) 0 c.P .any ops Q g (listed.setIfInBounds i true) a w) Q)) : HNO c d l L X ops g listed Q i := fun a w hf hs => by
 have hk : ops[i]? = some o := by rw [← Vn ho]
 have h1 := h a w hf hs
 unfold wpListIn at h1
 unfold wpOpIn
 simp only [hk]
 by_cases hw : Region.wanted o (yielded ops a.tmps) = true
 ·rw [if_pos hw] at h1 ⊢
  obtain ⟨hab, h2⟩ := h1
  refine ⟨Qc, ?_⟩
  rw [Oper.semAt_eq _ _ _ (VJ hn)] at h2 ⊢
  generalize (execOp a.eval o).run c.P w = r at *
  cases r with
  | ok x w' =>
   cases x <;> simp only [Oper.uponIn] at h2 ⊢ <;>
    first
     | exact h2
     | exact ⟨h2.1, CallsIn.mono h2.2 (fun e w'' he => by cases e <;> exact he)⟩
     | exact ⟨h2.1, RowsIn.mono h2.2 (fun _ _ he => he)⟩
     | exact ⟨h2.1, RoundIn.mono h2.2 (fun e w'' he => by cases e <;> exact he)⟩
  | halt x w' => cases x <;> simp only [Oper.uponIn] at h2 ⊢ <;> exact h2
 ·rw [if_neg hw] at h1 ⊢
  exact ⟨Qc, h1.2⟩
theorem Y9 (h : HN c d l L X ops g (listed.setIfInBounds i true) Q) : HL c d l L X ops [] (Exit.then (fun a w => wpAnyIn (FW c.ro) 0 c.P .any ops Q g (listed.setIfInBounds i true) a w) Q) := h
end
end Go.SL
namespace Go.Proofs.YtckoepmdmhdepaaGreatDoor
set_option linter.all false
open Go.SL Go.RowKit Go.Shelf
variable {s : BS} {g : FuncId} {e hi : Int} {cs vs : List Value} {f i r r1 r2 : Nat} {row : QZ} {w : World}
theorem Jng : Enters prog 14 := enters_of Tryz.func14 m4 rfl
theorem Jx1 : Enters prog 15 := enters_of Tryz.func15 m4 rfl
theorem Jx2 : Enters prog 16 := enters_of Tryz.func16 m4 rfl
theorem Jnh : Enters prog 33 := enters_of Tryz.func33 m4 rfl
theorem Js6 : Enters prog 38 := enters_of Tryz.func38 m4 rfl
theorem Jac : Enters prog 41 := enters_of Tryz.func41 m4 rfl
theorem vh : Enters prog 42 := enters_of Tryz.func42 m4 rfl
theorem Jx3 : Enters prog 43 := enters_of Tryz.func43 m4 rfl
theorem Jft : Enters prog 45 := enters_of Tryz.func45 m4 rfl
theorem XQ : Enters prog 47 := enters_of Tryz.func47 m4 rfl
theorem Jad : Enters prog 50 := enters_of Tryz.func50 m4 rfl
theorem ZJ : Enters prog 51 := enters_of Tryz.func51 m4 rfl
theorem Jni : Enters prog 52 := enters_of Tryz.func52 m4 rfl
theorem wE : Enters prog 62 := enters_of Tryz.func62 m4 rfl
theorem Js7 : Enters prog 63 := enters_of Tryz.func63 m4 rfl
theorem Js8 : Enters prog 64 := enters_of Tryz.func64 m4 rfl
theorem Jfu : Enters prog 77 := enters_of Tryz.func77 m4 rfl
theorem Js9 : Enters prog 78 := enters_of Tryz.func78 m4 rfl
theorem Jnj : Enters prog 85 := enters_of Tryz.func85 m4 rfl
theorem Jnk : Enters prog 97 := enters_of Tryz.func97 m4 rfl
theorem Jh3 : Enters prog 110 := enters_of Tryz.func110 m4 rfl
theorem X8 : Enters prog 118 := enters_of Tryz.func118 m4 rfl
theorem Jc2 : Enters prog 119 := enters_of Tryz.func119 m4 rfl
theorem Jc3 : Enters prog 120 := enters_of Tryz.func120 m4 rfl
theorem VN : Enters prog 121 := enters_of Tryz.func121 m4 rfl
theorem Vw : Enters prog 122 := enters_of Tryz.func122 m4 rfl
theorem Wt : Enters prog 123 := enters_of Tryz.func123 m4 rfl
theorem Jc4 : Enters prog 126 := enters_of Tryz.func126 m4 rfl
theorem Jnl : Enters prog 127 := enters_of Tryz.func127 m4 rfl
theorem Jnm : Enters prog 128 := enters_of Tryz.func128 m4 rfl
theorem Jc5 : Enters prog 139 := enters_of Tryz.func139 m4 rfl
theorem Jnn : Enters prog 149 := enters_of Tryz.func149 m4 rfl
theorem Jh4 : Enters prog 176 := enters_of Tryz.func176 m4 rfl
theorem Jno : Enters prog 177 := enters_of Tryz.func177 m4 rfl
theorem Jnp : Enters prog 180 := enters_of Tryz.func180 m4 rfl
theorem Jh5 : Enters prog 182 := enters_of Tryz.func182 m4 rfl
theorem Jnq : Enters prog 186 := enters_of Tryz.func186 m4 rfl
theorem Jnr : Enters prog 187 := enters_of Tryz.func187 m4 rfl
theorem Jns : Enters prog 188 := enters_of Tryz.func188 m4 rfl
theorem Jc6 : Enters prog 194 := enters_of Tryz.func194 m4 rfl
theorem Jh6 : Enters prog 201 := enters_of Tryz.func201 m4 rfl
theorem wF : Enters prog 205 := enters_of Tryz.func205 m4 rfl
theorem Jc7 : Enters prog 206 := enters_of Tryz.func206 m4 rfl
theorem Jnt : Enters prog 211 := enters_of Tryz.func211 m4 rfl
theorem Jnu : Enters prog 232 := enters_of Tryz.func232 m4 rfl
theorem Jnv : Enters prog 243 := enters_of Tryz.func243 m4 rfl
theorem Jc8 : Enters prog 250 := enters_of Tryz.func250 m4 rfl
theorem zJ : Enters prog 253 := enters_of Tryz.func253 m4 rfl
theorem Jc9 : Enters prog 276 := enters_of Tryz.func276 m4 rfl
theorem zK : Enters prog 277 := enters_of Tryz.func277 m4 rfl
theorem Jnw : Enters prog 279 := enters_of Tryz.func279 m4 rfl
theorem Zh : Enters prog 309 := enters_of Tryz.func309 m4 rfl
theorem wG : Enters prog 311 := enters_of Tryz.func311 m4 rfl
theorem Jnx : Enters prog 328 := enters_of Tryz.func328 m4 rfl
theorem wH : Enters prog 329 := enters_of Tryz.func329 m4 rfl
theorem Xo : Enters prog 334 := enters_of Tryz.func334 m4 rfl
theorem zM : Enters prog 341 := enters_of Tryz.func341 m4 rfl
theorem qQ : Enters prog 343 := enters_of Tryz.func343 m4 rfl
theorem zN (n : Nat) : Pure prog 200 [uV n].toArray (wV [n, 0, 0, 0]) := by
 refine JA Tryz.func200 O O fun w => kT fun r1 => ?_; refine kB ?_; refine Nl ?_; refine GN ?_; refine Jh O O (.cons (Jj (vs := [_, _, _, _]) O (kn 0 O) O O) .nil) (fun w1 hs1 => ?_); exact HG
theorem Jny {l : List Nat} (hi : i < 32) : ((List.replicate (32 - i) (0 : UInt8) ++ QB l i).map bV).set (31 - i) (bV (UInt8.ofNat (dg l i))) = (List.replicate (32 - (i + 1)) 0 ++ QB l (i + 1)).map bV := by
 rw [← List.map_set, show 32 - i = (31 - i) + 1 from by omega, Jhj, show 32 - (i + 1) = 31 - i from by omega]
 rfl
theorem Jae {l : List Nat} (hl : WOk l) : Pure prog 224 [wV l].toArray (.string (bs (QB l 32))) := by
 refine JA Tryz.func224 O O fun w => MZ ?_; refine JR (cs := (l.map uV).toArray) O O O O fun r1 => kB ?_; refine Y1 (n := 32) (b := 1) O O O O O O O O O m7 m7 fun r2 => E8 ?_; refine JQ (σ := Nat) (fun i => i ≤ 32) (fun i => [(1, .pointer (some ⟨r1, 0, none⟩)), (3, .slice (some ⟨r2, 0, none⟩) 32 32), (6, .int .i64 (i : Int))]) (fun i => [(r2, .cells ((List.replicate (32 - i) (0 : UInt8) ++ QB l i).map bV).toArray 5 (0, 0)), (r1, .cells (l.map uV).toArray 29 (0, 0))]) (fun _ _ _ => True) (fun i => 32 - i) 0 (Z') (lK O) (T') (fun _ _ h => h) ?_; intro i hi; refine gv ?_; refine cD (fun g => ?_) fun g => ?_
 refine Jv 14 O (JT m3 m3 (gu ?_)); refine Jw8 m3 m3 m3 (LR O (Ya (j := i / 8) (m := 1) (off' := i / 8) O O O O m3 m3 m3) (LR O (jx O (kn 1 O) O (j0 (by rw [hl.1]; omega))) (gu ?_))); refine Jxa m3 (KC O (JT m3 m3 (LR O (Jb9 (n := i % 8 * 8) O O m3 M6 m3 (xH _ _)) ?_))); refine KC O (J4 (show _ = bV (UInt8.ofNat (dg l i)) from j3 _) (LR rfl (Qn (j := 31 - i) (m := 1) (off' := 31 - i) rfl rfl rfl rfl m3 m3 m3) ?_)); refine Xh (k := 0) (off := 31 - i) (xs := (List.replicate (32 - i) (0 : UInt8) ++ QB l i).map bV) (ys := (List.replicate (32 - (i + 1)) 0 ++ QB l (i + 1)).map bV) O O O O O O Mg (Jny m3) O ?_; exact Dy
 ·refine Hu ?_
  have hi32 : i = 32 := by omega
  subst hi32; refine gz ?_; refine LR O (VB (b := QB l 32) (row := some (r2, 32, [])) (e := 5) O ⟨rfl, rfl⟩ (fun p hp => .inl (by rw [U'.1 hp]; exact N')) O O O) ?_; exact GP
theorem Xp (s : List UInt8) : Pure prog 243 [.string (bs s)].toArray (Jkc (ZI s)) := by
 refine JA Tryz.func243 O O fun w => Kl ?_
 obtain ⟨f, hf⟩ : ∃ f : Nat → Nat, f = fun t => (s.getD (31 - t) 0).toNat := ⟨_, rfl⟩
 have hfl : ∀ i, f i < 256 := fun i => by rw [hf]; exact V6 _
 have hfu : vy f 32 = qp s := by rw [hf]; rfl
 refine NG ?_; refine LN O fun r1 => g8 ?_; refine Nz ?_; refine NQ ?_; refine cD (fun g => ?_) fun g => ?_
 refine NG ?_; refine Nl ?_; refine G4 ?_; refine gU fun w1 hs1 => ?_; refine gS ?_; rw [show ZI s = (zW, 2) from by unfold ZI; rw [if_neg m3]]; rfl
 ·refine gw ?_; refine LN O fun r2 => JP 9 O (JQ (σ := Nat) (fun i => i ≤ 32) (fun i => [(0, .string (bs s)), (2, .pointer (some ⟨r1, 0, none⟩)), (4, .pointer (some ⟨r2, 0, none⟩)), (10, .int .i64 (i : Int))]) (fun i => [(r2, .cells ((vy f i).map uV).toArray 29 (0, 0)), (r1, .cells (zW.map uV).toArray 29 (0, 0))]) (fun _ _ _ => True) (fun i => 32 - i) 0 (Z') (lK O) (T') (fun _ _ h => h) ?_); intro i hi; refine gv ?_; refine cD (fun g => ?_) fun g => ?_
  refine Ku 10 O (KB 15 m4 m4 (N0 ?_)); refine Jw9 m3 m3 m3 (Jt O O O (Ya (j := i / 8) (m := 1) (off' := i / 8) O O O O m3 m3 m3) (Jt O O O (jx O (kn 0 O) O (j0 (by rw [Jhi]; omega))) (kr ?_))); refine N0 ?_; refine QA m3 m3 (Jt O O O (JW (j := 31 - i) O O O m3 m3 O) (gP ?_)); refine WK (show _ = Value.int .u64 ((f i : Nat) : Int) from by rw [hf]; exact congrArg (Value.int .u64) (wrap_u64 m3 (by have := V6 (s.getD (31 - i) 0); omega))) (N0 ?_); refine Jxb m3 (gP ?_); refine QA m3 m3 (Jt O O O (Jca (n := i % 8 * 8) O O m3 M6 (Jhl (Jhk (hfl i) m3))) (Jt O O O (wa (op := .or) (b := (((vy f i).getD (i / 8) 0 + f i * 2 ^ (i % 8 * 8) : Nat) : Int)) O O O ((Jmp hfl i).get _) (Jhk (hfl i) m3) (congrArg (fun z : Nat => (z : Int)) (by rw [Jhh f m3]; exact xG (Jmn hfl _ _)))) (Jt O O O (Ya (j := i / 8) (m := 1) (off' := i / 8) O O O O m3 m3 m3) (KR (Xh (k := 0) (off := i / 8) (xs := (vy f i).map uV) (ys := (vy f (i + 1)).map uV) O O O O O O (by simp [Jhi]; omega) (Jmq (Jmo f m3)) rfl ?_))))); exact Dy
  ·refine gv ?_
   have hi32 : i = 32 := by omega
   subst hi32; refine HI ?_; refine LR O (Ji (xs := (vy f 32).map uV) O (kn 0 O) O O O) (Je (k := 1) (n := 4) (ys := (vy f 32).map uV) O O O O O O O O O (gA ?_)); refine Jh O O (.cons (Jj (vs := [_, _, _, _]) O (kn 1 O) O O) (.cons (Jg O) .nil)) (fun w1 hs1 => ?_); refine gS ?_; rw [show ZI s = (qp s, 0) from by unfold ZI; rw [if_pos m3], ← hfu]; rfl
theorem jE {l : List Nat} (hl : WOk l) : Pure prog 204 [wV l].toArray (ZW l) := by
 refine JA Tryz.func204 O O fun w => MZ ?_; refine JR (cs := (l.map uV).toArray) O O O O fun r1 => JP 6 O (KB 5 m4 m4 (Jt O O O (Ji (xs := l.map uV) (n := 4) O (kn 0 O) O O Mx) ?_))
 refine Jt O O O (Ya (j := 0) O O O O O (by first | decide | omega) m0) ?_; refine Jt O O O (jx O (kn 0 O) O (j0 (by rw [hl.1]; omega))) ?_; refine Vu O O O (enters_of Tryz.func200 m4 O) (zN (l.getD 0 0)) ?_; refine Jt O O O (Jsq (xs := l.map uV) (ys := [l.getD 0 0, 0, 0, 0].map uV) (n := 4) O O O O O m4 Mx O (zk O _) (zk O _)) ?_; refine WK (show _ = Value.bool (!VC l) from congrArg (fun z => Value.bool (!z)) (Jhp (by rw [hl.1]; rfl))) ?_; refine KR ?_; refine Dt ?_; refine cD (fun g => ?_) fun g => ?_
 refine GL ?_; refine Np fun w1 hs1 => ?_
 (have hsm : VC l = false := by assumption
  unfold ZW; simp [QD, hsm, uV])
 ·refine gw ?_
  refine LR O (Ya (j := 0) O O O O O (by first | decide | omega) m0) ?_; refine LR O (jx O (kn 0 O) O (j0 (by rw [hl.1]; omega))) ?_; refine G4 ?_; refine Np fun w1 hs1 => ?_
  (have hsm : VC l = true := by assumption
   unfold ZW; simp [QD, hsm, uV]; done)
end Go.Proofs.YtckoepmdmhdepaaGreatDoor
namespace Go.Proofs
open Go.Shelf
def Tryz.lays156_ren : Go.Shelf.Ren := ⟨fun | 156 => 177 | 165 => 231 | 166 => 77 | 169 => 78 | 240 => 172 | 241 => 265 | 276 => 229 | 277 => 315 | n => n, fun | 31 => 37 | 9 => 9 | 3 => 3 | 4 => 4 | 0 => 0 | 20 => 20 | 72 => 154 | 76 => 157 | 70 => 152 | 37 => 76 | 75 => 156 | 127 => 251 | 164 => 321 | 5 => 5 | 80 => 159 | n => n, fun | n => n⟩
theorem Tryz.lays156 : Go.Proofs.Lays.n156 prog Tryz.lays156_ren := {
 mixed := by kernel_rfl
 f156 := Tryz.func177.trans (congrArg some (by kernel_rfl))
 f165 := Tryz.func231.trans (congrArg some (by kernel_rfl))
 f166 := Tryz.func77.trans (congrArg some (by kernel_rfl))
 f169 := Tryz.func78.trans (congrArg some (by kernel_rfl))
 f240 := Tryz.func172.trans (congrArg some (by kernel_rfl))
 f241 := Tryz.func265.trans (congrArg some (by kernel_rfl))
 f276 := Tryz.func229.trans (congrArg some (by kernel_rfl))
 f277 := Tryz.func315.trans (congrArg some (by kernel_rfl))
 t0 := Tryz.underlying0
 a0 := Tryz.isAgg0
 z0 := Tryz.sizeOf0
 v0 := Tryz.zeroValue0
 t3 := Tryz.underlying3
 a3 := Tryz.isAgg3
 z3 := Tryz.sizeOf3
 v3 := Tryz.zeroValue3
 t4 := Tryz.underlying4
 a4 := Tryz.isAgg4
 z4 := Tryz.sizeOf4
 v4 := Tryz.zeroValue4
 t9 := Tryz.underlying9
 a9 := Tryz.isAgg9
 z9 := Tryz.sizeOf9
 v9 := Tryz.zeroValue9
 t20 := Tryz.underlying20
 a20 := Tryz.isAgg20
 z20 := Tryz.sizeOf20
 v20 := Tryz.zeroValue20
 t31 := Tryz.underlying37
 a31 := Tryz.isAgg37
 z31 := Tryz.sizeOf37
 v31 := Tryz.zeroValue37
 t37 := Tryz.underlying76
 a37 := Tryz.isAgg76
 z37 := Tryz.sizeOf76
 v37 := Tryz.zeroValue76
 t70 := Tryz.underlying152
 a70 := Tryz.isAgg152
 z70 := Tryz.sizeOf152
 v70 := Tryz.zeroValue152
 t72 := Tryz.underlying154
 a72 := Tryz.isAgg154
 z72 := Tryz.sizeOf154
 v72 := Tryz.zeroValue154
 t75 := Tryz.underlying156
 a75 := Tryz.isAgg156
 z75 := Tryz.sizeOf156
 v75 := Tryz.zeroValue156
 t76 := Tryz.underlying157
 a76 := Tryz.isAgg157
 z76 := Tryz.sizeOf157
 v76 := Tryz.zeroValue157
 t127 := Tryz.underlying251
 a127 := Tryz.isAgg251
 z127 := Tryz.sizeOf251
 v127 := Tryz.zeroValue251
 t164 := Tryz.underlying321
 a164 := Tryz.isAgg321
 z164 := Tryz.sizeOf321
 v164 := Tryz.zeroValue321 }
theorem Tryz.Builder_Extra_156 : Builder.Extra prog Tryz.lays156_ren := {
 sizeBuilder := by kernel_rfl
 liesBuilder := by kernel_rfl
 t5 := Tryz.underlying5
 a5 := Tryz.isAgg5
 z5 := Tryz.sizeOf5
 v5 := Tryz.zeroValue5
 infoByte := by kernel_rfl
 cellsByte := by kernel_rfl
 sizeByte := by kernel_rfl
 neB5 := by decide }
open Go.RowKit in
theorem Tryz.strings_Join_none (a : Option Addr) (c : Nat) (sep : ByteArray) (w : World) :
  Calls prog 177 #[.slice a 0 c, .string sep] w fun e w' => e = .returned (.string ⟨#[]⟩) ∧ w' = w := Any.strings_Join_none Tryz.lays156 Tryz.Builder_Extra_156 a c sep w
open Go.RowKit in
theorem Tryz.strings_Join (bk o c : Nat) (xs : List ByteArray) (sep : ByteArray) (w : World) (hcells : ∀ (j : Nat) x, xs[j]? = some x → w.cell? ⟨bk, o + j, none⟩ = some (.string x)) (hbk : bk < w.heap.size) (hN : xs.length ≤ 140737488355328) (hcap : xs.length ≤ c) (hlen : (Lib.join (xs.map (·.data.toList)) sep.data.toList).length ≤ 140737488355328) :
  Calls prog 177 #[.slice (some ⟨bk, o, none⟩) xs.length c, .string sep] w fun e w' => e = .returned (.string ⟨(Lib.join (xs.map (·.data.toList)) sep.data.toList).toArray⟩) ∧ Below w.heap.size w w' := Any.strings_Join Tryz.lays156 Tryz.Builder_Extra_156 bk o c xs sep w hcells hbk hN hcap hlen
def Tryz.lays161_ren : Go.Shelf.Ren := ⟨fun | 161 => 235 | 231 => 267 | 227 => 268 | 233 => 269 | 235 => 270 | 228 => 316 | 197 => 317 | 151 => 318 | 260 => 335 | 152 => 336 | 137 => 345 | 119 => 346 | 224 => 347 | 225 => 348 | 217 => 351 | 266 => 352 | n => n, fun | 9 => 9 | 4 => 4 | 3 => 3 | 5 => 5 | 117 => 363 | 116 => 362 | 0 => 0 | 124 => 366 | 105 => 406 | 21 => 21 | 119 => 453 | 46 => 228 | 139 => 456 | 138 => 455 | n => n, fun | 3 => 2 | 4 => 3 | n => n⟩
theorem Tryz.lays161 : Go.Proofs.Lays.n161 prog Tryz.lays161_ren := {
 mixed := by kernel_rfl
 f119 := Tryz.func346.trans (congrArg some (by kernel_rfl))
 f137 := Tryz.func345.trans (congrArg some (by kernel_rfl))
 f151 := Tryz.func318.trans (congrArg some (by kernel_rfl))
 f152 := Tryz.func336.trans (congrArg some (by kernel_rfl))
 f161 := Tryz.func235.trans (congrArg some (by kernel_rfl))
 f197 := Tryz.func317.trans (congrArg some (by kernel_rfl))
 f217 := Tryz.func351.trans (congrArg some (by kernel_rfl))
 f224 := Tryz.func347.trans (congrArg some (by kernel_rfl))
 f225 := Tryz.func348.trans (congrArg some (by kernel_rfl))
 f227 := Tryz.func268.trans (congrArg some (by kernel_rfl))
 f228 := Tryz.func316.trans (congrArg some (by kernel_rfl))
 f231 := Tryz.func267.trans (congrArg some (by kernel_rfl))
 f233 := Tryz.func269.trans (congrArg some (by kernel_rfl))
 f235 := Tryz.func270.trans (congrArg some (by kernel_rfl))
 f260 := Tryz.func335.trans (congrArg some (by kernel_rfl))
 f266 := Tryz.func352.trans (congrArg some (by kernel_rfl))
 t0 := Tryz.underlying0
 a0 := Tryz.isAgg0
 z0 := Tryz.sizeOf0
 v0 := Tryz.zeroValue0
 t3 := Tryz.underlying3
 a3 := Tryz.isAgg3
 z3 := Tryz.sizeOf3
 v3 := Tryz.zeroValue3
 t4 := Tryz.underlying4
 a4 := Tryz.isAgg4
 z4 := Tryz.sizeOf4
 v4 := Tryz.zeroValue4
 t5 := Tryz.underlying5
 a5 := Tryz.isAgg5
 z5 := Tryz.sizeOf5
 v5 := Tryz.zeroValue5
 t9 := Tryz.underlying9
 a9 := Tryz.isAgg9
 z9 := Tryz.sizeOf9
 v9 := Tryz.zeroValue9
 t21 := Tryz.underlying21
 a21 := Tryz.isAgg21
 z21 := Tryz.sizeOf21
 v21 := Tryz.zeroValue21
 t46 := Tryz.underlying228
 a46 := Tryz.isAgg228
 z46 := Tryz.sizeOf228
 v46 := Tryz.zeroValue228
 t105 := Tryz.underlying406
 a105 := Tryz.isAgg406
 z105 := Tryz.sizeOf406
 v105 := Tryz.zeroValue406
 t116 := Tryz.underlying362
 a116 := Tryz.isAgg362
 z116 := Tryz.sizeOf362
 t117 := Tryz.underlying363
 a117 := Tryz.isAgg363
 z117 := Tryz.sizeOf363
 v117 := Tryz.zeroValue363
 t119 := Tryz.underlying453
 a119 := Tryz.isAgg453
 z119 := Tryz.sizeOf453
 t124 := Tryz.underlying366
 a124 := Tryz.isAgg366
 z124 := Tryz.sizeOf366
 v124 := Tryz.zeroValue366
 t138 := Tryz.underlying455
 a138 := Tryz.isAgg455
 z138 := Tryz.sizeOf455
 v138 := Tryz.zeroValue455
 t139 := Tryz.underlying456
 a139 := Tryz.isAgg456
 z139 := Tryz.sizeOf456
 v139 := Tryz.zeroValue456
 g3 := by kernel_rfl
 g4 := by kernel_rfl }
open Go.RowKit in
theorem Tryz.strings_TrimLeft_one (s : ByteArray) (c : UInt8) (hc : c.toNat < 128) (w : World) :
  Calls prog 235 #[.string s, .string ⟨#[c]⟩] w fun e w' => e = .returned (.string ⟨(Lib.trimLeftB s.data.toList c).toArray⟩) ∧ w' = w := Any.strings_TrimLeft_one Tryz.lays161 s c hc w
def Tryz.lays99_ren : Go.Shelf.Ren := ⟨fun | 99 => 242 | 206 => 272 | n => n, fun | 9 => 9 | 4 => 4 | 3 => 3 | n => n, fun | n => n⟩
theorem Tryz.lays99 : Go.Proofs.Lays.n99 prog Tryz.lays99_ren := {
 mixed := by kernel_rfl
 f99 := Tryz.func242.trans (congrArg some (by kernel_rfl))
 f206 := Tryz.func272.trans (congrArg some (by kernel_rfl))
 t3 := Tryz.underlying3
 a3 := Tryz.isAgg3
 z3 := Tryz.sizeOf3
 v3 := Tryz.zeroValue3
 t4 := Tryz.underlying4
 a4 := Tryz.isAgg4
 z4 := Tryz.sizeOf4
 v4 := Tryz.zeroValue4
 t9 := Tryz.underlying9
 a9 := Tryz.isAgg9
 z9 := Tryz.sizeOf9
 v9 := Tryz.zeroValue9 }
open Go.RowKit Go.Lib in
theorem Tryz.strings_HasPrefix (s p : ByteArray) (w : World) :
  Calls prog 242 #[.string s, .string p] w fun e w' => e = .returned (.bool (Lib.hasPrefix s.data.toList p.data.toList)) ∧ w' = w := Any.strings_HasPrefix Tryz.lays99 s p w
def Tryz.lays105_ren : Go.Shelf.Ren := ⟨fun | 105 => 244 | 212 => 273 | 99 => 242 | 165 => 231 | 166 => 77 | 170 => 274 | 169 => 78 | 263 => 319 | 264 => 320 | 206 => 272 | 240 => 172 | 241 => 265 | 276 => 229 | 277 => 315 | n => n, fun | 9 => 9 | 3 => 3 | 4 => 4 | 20 => 20 | 0 => 0 | 46 => 228 | 109 => 368 | 5 => 5 | 72 => 154 | 76 => 157 | 51 => 409 | 146 => 410 | 53 => 22 | 148 => 412 | 70 => 152 | 37 => 76 | 75 => 156 | 127 => 251 | 164 => 321 | 80 => 159 | n => n, fun | n => n⟩
theorem Tryz.lays105 : Go.Proofs.Lays.n105 prog Tryz.lays105_ren := {
 mixed := by kernel_rfl
 f99 := Tryz.func242.trans (congrArg some (by kernel_rfl))
 f105 := Tryz.func244.trans (congrArg some (by kernel_rfl))
 f165 := Tryz.func231.trans (congrArg some (by kernel_rfl))
 f166 := Tryz.func77.trans (congrArg some (by kernel_rfl))
 f169 := Tryz.func78.trans (congrArg some (by kernel_rfl))
 f170 := Tryz.func274.trans (congrArg some (by kernel_rfl))
 f206 := Tryz.func272.trans (congrArg some (by kernel_rfl))
 f212 := Tryz.func273.trans (congrArg some (by kernel_rfl))
 f240 := Tryz.func172.trans (congrArg some (by kernel_rfl))
 f241 := Tryz.func265.trans (congrArg some (by kernel_rfl))
 f263 := Tryz.func319.trans (congrArg some (by kernel_rfl))
 f264 := Tryz.func320.trans (congrArg some (by kernel_rfl))
 f276 := Tryz.func229.trans (congrArg some (by kernel_rfl))
 f277 := Tryz.func315.trans (congrArg some (by kernel_rfl))
 t0 := Tryz.underlying0
 a0 := Tryz.isAgg0
 z0 := Tryz.sizeOf0
 v0 := Tryz.zeroValue0
 t3 := Tryz.underlying3
 a3 := Tryz.isAgg3
 z3 := Tryz.sizeOf3
 v3 := Tryz.zeroValue3
 t4 := Tryz.underlying4
 a4 := Tryz.isAgg4
 z4 := Tryz.sizeOf4
 v4 := Tryz.zeroValue4
 t5 := Tryz.underlying5
 a5 := Tryz.isAgg5
 z5 := Tryz.sizeOf5
 v5 := Tryz.zeroValue5
 t9 := Tryz.underlying9
 a9 := Tryz.isAgg9
 z9 := Tryz.sizeOf9
 v9 := Tryz.zeroValue9
 t20 := Tryz.underlying20
 a20 := Tryz.isAgg20
 z20 := Tryz.sizeOf20
 v20 := Tryz.zeroValue20
 t37 := Tryz.underlying76
 a37 := Tryz.isAgg76
 z37 := Tryz.sizeOf76
 v37 := Tryz.zeroValue76
 t46 := Tryz.underlying228
 a46 := Tryz.isAgg228
 z46 := Tryz.sizeOf228
 v46 := Tryz.zeroValue228
 t51 := Tryz.underlying409
 a51 := Tryz.isAgg409
 z51 := Tryz.sizeOf409
 v51 := Tryz.zeroValue409
 t53 := Tryz.underlying22
 a53 := Tryz.isAgg22
 z53 := Tryz.sizeOf22
 v53 := Tryz.zeroValue22
 t70 := Tryz.underlying152
 a70 := Tryz.isAgg152
 z70 := Tryz.sizeOf152
 v70 := Tryz.zeroValue152
 t72 := Tryz.underlying154
 a72 := Tryz.isAgg154
 z72 := Tryz.sizeOf154
 v72 := Tryz.zeroValue154
 t75 := Tryz.underlying156
 a75 := Tryz.isAgg156
 z75 := Tryz.sizeOf156
 v75 := Tryz.zeroValue156
 t76 := Tryz.underlying157
 a76 := Tryz.isAgg157
 z76 := Tryz.sizeOf157
 v76 := Tryz.zeroValue157
 t109 := Tryz.underlying368
 a109 := Tryz.isAgg368
 z109 := Tryz.sizeOf368
 v109 := Tryz.zeroValue368
 t127 := Tryz.underlying251
 a127 := Tryz.isAgg251
 z127 := Tryz.sizeOf251
 v127 := Tryz.zeroValue251
 t146 := Tryz.underlying410
 a146 := Tryz.isAgg410
 z146 := Tryz.sizeOf410
 v146 := Tryz.zeroValue410
 t148 := Tryz.underlying412
 a148 := Tryz.isAgg412
 z148 := Tryz.sizeOf412
 v148 := Tryz.zeroValue412
 t164 := Tryz.underlying321
 a164 := Tryz.isAgg321
 z164 := Tryz.sizeOf321
 v164 := Tryz.zeroValue321 }
theorem Tryz.Builder_Extra_105 : Builder.Extra prog Tryz.lays105_ren := {
 sizeBuilder := by kernel_rfl
 liesBuilder := by kernel_rfl
 t5 := Tryz.underlying5
 a5 := Tryz.isAgg5
 z5 := Tryz.sizeOf5
 v5 := Tryz.zeroValue5
 infoByte := by kernel_rfl
 cellsByte := by kernel_rfl
 sizeByte := by kernel_rfl
 neB5 := by decide }
open Go.RowKit Go.Lib in
theorem Tryz.strings_Repeat (s : ByteArray) (c : Nat) (w : World) (hc : c ≤ 9223372036854775807) (hlen : s.size * c ≤ 140737488355328) :
  Calls prog 244 #[.string s, .int .i64 c] w fun e w' => e = .returned (.string ⟨(Lib.repeatL s.data.toList c).toArray⟩) ∧ Below w.heap.size w w' := Any.strings_Repeat Tryz.lays105 Tryz.Builder_Extra_105 s c w hc hlen
def Tryz.lays193_ren : Go.Shelf.Ren := ⟨fun | 193 => 63 | n => n, fun | 31 => 37 | 9 => 9 | 4 => 4 | 3 => 3 | 0 => 0 | n => n, fun | n => n⟩
theorem Tryz.lays193 : Go.Proofs.Lays.n193 prog Tryz.lays193_ren := {
 mixed := by kernel_rfl
 f193 := Tryz.func63.trans (congrArg some (by kernel_rfl))
 t0 := Tryz.underlying0
 a0 := Tryz.isAgg0
 z0 := Tryz.sizeOf0
 v0 := Tryz.zeroValue0
 t3 := Tryz.underlying3
 a3 := Tryz.isAgg3
 z3 := Tryz.sizeOf3
 v3 := Tryz.zeroValue3
 t4 := Tryz.underlying4
 a4 := Tryz.isAgg4
 z4 := Tryz.sizeOf4
 v4 := Tryz.zeroValue4
 t9 := Tryz.underlying9
 a9 := Tryz.isAgg9
 z9 := Tryz.sizeOf9
 v9 := Tryz.zeroValue9
 t31 := Tryz.underlying37
 a31 := Tryz.isAgg37
 z31 := Tryz.sizeOf37
 v31 := Tryz.zeroValue37 }
open Go.RowKit Go.Lib in
theorem Tryz.slices_Equal_string (b1 o1 n c b2 o2 m d : Nat) (xs ys : List ByteArray) (w : World) (hx : n ≤ xs.length) (hy : m ≤ ys.length) (hbig : n ≤ 9223372036854775807) (hbig2 : m ≤ 9223372036854775807) (hc1 : ∀ j, j < xs.length → w.cell? ⟨b1, o1 + j, none⟩ = some (.string (xs.getD j ByteArray.empty))) (hc2 : ∀ j, j < ys.length → w.cell? ⟨b2, o2 + j, none⟩ = some (.string (ys.getD j ByteArray.empty))) :
  Calls prog 63 #[.slice (some ⟨b1, o1, none⟩) n c, .slice (some ⟨b2, o2, none⟩) m d] w fun e w' => e = .returned (.bool (decide (xs.take n = ys.take m))) ∧ ∃ q, w' = w.drewN q := Any.slices_Equal_string Tryz.lays193 b1 o1 n c b2 o2 m d xs ys w hx hy hbig hbig2 hc1 hc2
open Go.RowKit Go.Lib in
theorem Tryz.slices_Equal_string_empty (a1 a2 : Option Addr) (c m d : Nat) (w : World) (hbig2 : m ≤ 9223372036854775807) :
  Calls prog 63 #[.slice a1 0 c, .slice a2 m d] w fun e w' => e = .returned (.bool (decide (m = 0))) ∧ w' = w := Any.slices_Equal_string_empty Tryz.lays193 a1 a2 c m d w hbig2
open Go.RowKit Go.Lib in
theorem Tryz.slices_Equal_string_lens (a1 a2 : Option Addr) (n c m d : Nat) (w : World) (hnm : n ≠ m) :
  Calls prog 63 #[.slice a1 n c, .slice a2 m d] w fun e w' => e = .returned (.bool false) ∧ w' = w := Any.slices_Equal_string_lens Tryz.lays193 a1 a2 n c m d w hnm
end Go.Proofs
namespace Go.Proofs.YtckoepmdmhdepaaGreatDoor
set_option linter.all false
open Go.SL Go.RowKit Go.Shelf
variable {s : BS} {v : Bool} {g : FuncId} {e hi : Int} {cs vs : List Value} {α : Type} {a cap i q r r1 r2 sz : Nat} {row : QZ} {c : UInt8} {w : World}
theorem Jda (s : List UInt8) : Pure prog 235 [.string (bs s), .string ⟨#[0]⟩].toArray (.string (bs (Lib.trimLeftB s 0))) := ⟨fun w => by
 have h := Tryz.strings_TrimLeft_one (bs s) 0 m7 w
 refine h.mono fun e w' ⟨h1, h2⟩ => ⟨?_, h2 ▸ Keep.refl _ _⟩
 rw [h1]; simp [bs]⟩
theorem Jaf (s : List UInt8) : Pure prog 242 [.string (bs s), .string ⟨#[0]⟩].toArray (.bool (Lib.hasPrefix s [0])) := ⟨fun w => by
 have h := Tryz.strings_HasPrefix (bs s) ⟨#[0]⟩ w
 refine h.mono fun e w' ⟨h1, h2⟩ => ⟨?_, h2 ▸ Keep.refl _ _⟩
 rw [h1]; simp [bs]⟩
theorem Jku {n : Nat} (hn : n ≤ 32) : Pure prog 244 [.string ⟨#[0]⟩, .int .i64 (n : Int)].toArray (.string (bs (Lib.repeatL [0] n))) := ⟨fun w => by
 have hs : (ByteArray.mk #[0]).size = 1 := rfl
 have h := Tryz.strings_Repeat ⟨#[0]⟩ n w m3 (by rw [hs]; omega)
 refine h.mono fun e w' ⟨h1, h2⟩ => ⟨?_, Keep.of_below h2⟩
 rw [h1]; rfl⟩
def VQ (l : List Nat) : List UInt8 := Lib.trimLeftB (QB l 32) 0
theorem Jag {l : List Nat} (hl : WOk l) : Pure prog 190 [wV l].toArray (.string (bs (VQ l))) := by
 refine JA Tryz.func190 O O fun w => MZ ?_; refine JR (cs := (l.map uV).toArray) O O O O fun r1 => kB ?_; refine LR O (Ji (xs := l.map uV) (n := 4) O (kn 0 O) O O Mx) (JC O O O (enters_of Tryz.func224 m4 O) (Jae hl) (JC O O O (enters_of Tryz.func235 m4 O) (Jda (QB l 32)) ?_)); exact GP
theorem wI {n : Nat} (h : n < 256) : UInt8.ofNat n = 0 ↔ n = 0 := by
 constructor
 ·intro e
  have := congrArg UInt8.toNat e
  rw [UInt8.toNat_ofNat', Nat.mod_eq_of_lt h] at this; exact this
 ·rintro rfl; rfl
theorem Jdb (l : List Nat) : ∀ n k, (Lib.trimLeftB (QB l n) 0).length ≤ k ↔ ∀ t, k ≤ t → t < n → dg l t = 0
 | 0, k => by simp [QB, Lib.trimLeftB]
 | n + 1, k => by
  have ih := Jdb l n k
  by_cases hz : dg l n = 0
  ·have e : Lib.trimLeftB (QB l (n + 1)) 0 = Lib.trimLeftB (QB l n) 0 := by simp [QB, Lib.trimLeftB, hz]
   rw [e, ih]
   constructor
   ·intro h t h1 h2
    by_cases ht : t = n
    ·rw [ht]; exact hz
    ·exact h t h1 m3
   ·intro h t h1 h2; exact h t h1 m3
  ·have hne : ¬ UInt8.ofNat (dg l n) = 0 := fun e => hz ((wI (Jmm l n)).1 e)
   have e : Lib.trimLeftB (QB l (n + 1)) 0 = QB l (n + 1) := by simp [QB, Lib.trimLeftB, hne]
   rw [e, Q7]
   constructor
   ·intro h t h1 h2; omega
   ·intro h
    rcases Nat.lt_or_ge n k with hk | hk
    ·omega
    ·exact absurd (h n hk m3) hz
def Q3 (s : List UInt8) : List Nat × Int := if 32 < s.length then (zW, 5) else if Lib.hasPrefix s [0] then (zW, 8) else (qp (List.replicate (32 - s.length) 0 ++ s), 0)
theorem wJ : ∀ n, Lib.repeatL [0] n = List.replicate n 0
 | 0 => rfl
 | n + 1 => by rw [Lib.repeatL, wJ n]; rfl
theorem Jnz {s : List UInt8} (h : s.length ≤ 32) : ZI (List.replicate (32 - s.length) 0 ++ s) = (qp (List.replicate (32 - s.length) 0 ++ s), 0) := by
 unfold ZI
 rw [if_pos mL]
theorem jF (s : List UInt8) : Pure prog 203 [.string (bs s)].toArray (Jkc (Q3 s)) := by
 refine JA Tryz.func203 O O fun w => kT fun r1 => ?_; refine J5 8 O (Eh ?_); refine cD (fun g => ?_) fun g => ?_
 refine NG ?_; refine Nl ?_; refine JD 6 O (gU fun w1 hs1 => ?_); refine gS ?_; rw [show Q3 s = (zW, 5) from by unfold Q3; rw [if_pos m3]]; rfl
 ·refine gz ?_; refine JC O O O (enters_of Tryz.func242 m4 O) (Jaf s) (NQ ?_); refine cD (fun g => ?_) fun g => ?_
  refine NG ?_; refine Nl ?_; refine JD 6 O (gU fun w1 hs1 => ?_); refine gS ?_; rw [show Q3 s = (zW, 8) from by unfold Q3; rw [if_neg m3, if_pos ma]]; rfl
  ·refine Hq ?_; refine Nz ?_; refine GV ?_; refine J4 (show _ = Value.int .i64 ((32 - s.length : Nat) : Int) from congrArg (Value.int .i64) my) (JC rfl rfl rfl (enters_of Tryz.func244 m4 rfl) (Jku (n := 32 - s.length) m3) (J4 (congrArg (fun z => Value.string (bs z)) (wJ _)) (gl ?_))); refine LR O (Jcb O O mL) (JC O O O Jnv (Xp (List.replicate (32 - s.length) 0 ++ s)) (J4 (congrArg Jkc (Jnz m3)) (kg ?_))); refine Je (k := 0) (n := 4) (ys := (qp (List.replicate (32 - s.length) 0 ++ s)).map uV) O O O O O O O (wi _) O (gA ?_); refine gU fun w1 hs1 => ?_; refine gS ?_; rw [show Q3 s = (qp (List.replicate (32 - s.length) 0 ++ s), 0) from by unfold Q3; rw [if_neg m3, if_neg (by simp [*])]]; rfl
theorem Zi {a b : List Nat} (ha : WOk a) (hb : WOk b) : (XO a b).2 = 0 ↔ wN a + wN b < big := by
 have h := zl ha hb
 split at h
 ·simp [h, *]
 ·rw [h]; simp [*]
theorem Yh {a b : List Nat} (ha : WOk a) (hb : WOk b) (h0 : (XO a b).2 = 0) : wN (XO a b).1 = wN a + wN b := by
 have h := zl ha hb
 rw [if_pos ((Zi ha hb).1 h0)] at h; exact h.2
def okk (a b c : List Nat) : Bool := decide ((XO a b).2 = 0) && decide ((XO (XO a b).1 c).2 = 0)
def Jta (a b c : List Nat) : Bool := decide ((XO b c).2 = 0) && decide ((XO a (XO b c).1).2 = 0)
theorem Jtb {a b c : List Nat} (ha : WOk a) (hb : WOk b) (hc : WOk c) : okk a b c = true ↔ wN a + wN b + wN c < big := by
 unfold okk
 simp only [Bool.and_eq_true, decide_eq_true_eq]
 by_cases h : (XO a b).2 = 0
 ·rw [Zi (Zv a b) hc, Yh ha hb h]; simp [h]
 ·have := (not_congr (Zi ha hb)).1 h
  constructor
  ·rintro ⟨h1, _⟩; exact absurd h1 h
  ·intro h1; omega
theorem Jn0 {a b c : List Nat} (ha : WOk a) (hb : WOk b) (hc : WOk c) : Jta a b c = true ↔ wN a + wN b + wN c < big := by
 unfold Jta
 simp only [Bool.and_eq_true, decide_eq_true_eq]
 by_cases h : (XO b c).2 = 0
 ·rw [Zi ha (Zv b c), Yh hb hc h]; simp [h]; omega
 ·have := (not_congr (Zi hb hc)).1 h
  constructor
  ·rintro ⟨h1, _⟩; exact absurd h1 h
  ·intro h1; omega
theorem Jx4 {a b c : List Nat} (ha : WOk a) (hb : WOk b) (hc : WOk c) : okk a b c = Jta a b c := by
 rw [Bool.eq_iff_iff, Jtb ha hb hc, Jn0 ha hb hc]
theorem many {a b c : List Nat} (ha : WOk a) (hb : WOk b) (hc : WOk c) (h : okk a b c = true) : (XO (XO a b).1 c).1 = (XO a (XO b c).1).1 := by
 have h' := h
 rw [Jx4 ha hb hc] at h'; simp only [okk, Jta, Bool.and_eq_true, decide_eq_true_eq] at h h'; refine Jxk (Zv _ _) (Zv _ _) ?_; rw [Yh (Zv _ _) hc h.2, Yh ha hb h.1, Yh ha (Zv _ _) h'.2, Yh hb hc h'.1]; omega
theorem Jtc {l : List Nat} (hl : WOk l) : qp (QB l 32) = l := by
 have : qp (QB l 32) = vy (dg l) 32 := zd fun i hi => by
  have h := xF l (n := 32) (m := 31 - i) m3
  have e : 32 - 1 - (31 - i) = i := by omega
  rw [e] at h; rw [List.getD_eq_getElem?_getD, h, Option.getD_some, UInt8.toNat_ofNat', Nat.mod_eq_of_lt (Jmm l i)]
 rw [this, Jwd hl]
theorem Jkv (t : List UInt8) : Lib.hasPrefix (Lib.trimLeftB t 0) [0] = false := by
 induction t with
 | nil => rfl
 | cons x t ih =>
  by_cases hx : x = 0
  ·subst hx; simpa [Lib.trimLeftB] using ih
  ·simp [Lib.trimLeftB, hx, Lib.hasPrefix, List.isPrefixOf]; exact fun e => hx e.symm
theorem qR (t : List UInt8) : ∃ k, t = List.replicate k 0 ++ Lib.trimLeftB t 0 := by
 induction t with
 | nil => exact ⟨0, rfl⟩
 | cons x t ih =>
  by_cases hx : x = 0
  ·subst hx
   obtain ⟨k, hk⟩ := ih
   refine ⟨k + 1, ?_⟩; simp only [Lib.trimLeftB, if_true, List.replicate_succ, List.cons_append] at hk ⊢
   simpa using hk
  ·exact ⟨0, by simp [Lib.trimLeftB, hx]⟩
theorem wK (l : List Nat) : (VQ l).length ≤ 32 := by
 obtain ⟨k, hk⟩ := qR (QB l 32)
 have h := congrArg List.length hk
 rw [Q7, C', List.length_replicate] at h
 unfold VQ; omega
theorem wL (l : List Nat) : List.replicate (32 - (VQ l).length) 0 ++ VQ l = QB l 32 := by
 obtain ⟨k, hk⟩ := qR (QB l 32)
 have h := congrArg List.length hk
 rw [Q7, C', List.length_replicate] at h
 have e : 32 - (VQ l).length = k := by unfold VQ; omega
 rw [e]; exact hk.symm
theorem Jah {l : List Nat} (hl : WOk l) : Q3 (VQ l) = (l, 0) := by
 unfold Q3
 rw [if_neg (by have := wK l; omega), if_neg (by rw [show Lib.hasPrefix (VQ l) [0] = false from Jkv _]; simp), wL, Jtc hl]
theorem Xd (s : List UInt8) : WOk (Q3 s).1 := by
 unfold Q3
 split
 ·exact Jhr
 ·split
  ·exact Jhr
  ·exact xI _
theorem Jn1 (n : Nat) : VC [n, 0, 0, 0] = true := by simp [VC]
theorem J0m {n : Nat} (h : n < 18446744073709551616) : WOk [n, 0, 0, 0] := ⟨rfl, fun x hx => by simp at hx; rcases hx with rfl | rfl <;> simp_all⟩
def WL (n : Nat) : List UInt8 := VQ [n, 0, 0, 0]
theorem Jn2 {n t : Nat} (h : t < 8) : dg [n, 0, 0, 0] t = n / 256 ^ t % 256 := by
 have e : t / 8 = 0 := by omega
 have e2 : t % 8 = t := by omega
 simp only [dg, e, e2, List.getD_cons_zero]; rw [show (256 : Nat) = 2 ^ 8 from rfl, ← Nat.pow_mul, Nat.mul_comm]
theorem Jx5 {n t : Nat} (h : 8 ≤ t) (h2 : t < 32) : dg [n, 0, 0, 0] t = 0 := by
 have hj : t / 8 = 1 ∨ t / 8 = 2 ∨ t / 8 = 3 := by omega
 rcases hj with e | e | e <;> simp [dg, e]
theorem YB {n k : Nat} (hn : n < 18446744073709551616) (hk : k ≤ 8) : (WL n).length ≤ k ↔ n < 256 ^ k := by
 unfold WL VQ
 rw [Jdb]
 constructor
 ·intro h
  have h' : ∀ t, k ≤ t → t < 8 → n / 256 ^ t % 256 = 0 := fun t h1 h2 => by rw [← Jn2 h2]; exact h t h1 m3
  have key : ∀ j, k ≤ j → j ≤ 8 → n < 256 ^ j → n < 256 ^ k := by
   intro j
   induction j with
   | zero => intro h1 _ h3; rw [show k = 0 from by omega]; exact h3
   | succ j ih =>
    intro h1 h2 h3
    by_cases e : k = j + 1
    ·rw [e]; exact h3
    ·refine ih m3 m3 ?_
     have h4 := h' j m3 m3
     have h5 : n / 256 ^ j < 256 := by
      rw [Nat.div_lt_iff_lt_mul (Nat.pow_pos m7)]; rw [Nat.pow_succ, Nat.mul_comm] at h3; exact h3
     rw [Nat.mod_eq_of_lt h5] at h4
     rcases Nat.div_eq_zero_iff.1 h4 with h6 | h6
     ·have := Nat.pow_pos (n := j) (show 0 < 256 by decide); omega
     ·exact h6
  exact key 8 hk (Lc') hn
 ·intro h t h1 h2
  by_cases ht : t < 8
  ·rw [Jn2 ht, Nat.div_eq_of_lt (Nat.lt_of_lt_of_le h (Nat.pow_le_pow_right m7 h1))]
  ·exact Jx5 m3 h2
theorem Jdc {n : Nat} (hn : n < 18446744073709551616) : Pure prog 111 [uV n].toArray (.string (bs (WL n))) := by
 refine JA Tryz.func111 O O fun w => G7 ?_; refine JC O O O (enters_of Tryz.func200 m4 O) (zN n) (JC O O O (enters_of Tryz.func190 m4 O) (Jag (J0m hn)) ?_); exact GP
def wM (s : List UInt8) : Nat × Int := if s.length < 1 ∨ s.length > 8 then (0, 2) else (leV s, 0)
def Jx6 (p : Nat × Int) : Value := .tuple #[uV p.1, .int .i64 p.2]
theorem Jn3 {s : List UInt8} (h : i < s.length) : leV (s.take (i + 1)) = leV (s.take i) + (s.getD i 0).toNat * 2 ^ (8 * i) := by
 rw [List.take_succ, List.getElem?_eq_getElem h]; simp only [Option.toList_some]; rw [Jcg, List.length_take, Nat.min_eq_left m3, show (256 : Nat) = 2 ^ 8 from rfl, ← Nat.pow_mul, List.getD_eq_getElem?_getD, List.getElem?_eq_getElem h]; rfl
theorem qS {s : List UInt8} (h : i ≤ s.length) : leV (s.take i) < 2 ^ (8 * i) := by
 have := Jms (s.take i)
 rw [List.length_take, Nat.min_eq_left h, show (256 : Nat) = 2 ^ 8 from rfl, ← Nat.pow_mul] at this; exact this
theorem J0n (h : i ≤ 8) : 2 ^ (8 * i) ≤ 18446744073709551616 := Nat.pow_le_pow_right (n := 2) m7 (by omega : 8 * i ≤ 64)
theorem Jfv (s : List UInt8) : Pure prog 263 [.string (bs s)].toArray (Jx6 (wM s)) := by
  refine JA Tryz.func263 O O fun w => Hr ?_; refine Hs ?_; refine gl ?_
  refine J8 8 O (fun gb => ?_) (fun gb => ?_) <;> (try simp only [ZZ] at gb) <;> first | (refine JI O ?_) | (refine LK O ?_)
  all_goals refine ko ?_
  all_goals refine MQ ?_
  all_goals (
   refine kN ?_; refine Jl O (fun g => ?_) (fun g => ?_)
   try simp only [ZZ] at g
   refine GL ?_; refine Np fun w1 hs1 => ?_
   rw [show wM s = (0, 2) from by unfold wM; rw [if_pos (by first | omega | (left; rw [‹s = []›]; decide))]]; rfl
   · try exact Bool.noConfusion g
     all_goals try simp only [ZZ] at g
     all_goals (
      refine D5 ?_
      have hl : 1 ≤ s.length ∧ s.length ≤ 8 := by
        have : s ≠ [] := by assumption
        have := List.length_pos_iff.2 this
        omega
      have hur : wM s = (leV s, 0) := by unfold wM; rw [if_neg m3]
      refine Jv 8 O (Eh ?_); refine JQ (σ := Nat) (fun i => i ≤ s.length) (fun i => [(0, .string (bs s)), (4, uV (leV (s.take i))), (14, .int .i64 (s.length : Nat)), (15, .int .i64 (i : Int))]) (fun i => []) (fun _ _ _ => True) (fun i => s.length - i) 0 (Z') (lK O) (S') (fun _ _ h => h) ?_; intro i hi; refine gv ?_; refine cD (fun g => ?_) fun g => ?_
      refine Jv 14 O (LR O (JW (j := i) O O O O m3 O) (GV ?_)); refine J4 (show _ = uV (s.getD i 0).toNat from congrArg (Value.int .u64) (wrap_u64 m3 Mc)) (gu ?_); refine J4 (show _ = Value.int .i64 ((8 * i : Nat) : Int) from congrArg (Value.int .i64) my) (LR rfl (Jca (n := 8 * i) rfl rfl rfl M6 (Jhl (Jhk (V6 _) m3))) (LR rfl (wa (op := .or) (b := ((leV (s.take (i + 1)) : Nat) : Int)) rfl rfl rfl (Nat.lt_of_lt_of_le (qS m3) (J0n m3)) (Jhk (V6 _) m3) (congrArg (fun z : Nat => (z : Int)) (by rw [Jn3 m3]; exact xG (qS m3)))) (gp ?_))); refine JT m3 m3 ?_; exact kX
      refine gv ?_
      have hik : s.length = i := by omega
      have htk : s.take i = s := by rw [← hik, List.take_length]
      refine KF 7 O (Np fun w1 hs1 => ?_); rw [htk, hur]; rfl
      skip)
   skip)
theorem Jh7 {e v : Nat} (h : v < 128) : Xz e v = [UInt8.ofNat v] := by cases e <;> simp [Xz, h]
theorem Jh8 {e v : Nat} (h : ¬ v < 128) : Xz (e + 1) v = UInt8.ofNat (v % 128 + 128) :: Xz e (v / 128) := by simp [Xz, h]
theorem Jn4 {e v : Nat} (he : e ≤ 9) (hv : v < 2 * 128 ^ e) : v < 18446744073709551616 := by
 have h1 : 128 ^ e ≤ 128 ^ 9 := Nat.pow_le_pow_right m7 he
 exact F5
theorem Jn5 {e v : Nat} (hv : v < 2 * 128 ^ (e + 1)) : v / 128 < 2 * 128 ^ e := by rw [Nat.pow_succ] at hv; omega
theorem Jtd {e v : Nat} (hv : v < 2 * 128 ^ e) (h : ¬ v < 128) : ∃ k, e = k + 1 := by
 cases e with
 | zero => simp at hv; omega
 | succ e => exact ⟨e, rfl⟩
theorem J0o {n : Nat} (hn : n < 18446744073709551616) : n < 2 * 128 ^ 9 := by
 exact F5
theorem zO {n : Nat} (hn : n < 18446744073709551616) : Pure prog 82 [uV n].toArray (.string (bs (qq n))) := by
 refine JA Tryz.func82 O O fun w => Kl (Ku 12 O (JQ (σ := Nat × Nat × List UInt8 × QZ) (fun q => q.1 + q.2.2.1.length = 9 ∧ q.2.1 < 2 * 128 ^ q.1 ∧ q.2.2.1 ++ Xz q.1 q.2.1 = qq n ∧ rowOk 1 q.2.2.1.length (q.2.2.1.map bV) q.2.2.2) (fun q => [(0, uV q.2.1), (3, JV q.2.2.1.length q.2.2.2)]) (fun q => J9 5 (q.2.2.1.map bV) q.2.2.2) (fun _ _ _ => True) (fun q => q.1) (9, n, [], none) ⟨rfl, J0o hn, rfl, ⟨rfl, rfl⟩⟩ (lK O) (S') (fun _ _ h => h) ?_)); rintro ⟨e, v, l, row⟩ ⟨hel, hv, hvar, hrow⟩; simp only at hel hv hvar hrow ⊢
 have hv64 : v < 18446744073709551616 := Jn4 m3 hv
 refine Ku 7 O (cD (fun g => ?_) fun g => ?_)
 refine Jv 8 O (J4 (show _ = Value.int .u8 ((v % 256 : Nat) : Int) from by rw [show Value.int .u8 ((v % 256 : Nat) : Int) = bV (UInt8.ofNat (v % 256)) from Jhe (Nat.mod_lt _ m7)]; exact j3 v) (LR O (xK (op := .or) (b := ((v % 128 + 128 : Nat) : Int)) O O O (Nat.mod_lt _ m7) m7 (congrArg (fun z : Nat => (z : Int)) J0c)) (J4 (show _ = bV (UInt8.ofNat (v % 128 + 128)) from Jhe m3) (JO (vs := [_]) (zs := [_]) (r := [_]) rfl rfl rfl rfl rfl rfl rfl rfl rfl me rfl fun r1 => Kw (L0 := [_]) (xs := l.map bV) (row := row) (n := l.length) (sz := 1) (b := 1) (news := [_]) (B' (l₁ := [_])) rfl rfl rfl rfl (kn 0 rfl) rfl rfl rfl rfl rfl m7 rfl rfl rfl m7 hrow m3 m3 fun ra cap sp hra => kB ?_)))); refine LR O (Jb9 (n := 7) O O O m7 m3 (xH _ _)) (GN ?_); refine JS ?_
 obtain ⟨e, rfl⟩ := Jtd hv m3
 refine QO [0] (L' := [_]) m7 O ?_; rw [Jh8 m3] at hvar; exact JL (e, v / 128, l ++ [UInt8.ofNat (v % 128 + 128)], some (ra, cap, sp)) ⟨by simp only [C', List.length_singleton]; omega, Jn5 hv, by simp only; rw [Ld']; exact hvar, by simp only [C', List.length_singleton, List.map_append, List.map_cons, List.map_nil]; exact hra⟩ mj (.cons O (.cons Mh .nil)) (by simp only [List.map_append, List.map_cons, List.map_nil]; exact T') (fun _ _ h => h)
 ·refine Jv 10 O (J4 (show _ = bV (UInt8.ofNat v) from by rw [j3, Nat.mod_eq_of_lt m3]) (JO (vs := [_]) (zs := [_]) (r := [_]) rfl rfl rfl rfl rfl rfl rfl rfl rfl me rfl fun r2 => Kw (L0 := [_]) (xs := l.map bV) (row := row) (n := l.length) (sz := 1) (b := 1) (news := [_]) (B' (l₁ := [_])) rfl rfl rfl rfl (kn 0 rfl) rfl rfl rfl rfl rfl m7 rfl rfl rfl m7 hrow m3 m3 fun ra cap sp hra => LR rfl (VB (b := l ++ [UInt8.ofNat v]) (row := some (ra, cap, sp)) (e := 5) Mh (by simp only [C', List.length_singleton, List.map_append, List.map_cons, List.map_nil]; exact hra) (fun p hp => .inl (by simp only [List.map_append, List.map_cons, List.map_nil] at hp; rw [U'.1 hp]; exact N')) O O O) ?_)); refine gA ?_; refine MW fun w1 hs1 => ?_; rw [← hvar, Jh7 m3]; rfl
def Yi (s : List UInt8) : Nat × Int := if 8 < s.length then (0, 5) else ((if VC (Q3 s).1 then (Q3 s).1.getD 0 0 else 0), (Q3 s).2)
theorem jb (s : List UInt8) : (Q3 s).1.length = 4 := (Xd s).1
theorem Jfw (s : List UInt8) : Pure prog 117 [.string (bs s)].toArray (Jx6 (Yi s)) := by
 refine JA Tryz.func117 O O fun w => Hr ?_; refine Nz ?_; refine NQ ?_; refine cD (fun g => ?_) fun g => ?_
 refine GL ?_; refine Np fun w1 hs1 => ?_; rw [show Yi s = (0, 5) from by unfold Yi; rw [if_pos m3]]; rfl
 ·refine gx ?_; refine JC O O O (enters_of Tryz.func203 m4 O) (jF s) (MR ?_); refine LN O fun r1 => ?_
  refine Je (k := 0) (n := 4) O O O O O ng ng (by first | exact wi _ | rfl) O ?_; refine kB ?_
  refine LR O (Ji (n := 4) O (kn 0 O) O O ng) (JC O O O (enters_of Tryz.func204 m4 O) (jE (Xd s)) (MR ?_)); refine JD 13 O (Np fun w1 hs1 => ?_); rw [show Yi s = ((if VC (Q3 s).1 then (Q3 s).1.getD 0 0 else 0), (Q3 s).2) from by unfold Yi; rw [if_neg m3]]; rfl
theorem Jfx (e : Int) : Pure prog 232 [.int .i64 e].toArray (.tuple #[uV 0, .int .i64 0, .int .i64 e]) := by
 refine JA Tryz.func232 O O fun w => Kl (KF 16 O (GJ fun w1 hs1 => ?_)); exact HG
def J0p (s : List UInt8) (a : Nat) (p : Nat × Nat) : J3 := [(p.2, .cells #[.int .i64 (a : Int)] 3 (0, 0)), (p.1, .cells #[.string (bs s)] 9 (0, 0))]
theorem Jx7 (s : List UInt8) (a : Nat) : PureE (α := Nat × Nat) prog 233 [.string (bs s), .int .i64 (a : Int)].toArray (fun p => .func (.func 266) #[] #[.pointer (some ⟨p.1, 0, none⟩), .pointer (some ⟨p.2, 0, none⟩)]) (J0p s a) := by
 refine Qm Tryz.func233 O O fun w => Hn fun r1 r2 => ?_; refine kB ?_; exact Eg
def Jfy (s : List UInt8) (a i : Nat) : List Value := [.int .i64 (i : Int), .int .u8 ((s.getD (a + i) 0).toNat : Nat)]
theorem Jx8 {s : List UInt8} (ha : a ≤ s.length) (hs : s.length ≤ 9223372036854775807) (p1 p2 : Nat) : vV prog 266 [.pointer (some ⟨p1, 0, none⟩), .pointer (some ⟨p2, 0, none⟩)]
    [(p2, .cells #[.int .i64 (a : Int)] 3 (0, 0)), (p1, .cells #[.string (bs s)] 9 (0, 0))] 0 (nxN (Jfy s a) (min 10 (s.length - a))) (Jxc (min 10 (s.length - a))) := by
  refine Xf Tryz.func266 O O fun q xids w2 XI XF hY => Kl ?_
  obtain ⟨N, hN⟩ : ∃ N, N = min 10 (s.length - a) := ⟨_, rfl⟩
  rw [← hN] at hY ⊢
  have hN1 : N ≤ 10 ∧ N ≤ s.length - a := by rw [hN]; exact ⟨Nat.min_le_left _ _, Nat.min_le_right _ _⟩
  refine NG ?_; refine Gp ?_; refine Nz ?_; refine NM ?_; refine GV ?_; refine J4 (show _ = Value.int .i64 ((s.length - a : Nat) : Int) from congrArg (Value.int .i64) my) ?_
  refine LR O (Jfd (r := (N : Int)) O O (by rw [hN]; simp only [Nat.min_def]; split <;> split <;> omega)) ?_; refine G5 ?_; refine JQ (σ := Nat) (fun i => i ≤ N) (fun i => [(0, .func (.yield q) #[] #[]), (1, .pointer (some ⟨p1, 0, none⟩)), (2, .pointer (some ⟨p2, 0, none⟩)), (9, .int .i64 (N : Int)), (10, .int .i64 (i : Int))]) (fun _ => []) (fun i => XI i) (fun i => N - i) 0 (Z') (lK O) (S') (fun _ _ h => h) ?_; intro i hi; refine gv ?_; refine cD (fun g => ?_) fun g => ?_
  · refine Jv 14 O (Gp ?_); refine NM ?_; refine gu ?_; refine J4 nh (LR O (JW (j := a + i) O O O O m3 O) (QN (XT := XI (i + 1)) (XF := XF) O O O O (hY i (Jfy s a i) (i + 1) ⟨by omega, rfl, rfl⟩) ?_ ?_))
    all_goals (
     refine kW ?_; refine Jl O (fun g => ?_) (fun g => ?_)
     · try exact Bool.noConfusion g
       all_goals try simp only [ZZ] at g
       all_goals (
        exact EI
        skip)
     · try exact Bool.noConfusion g
       all_goals try simp only [ZZ] at g
       all_goals (
        refine gx ?_; refine JT m3 m3 ?_; exact kX
        skip)
     skip)
  · exact Hg
end Go.Proofs.YtckoepmdmhdepaaGreatDoor
