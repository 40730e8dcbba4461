import Derived.Test.YtdadaddakcidjaaDoorSlb
import Derived.Laws.Small
/-! ### Numbers of 64 bits as bytes -/
namespace Go.SL
set_option linter.all false
open Go
theorem vb {a b : Bool} (h : a = b) : Value.bool a = Value.bool b := by rw [h]
theorem ieqT {x y : Int} (h : x = y) : (x == y) = true := by simpa using h
theorem ieqF {x y : Int} (h : ¬ x = y) : (x == y) = false := by simpa using h
theorem ineF {x y : Int} (h : x = y) : (x != y) = false := by simpa using h
theorem ineT {x y : Int} (h : ¬ x = y) : (x != y) = true := by simpa using h
theorem eqU_self (l : List Nat) : eqCells (l.map uV) (l.map uV) = true := by rw [eq_mapU rfl]; exact decide_eq_true rfl
theorem eqU_of {l m : List Nat} (h : l = m) : eqCells (l.map uV) (m.map uV) = true := by rw [h]; exact eqU_self m
def pow8 (w : Nat) : Nat := 256 ^ w
def leN (n : Nat) : Nat → List UInt8
  | 0 => []
  | w + 1 => UInt8.ofNat (n % 256) :: leN (n / 256) w
def leV : List UInt8 → Nat
  | [] => 0
  | b :: s => b.toNat + 256 * leV s
theorem leN_len : ∀ (w n : Nat), (leN n w).length = w
  | 0, _ => rfl
  | w + 1, n => by simp [leN, leN_len w]
theorem leV_lt : ∀ s : List UInt8, leV s < 256 ^ s.length
  | [] => by simp [leV]
  | b :: s => by
    have h1 := leV_lt s
    have h2 := b.toNat_lt
    simp only [leV, List.length_cons, Nat.pow_succ]; omega
theorem leV_leN : ∀ (w n : Nat), n < 256 ^ w → leV (leN n w) = n
  | 0, n, h => by simp at h; simp [leN, leV, h]
  | w + 1, n, h => by
    rw [Nat.pow_succ] at h
    have h1 : n / 256 < 256 ^ w := by omega
    simp only [leN, leV, leV_leN w _ h1, UInt8.toNat_ofNat', Nat.reducePow]
    omega
theorem leN_leV : ∀ s : List UInt8, leN (leV s) s.length = s
  | [] => rfl
  | b :: s => by
    have h2 := b.toNat_lt
    have e1 : (b.toNat + 256 * leV s) % 256 = b.toNat := by omega
    have e2 : (b.toNat + 256 * leV s) / 256 = leV s := by omega
    simp only [leV, List.length_cons, leN, e1, e2, leN_leV s, UInt8.ofNat_toNat]
theorem leN_inj {n m w v : Nat} (h : leN n w = leN m v) (hn : n < 256 ^ w) (hm : m < 256 ^ v) : n = m ∧ w = v := by
  have e := congrArg List.length h
  rw [leN_len, leN_len] at e
  subst e
  exact ⟨by rw [← leV_leN w n hn, h, leV_leN w m hm], rfl⟩
theorem leN_get : ∀ {w n i : Nat}, i < w → (leN n w)[i]? = some (UInt8.ofNat (n / 256 ^ i % 256))
  | w + 1, n, 0, _ => by simp [leN]
  | w + 1, n, i + 1, h => by
    rw [leN, List.getElem?_cons_succ, leN_get (by omega), Nat.pow_succ, Nat.mul_comm, Nat.div_div_eq_div_mul]
theorem leV_snoc : ∀ (s : List UInt8) (b : UInt8), leV (s ++ [b]) = leV s + b.toNat * 256 ^ s.length
  | [], b => by simp [leV]
  | a :: s, b => by simp only [List.cons_append, leV, leV_snoc s b, List.length_cons, Nat.pow_succ]; rw [Nat.mul_add, ← Nat.mul_assoc, ← Nat.mul_assoc, Nat.mul_comm 256 b.toNat, Nat.mul_assoc, Nat.mul_comm 256 (256 ^ s.length), Nat.mul_assoc]; omega
theorem leN_snoc : ∀ (w n : Nat), leN n (w + 1) = leN n w ++ [UInt8.ofNat (n / 256 ^ w % 256)]
  | 0, n => by simp [leN]
  | w + 1, n => by
    rw [leN, leN_snoc w (n / 256), leN, List.cons_append, Nat.pow_succ, Nat.mul_comm, Nat.div_div_eq_div_mul]
/-! by 128 -/
def varN : Nat → Nat → List UInt8
  | 0, n => [UInt8.ofNat n]
  | f + 1, n => if n < 128 then [UInt8.ofNat n] else UInt8.ofNat (n % 128 + 128) :: varN f (n / 128)
def varL (n : Nat) : List UInt8 := varN 9 n
section
variable {c : Cx} {l : List (Nat × Value)} {L : List (Nat × Obj)} {X : XP} {d : List Deferred}
variable {i : Nat} {v : Value} {t : TypeId} {ps : String} {af : Array Edge} {gd : Option (Nat × Bool)} {ty t2 : TypeId}
theorem R_min2 {x y : Operand} {k k' : IntKind} {a b r : Int} {ats : Array TypeId} (hx : evl l x = some (.int k a)) (hy : evl l y = some (.int k' b)) (hr : (if b < a then b else a) = r) :
    RunsTo c d l L X ⟨some i, .call ⟨.builtin .min, #[x, y], ats⟩, ty, ps, af, gd⟩ (.int k r) := fun a' w hf _ => by
  subst hr
  simp only [execOp, Sem.run_bind, resolve]
  have h1 := hf.eval hx
  have h2 := hf.eval hy
  have h3 := run_min_int2 (P := c.P) (w := w) ats ty k k' a b
  simp [h1, h2, invoke, builtin, Result.andThen, h3]
theorem R_bits8 {op : BinOp} {x y : Operand} {m n : Nat} {f : Nat → Nat → Nat} {b : Int} (hf : bitsOf op = some f) (hx : evl l x = some (.int .u8 (m : Int))) (hy : evl l y = some (.int .u8 (n : Int))) (hm : m < 256) (hn : n < 256) (hb : ((f m n : Nat) : Int) = b) :
    RunsTo c d l L X ⟨some i, .binOp op t x y t2, ty, ps, af, gd⟩ (.int .u8 b) := fun a' w hfr _ => by
  subst hb
  have e1 : (BitVec.ofInt 8 (m : Int)).toNat = m := by simp [BitVec.toNat_ofInt]; omega
  have e2 : (BitVec.ofInt 8 (n : Int)).toNat = n := by simp [BitVec.toNat_ofInt]; omega
  have hm' : m < 2 ^ 8 := hm
  have hn' : n < 2 ^ 8 := hn
  have wr : ∀ q : Nat, q < 2 ^ 8 → IntKind.u8.wrap (q : Int) = q := fun q hq => wrap_u8 (by omega) (by omega)
  simp only [execOp]
  rw [hfr.eval hx, hfr.eval hy]
  cases op <;> simp only [bitsOf, Option.some.injEq, reduceCtorEq] at hf
  all_goals subst hf
  · have := wr (m &&& n) (Nat.lt_of_le_of_lt Nat.and_le_left hm')
    have e3 : (BitVec.ofInt 8 (m : Int) &&& BitVec.ofInt 8 (n : Int)).toNat = m &&& n := by rw [BitVec.toNat_and, e1, e2]
    show Sem.run c.P (pure (Next.value (Value.int .u8 (IntKind.u8.wrap (((BitVec.ofInt 8 (m : Int) &&& BitVec.ofInt 8 (n : Int)).toNat : Nat) : Int))))) w = _
    rw [e3, this]; rfl
  · have := wr (m ||| n) (Nat.or_lt_two_pow hm' hn')
    have e3 : (BitVec.ofInt 8 (m : Int) ||| BitVec.ofInt 8 (n : Int)).toNat = m ||| n := by rw [BitVec.toNat_or, e1, e2]
    show Sem.run c.P (pure (Next.value (Value.int .u8 (IntKind.u8.wrap (((BitVec.ofInt 8 (m : Int) ||| BitVec.ofInt 8 (n : Int)).toNat : Nat) : Int))))) w = _
    rw [e3, this]; rfl
  · have := wr (m ^^^ n) (Nat.xor_lt_two_pow hm' hn')
    have e3 : (BitVec.ofInt 8 (m : Int) ^^^ BitVec.ofInt 8 (n : Int)).toNat = m ^^^ n := by rw [BitVec.toNat_xor, e1, e2]
    show Sem.run c.P (pure (Next.value (Value.int .u8 (IntKind.u8.wrap (((BitVec.ofInt 8 (m : Int) ^^^ BitVec.ofInt 8 (n : Int)).toNat : Nat) : Int))))) w = _
    rw [e3, this]; rfl
end
theorem quoU {x d : Nat} (h : x < 18446744073709551616) : IntKind.u64.wrap (Int.tdiv (x : Int) (d : Int)) = ((x / d : Nat) : Int) := by
  have h2 := Nat.div_le_self x d
  rw [← Int.ofNat_tdiv]
  generalize x / d = q at *
  exact wrap_u64 (by omega) (by omega)
theorem wrapU (m : Nat) : IntKind.u64.wrap (m : Int) = ((m % 18446744073709551616 : Nat) : Int) := by
  have h : IntKind.u64.wrap (m : Int) = (m : Int) % 18446744073709551616 := by rw [IntKind.wrap_u64]
  rw [h]; rfl
/-- The digits by 128 from a place on: what is read. -/
def rdV (a : Nat) : Nat → Nat → List UInt8 → Nat × Nat × Int
  | _, _, [] => (0, 0, 3)
  | i, n, c :: r => if i = 9 ∧ 1 < c.toNat then (0, 0, 5) else if 128 ≤ c.toNat then rdV a (i + 1) (n + c.toNat % 128 * 2 ^ (7 * i)) r else if 0 < i ∧ c.toNat = 0 then (0, 0, 8) else (n + c.toNat % 128 * 2 ^ (7 * i), a + i + 1, 0)
def unvR (s : List UInt8) (at_ : Int) : Nat × Nat × Int := if at_ < 0 ∨ at_ > s.length then (0, 0, 1) else rdV at_.toNat 0 0 ((s.drop at_.toNat).take 10)
def resU (p : Nat × Nat × Int) : Value := .tuple #[uV p.1, .int .i64 (p.2.1 : Int), .int .i64 p.2.2]
theorem or128 {n : Nat} : n % 256 ||| 128 = n % 128 + 128 := by
  have h := or_add (a := n % 128) (b := 1) (n := 7) (Nat.mod_lt _ (by decide))
  have e : n % 256 = n % 128 ∨ n % 256 = n % 128 + 128 := by omega
  rcases e with e | e
  · rw [e]; exact h
  · rw [e, ← h, Nat.or_assoc]; rfl
theorem and127 (n : Nat) : n &&& 127 = n % 128 := Nat.and_two_pow_sub_one_eq_mod n 7
end Go.SL
