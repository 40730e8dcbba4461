import Derived.Test.YthfinkklgbiaeaaDoorSle
/-! ### Keccak, lane by lane -/
namespace Go.SL
set_option linter.all false
open Go
def SOk (n : Nat) (a : List Nat) : Prop := a.length = n ∧ ∀ x ∈ a, x < 18446744073709551616
theorem SOk.get {n : Nat} {a : List Nat} (h : SOk n a) (j : Nat) : a.getD j 0 < 18446744073709551616 := by
  by_cases hj : j < a.length
  · have : a.getD j 0 ∈ a := by simp [List.getD_eq_getElem?_getD, hj]
    exact h.2 _ this
  · rw [List.getD_eq_getElem?_getD, List.getElem?_eq_none (by omega)]; decide
theorem SOk.set {n : Nat} {a : List Nat} (h : SOk n a) (j : Nat) {x : Nat} (hx : x < 18446744073709551616) : SOk n (a.set j x) :=
  ⟨by rw [List.length_set, h.1], fun y hy => (List.mem_or_eq_of_mem_set hy).elim (h.2 y) fun e => e ▸ hx⟩
def rotN (n k : Nat) : Nat := n * 2 ^ (k % 64) % 18446744073709551616 ||| n / 2 ^ (64 - k % 64)
theorem or_lt64 {a b : Nat} (ha : a < 18446744073709551616) (hb : b < 18446744073709551616) : a ||| b < 18446744073709551616 := Nat.or_lt_two_pow (n := 64) ha hb
theorem xor_lt64 {a b : Nat} (ha : a < 18446744073709551616) (hb : b < 18446744073709551616) : a ^^^ b < 18446744073709551616 := Nat.xor_lt_two_pow (n := 64) ha hb
theorem and_lt64 {a b : Nat} (hb : b < 18446744073709551616) : a &&& b < 18446744073709551616 := Nat.lt_of_le_of_lt Nat.and_le_right hb
theorem rotN_lt {n : Nat} (hn : n < 18446744073709551616) (k : Nat) : rotN n k < 18446744073709551616 :=
  or_lt64 (Nat.mod_lt _ (by decide)) (Nat.lt_of_le_of_lt (Nat.div_le_self _ _) hn)
def cS (a : List Nat) : Nat → List Nat
  | 0 => [0, 0, 0, 0, 0]
  | i + 1 => (cS a i).set (i % 5) ((cS a i).getD (i % 5) 0 ^^^ a.getD i 0)
theorem cS_ok {a : List Nat} (h : SOk 25 a) : ∀ i, SOk 5 (cS a i)
  | 0 => ⟨rfl, by simp [cS]⟩
  | i + 1 => (cS_ok h i).set _ (xor_lt64 ((cS_ok h i).get _) (h.get _))
def mS (c a : List Nat) : Nat → List Nat
  | 0 => a
  | i + 1 => (mS c a i).set i ((mS c a i).getD i 0 ^^^ (c.getD ((i % 5 + 5 - 1) % 5) 0 ^^^ rotN (c.getD ((i % 5 + 1) % 5) 0) 1))
theorem mS_ok {c a : List Nat} (hc : SOk 5 c) (h : SOk 25 a) : ∀ i, SOk 25 (mS c a i)
  | 0 => h
  | i + 1 => (mS_ok hc h i).set _ (xor_lt64 ((mS_ok hc h i).get _) (xor_lt64 (hc.get _) (rotN_lt (hc.get _) 1)))
def mixA (a : List Nat) : List Nat := mS (cS a 25) a 25
theorem mixA_ok {a : List Nat} (h : SOk 25 a) : SOk 25 (mixA a) := mS_ok (cS_ok h 25) h 25
def z25 : List Nat := [0, 0, 0, 0, 0, 0, 0, 0, 0, 0, 0, 0, 0, 0, 0, 0, 0, 0, 0, 0, 0, 0, 0, 0, 0]
set_option maxRecDepth 4000 in
theorem z25_ok : SOk 25 z25 := ⟨rfl, by simp [z25]⟩
def rS (a b : List Nat) : Nat → List Nat
  | 0 => z25
  | i + 1 => (rS a b i).set (i / 5 + 5 * ((2 * (i % 5) + 3 * (i / 5)) % 5)) (rotN (a.getD i 0) (b.getD i 0))
theorem rS_ok {a : List Nat} (b : List Nat) (h : SOk 25 a) : ∀ i, SOk 25 (rS a b i)
  | 0 => z25_ok
  | i + 1 => (rS_ok b h i).set _ (rotN_lt (h.get _) _)
def chiN (b : List Nat) (i : Nat) : Nat := b.getD i 0 ^^^ ((18446744073709551615 ^^^ b.getD (i - i % 5 + (i % 5 + 1) % 5) 0) &&& b.getD (i - i % 5 + (i % 5 + 2) % 5) 0)
theorem chiN_lt {b : List Nat} (h : SOk 25 b) (i : Nat) : chiN b i < 18446744073709551616 := xor_lt64 (h.get _) (and_lt64 (h.get _))
def xS (b a : List Nat) : Nat → List Nat
  | 0 => a
  | i + 1 => (xS b a i).set i (chiN b i)
theorem xS_ok {b a : List Nat} (hb : SOk 25 b) (h : SOk 25 a) : ∀ i, SOk 25 (xS b a i)
  | 0 => h
  | i + 1 => (xS_ok hb h i).set _ (chiN_lt hb _)
def iotaA (a : List Nat) (n : Nat) : List Nat := a.set 0 (a.getD 0 0 ^^^ n)
def roundA (by_ a : List Nat) (n : Nat) : List Nat := iotaA (xS (rS (mixA a) by_ 25) (mixA a) 25) n
theorem iotaA_ok {a : List Nat} (h : SOk 25 a) {n : Nat} (hn : n < 18446744073709551616) : SOk 25 (iotaA a n) := h.set _ (xor_lt64 (h.get _) hn)
theorem roundA_ok {a : List Nat} (by_ : List Nat) (h : SOk 25 a) {n : Nat} (hn : n < 18446744073709551616) : SOk 25 (roundA by_ a n) :=
  iotaA_ok (xS_ok (rS_ok by_ (mixA_ok h) 25) (mixA_ok h) 25) hn
def turnsL : List Nat := [0, 1, 62, 28, 27, 36, 44, 6, 55, 20, 3, 10, 43, 25, 39, 41, 45, 15, 21, 8, 18, 2, 61, 56, 14]
def numsL : List Nat := [0x0000000000000001, 0x0000000000008082, 0x800000000000808A, 0x8000000080008000, 0x000000000000808B, 0x0000000080000001,
  0x8000000080008081, 0x8000000000008009, 0x000000000000008A, 0x0000000000000088, 0x0000000080008009, 0x000000008000000A,
  0x000000008000808B, 0x800000000000008B, 0x8000000000008089, 0x8000000000008003, 0x8000000000008002, 0x8000000000000080,
  0x000000000000800A, 0x800000008000000A, 0x8000000080008081, 0x8000000000008080, 0x0000000080000001, 0x8000000080008008]
set_option maxRecDepth 10000 in
theorem numsL_ok : SOk 24 numsL := ⟨rfl, by decide +kernel⟩
def permS (a : List Nat) : Nat → List Nat
  | 0 => a
  | i + 1 => roundA turnsL (permS a i) (numsL.getD i 0)
theorem permS_ok {a : List Nat} (h : SOk 25 a) : ∀ i, SOk 25 (permS a i)
  | 0 => h
  | i + 1 => roundA_ok turnsL (permS_ok h i) (numsL_ok.get i)
def permA (a : List Nat) : List Nat := permS a 24
theorem permA_ok {a : List Nat} (h : SOk 25 a) : SOk 25 (permA a) := by unfold permA; exact permS_ok h 24
def abS (a : List Nat) (s : List UInt8) : Nat → List Nat
  | 0 => a
  | i + 1 => (abS a s i).set (i / 8) ((abS a s i).getD (i / 8) 0 ^^^ (s.getD i 0).toNat * 2 ^ (i % 8 * 8))
theorem abS_ok {a : List Nat} (s : List UInt8) (h : SOk 25 a) : ∀ i, SOk 25 (abS a s i)
  | 0 => h
  | i + 1 => (abS_ok s h i).set _ (xor_lt64 ((abS_ok s h i).get _) (sh_lt (u8_lt _) (by omega)))
def sumS (t : List UInt8) : Nat → List Nat
  | 0 => z25
  | j + 1 => permA (abS (sumS t j) (t.drop (136 * j)) 136)
theorem sumS_ok (t : List UInt8) : ∀ j, SOk 25 (sumS t j)
  | 0 => z25_ok
  | j + 1 => by unfold sumS; exact permA_ok (abS_ok _ (sumS_ok t j) 136)
def padL (n : Nat) : List UInt8 := if 136 - n % 136 = 1 then [129] else 1 :: (List.replicate (134 - n % 136) 0 ++ [128])
theorem padL_len (n : Nat) : (padL n).length = 136 - n % 136 := by
  unfold padL; split
  · simp; omega
  · simp; omega
def outL (a : List Nat) : Nat → List UInt8
  | 0 => []
  | i + 1 => outL a i ++ [UInt8.ofNat (a.getD (i / 8) 0 / 2 ^ (i % 8 * 8) % 256)]
theorem outL_len (a : List Nat) : ∀ i, (outL a i).length = i
  | 0 => rfl
  | i + 1 => by simp [outL, outL_len a i]
def kec (s : List UInt8) : List UInt8 := outL (sumS (s ++ padL s.length) ((s ++ padL s.length).length / 136)) 32
theorem kec_len (s : List UInt8) : (kec s).length = 32 := outL_len _ _
theorem kec_blocks (s : List UInt8) : (s ++ padL s.length).length % 136 = 0 := by rw [List.length_append, padL_len]; omega
end Go.SL
