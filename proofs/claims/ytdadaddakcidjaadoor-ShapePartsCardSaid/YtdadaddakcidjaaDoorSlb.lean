import Derived.Test.YtdadaddakcidjaaDoorSla
namespace Go.SL
set_option linter.all false
open Go.RowKit Go.Shelf
open Go.Proofs (Enters enters_of)

/-! ### Words of 256 bits, by their digits -/
def uV (n : Nat) : Value := .int .u64 (n : Int)
def wV (l : List Nat) : Value := .agg (l.map uV).toArray
def WOk (l : List Nat) : Prop := l.length = 4 ∧ ∀ x ∈ l, x < 18446744073709551616
def dg (l : List Nat) (i : Nat) : Nat := l.getD (i / 8) 0 / 2 ^ (i % 8 * 8) % 256
theorem dg_lt (l : List Nat) (i : Nat) : dg l i < 256 := Nat.mod_lt _ (by decide)
theorem mapU_get {l : List Nat} {j : Nat} (h : j < l.length) : (l.map uV)[j]? = some (.int .u64 ((l.getD j 0 : Nat) : Int)) := by
  simp [h, uV, List.getD_eq_getElem?_getD]
theorem WOk.get {l : List Nat} (h : WOk l) (j : Nat) : l.getD j 0 < 18446744073709551616 := by
  by_cases hj : j < l.length
  · have : l.getD j 0 ∈ l := by simp [List.getD_eq_getElem?_getD, hj]
    exact h.2 _ this
  · simp [List.getD_eq_getElem?_getD, List.getElem?_eq_none (Nat.le_of_not_lt hj)]
def pw (f : Nat → Nat) (j : Nat) : Nat → Nat
  | 0 => 0
  | m + 1 => pw f j m + f (8 * j + m) * 2 ^ (m * 8)
theorem pw_lt {f : Nat → Nat} (hf : ∀ i, f i < 256) (j : Nat) : ∀ m, pw f j m < 2 ^ (m * 8)
  | 0 => by simp [pw]
  | m + 1 => by
    have h1 := pw_lt hf j m
    have h2 := hf (8 * j + m)
    have e : 2 ^ ((m + 1) * 8) = 256 * 2 ^ (m * 8) := by rw [Nat.add_mul, Nat.pow_add, Nat.mul_comm]
    rw [e]
    unfold pw
    have h3 : f (8 * j + m) * 2 ^ (m * 8) ≤ 255 * 2 ^ (m * 8) := Nat.mul_le_mul_right _ (by omega)
    omega
def stW (f : Nat → Nat) (i : Nat) : List Nat := [pw f 0 (min 8 i), pw f 1 (min 8 (i - 8)), pw f 2 (min 8 (i - 16)), pw f 3 (min 8 (i - 24))]
theorem stW_get (f : Nat → Nat) {i : Nat} (h : i < 32) : (stW f i).getD (i / 8) 0 = pw f (i / 8) (i % 8) := by
  have hq : i / 8 = 0 ∨ i / 8 = 1 ∨ i / 8 = 2 ∨ i / 8 = 3 := by omega
  rcases hq with e | e | e | e <;> rw [e] <;> simp only [stW, List.getD_cons_zero, List.getD_cons_succ] <;> congr 1 <;> omega
theorem stW_step (f : Nat → Nat) {i : Nat} (h : i < 32) : (stW f i).set (i / 8) ((stW f i).getD (i / 8) 0 + f i * 2 ^ (i % 8 * 8)) = stW f (i + 1) := by
  rw [stW_get f h]
  have hq : i / 8 = 0 ∨ i / 8 = 1 ∨ i / 8 = 2 ∨ i / 8 = 3 := by omega
  have hst : pw f (i / 8) (i % 8) + f i * 2 ^ (i % 8 * 8) = pw f (i / 8) (i % 8 + 1) := by
    show _ = pw f (i / 8) (i % 8) + f (8 * (i / 8) + i % 8) * 2 ^ (i % 8 * 8)
    rw [Nat.div_add_mod]
  rw [hst]
  have keep : ∀ j a b, a = b → pw f j a = pw f j b := fun j a b e => by rw [e]
  rcases hq with e | e | e | e <;> rw [e] <;> simp only [stW, List.set_cons_zero, List.set_cons_succ, List.cons.injEq, and_true] <;>
    refine ⟨keep _ _ _ (by omega), keep _ _ _ (by omega), keep _ _ _ (by omega), keep _ _ _ (by omega)⟩
theorem stW_len (f : Nat → Nat) (i : Nat) : (stW f i).length = 4 := rfl
theorem stW_ok {f : Nat → Nat} (hf : ∀ i, f i < 256) (i : Nat) : WOk (stW f i) := by
  refine ⟨rfl, fun x hx => ?_⟩
  have hb : ∀ j m, m ≤ 8 → pw f j m < 18446744073709551616 := fun j m hm =>
    Nat.lt_of_lt_of_le (pw_lt hf j m) (show 2 ^ (m * 8) ≤ 2 ^ 64 from Nat.pow_le_pow_right (by decide) (by omega))
  simp only [stW, List.mem_cons, List.not_mem_nil, or_false] at hx
  rcases hx with rfl | rfl | rfl | rfl <;> exact hb _ _ (Nat.min_le_left _ _)
theorem stW_congr {f g : Nat → Nat} (h : ∀ i, i < 32 → f i = g i) : stW f 32 = stW g 32 := by
  have key : ∀ j, j < 4 → ∀ m, m ≤ 8 → pw f j m = pw g j m := by
    intro j hj m
    induction m with
    | zero => intro _; rfl
    | succ m ih =>
      intro hm
      simp only [pw]
      rw [ih (by omega), h (8 * j + m) (by omega)]
  simp only [stW]
  rw [key 0 (by decide) _ (Nat.min_le_left _ _), key 1 (by decide) _ (Nat.min_le_left _ _), key 2 (by decide) _ (Nat.min_le_left _ _), key 3 (by decide) _ (Nat.min_le_left _ _)]
/-- The digits, the highest one first. -/
def beD (l : List Nat) : Nat → List UInt8
  | 0 => []
  | m + 1 => UInt8.ofNat (dg l m) :: beD l m
theorem beD_len (l : List Nat) : ∀ n, (beD l n).length = n
  | 0 => rfl
  | n + 1 => by simp [beD, beD_len l n]
theorem beD_get (l : List Nat) : ∀ {n m : Nat}, m < n → (beD l n)[m]? = some (UInt8.ofNat (dg l (n - 1 - m)))
  | 0, m, h => by omega
  | n + 1, 0, h => by simp [beD]
  | n + 1, m + 1, h => by
    have := beD_get l (n := n) (m := m) (by omega)
    simp only [beD, List.getElem?_cons_succ, this]
    congr 3; omega
theorem beD_take (l : List Nat) {n m : Nat} (h : m < n) : (beD l n).take (m + 1) = (beD l n).take m ++ [UInt8.ofNat (dg l (n - 1 - m))] := by
  rw [List.take_add_one, beD_get l h]; rfl
theorem set_rep {α : Type} (z v : α) (t : List α) (m : Nat) : (List.replicate (m + 1) z ++ t).set m v = List.replicate m z ++ v :: t := by
  induction m with
  | zero => rfl
  | succ m ih => rw [List.replicate_succ, List.cons_append, List.set_cons_succ, ih]; rfl
theorem or_add {a b n : Nat} (h : a < 2 ^ n) : a ||| b * 2 ^ n = a + b * 2 ^ n := by
  rw [Nat.or_comm, ← Nat.shiftLeft_eq, ← Nat.shiftLeft_add_eq_or_of_lt h, Nat.add_comm]
theorem sh_lt {a n : Nat} (h : a < 256) (hn : n ≤ 56) : a * 2 ^ n < 18446744073709551616 := by
  have h1 : 2 ^ n ≤ 2 ^ 56 := Nat.pow_le_pow_right (by decide) hn
  have h2 : a * 2 ^ n ≤ 255 * 2 ^ 56 := Nat.mul_le_mul (by omega) h1
  exact Nat.lt_of_le_of_lt h2 (by decide)
theorem sum_lt {f : Nat → Nat} (hf : ∀ i, f i < 256) {i : Nat} (h : i < 32) : (stW f i).getD (i / 8) 0 + f i * 2 ^ (i % 8 * 8) < 18446744073709551616 := by
  have h1 := (stW_ok hf (i + 1)).get (i / 8)
  rw [← stW_step f h] at h1
  have hl : i / 8 < (stW f i).length := by rw [stW_len]; omega
  simpa [List.getD_eq_getElem?_getD, hl] using h1
theorem shl_u64 {a n : Nat} (h : a * 2 ^ n < 18446744073709551616) : IntKind.u64.wrap ((a : Int) * ((2 ^ n : Nat) : Int)) = ((a * 2 ^ n : Nat) : Int) := by
  rw [← Int.natCast_mul]; exact wrap_u64 (by omega) (by omega)
theorem add_u64 {a b : Nat} (h : a + b < 18446744073709551616) : Value.int .u64 (IntKind.u64.wrap ((a : Int) + (b : Int))) = uV (a + b) := by
  rw [← Int.natCast_add, wrap_u64 (by omega) (by omega)]; rfl
theorem rem_nat (a b : Nat) : Int.tmod (a : Int) (b : Int) = ((a % b : Nat) : Int) := rfl
theorem shr_nat (a n : Nat) : (a : Int) / ((2 ^ n : Nat) : Int) = ((a / 2 ^ n : Nat) : Int) := rfl
def iV (n : Nat) : Value := .int .i64 (n : Int)
theorem mapI_get {l : List Nat} {j : Nat} (h : j < l.length) : (l.map iV)[j]? = some (.int .i64 ((l.getD j 0 : Nat) : Int)) := by
  simp [h, iV, List.getD_eq_getElem?_getD]
theorem set_mapU {l m : List Nat} {j x : Nat} (h : l.set j x = m) : (l.map uV).set j (uV x) = m.map uV := by rw [← h, List.map_set]
theorem byte_of {n : Nat} (h : n < 256) : Value.int .u8 (IntKind.u8.wrap (n : Int)) = bV (UInt8.ofNat n) := by
  rw [wrap_u8 (by omega) (by omega), bV_of h]
theorem byte_mod (q : Nat) : Value.int .u8 (IntKind.u8.wrap (q : Int)) = bV (UInt8.ofNat (q % 256)) := by
  rw [← bV_of (Nat.mod_lt _ (by decide))]
  congr 1
theorem HL_eqL {c : Cx} {d : List Deferred} {l : List (Nat × Value)} {L L' : List (Nat × Obj)} {X : XP} {ops : Array Oper} {rest : List Oper} {Q : Exit → Act → World → Prop} (e : L = L') (h : HL c d l L' X ops rest Q) : HL c d l L X ops rest Q := e ▸ h
def unfW (s : List UInt8) : List Nat := stW (fun t => (s.getD (31 - t) 0).toNat) 32
theorem u8_lt (b : UInt8) : b.toNat < 256 := b.toNat_lt
theorem unfW_ok (s : List UInt8) : WOk (unfW s) := stW_ok (fun _ => u8_lt _) 32
def zW : List Nat := [0, 0, 0, 0]
def unfR (s : List UInt8) : List Nat × Int := if s.length = 32 then (unfW s, 0) else (zW, 2)
def resW (p : List Nat × Int) : Value := .tuple #[wV p.1, .int .i64 p.2]
def nsOf (s : List UInt8) (m : Nat) : List Nat := (List.range m).map fun t => (s.getD (31 - t) 0).toNat
theorem nsOf_succ (s : List UInt8) (m : Nat) : (nsOf s (m + 1)).map iV = (nsOf s m).map iV ++ [.int .i64 ((s.getD (31 - m) 0).toNat : Nat)] := by
  simp [nsOf, List.range_succ, iV]
theorem nsOf_lt (s : List UInt8) (i : Nat) : (nsOf s 32).getD i 0 < 256 := by
  by_cases h : i < 32
  · simp only [nsOf, List.getD_eq_getElem?_getD, List.getElem?_map, List.getElem?_range h, Option.map_some, Option.getD_some]
    exact u8_lt _
  · rw [List.getD_eq_getElem?_getD, List.getElem?_eq_none (by simp [nsOf]; omega)]
    decide
theorem nsOf_unf (s : List UInt8) : stW (fun t => (nsOf s 32).getD t 0) 32 = unfW s := stW_congr fun i h => by
  simp only [nsOf, List.getD_eq_getElem?_getD, List.getElem?_map, List.getElem?_range h, Option.map_some, Option.getD_some]
/-- Words put together part by part, with what is carried. -/
def crS (F G : Nat → Nat → Nat → Nat) (a b : List Nat) : Nat → List Nat × Nat
  | 0 => (zW, 0)
  | i + 1 => ((crS F G a b i).1.set i (F (a.getD i 0) (b.getD i 0) (crS F G a b i).2), G (a.getD i 0) (b.getD i 0) (crS F G a b i).2)
theorem crS_len (F G : Nat → Nat → Nat → Nat) (a b : List Nat) : ∀ i, (crS F G a b i).1.length = 4
  | 0 => rfl
  | i + 1 => by simp [crS, crS_len F G a b i]
def crR (F G : Nat → Nat → Nat → Nat) (a b : List Nat) : List Nat × Int := if (crS F G a b 4).2 = 0 then ((crS F G a b 4).1, 0) else (zW, 6)
structure Car (P : Program) (g : FuncId) (F G : Nat → Nat → Nat → Nat) : Prop where
  run : ∀ x y c w, c ≤ 1 → (callFunc g [uV x, uV y, uV c].toArray).run P w = .ok (.value (.tuple #[uV (F x y c), uV (G x y c)])) w
  lt : ∀ x y c, F x y c < 18446744073709551616
  le : ∀ x y c, x < 18446744073709551616 → y < 18446744073709551616 → c ≤ 1 → G x y c ≤ 1
theorem crS_ok {P : Program} {g : FuncId} {F G : Nat → Nat → Nat → Nat} (C : Car P g F G) {a b : List Nat} (ha : WOk a) (hb : WOk b) : ∀ i, WOk (crS F G a b i).1 ∧ (crS F G a b i).2 ≤ 1
  | 0 => ⟨⟨rfl, by simp [crS, zW]⟩, by simp [crS]⟩
  | i + 1 => by
    obtain ⟨⟨h1, h2⟩, h3⟩ := crS_ok C ha hb i
    refine ⟨⟨crS_len F G a b _, fun x hx => ?_⟩, C.le _ _ _ (ha.get i) (hb.get i) h3⟩
    rcases List.mem_or_eq_of_mem_set hx with h | h
    · exact h2 x h
    · rw [h]; exact C.lt _ _ _

/-! ### Words as numbers -/
theorem scal_mapU {P : Program} {e : TypeId} (h : P.underlying e = some (.int .u64)) (l : List Nat) : (l.map uV).all (scalB P e) = true := by
  simp [List.all_map, List.all_eq_true, uV, scalB, h]
theorem eq_mapU : ∀ {a b : List Nat}, a.length = b.length → eqCells (a.map uV) (b.map uV) = decide (a = b)
  | [], [], _ => by simp [eqCells]
  | x :: a, y :: b, h => by
    have ih := eq_mapU (a := a) (b := b) (by simpa using h)
    simp only [List.map_cons, eqCells, ih, uV, eqS]
    by_cases h1 : x = y <;> by_cases h2 : a = b <;> simp [h1, h2]
    all_goals omega
def wN (l : List Nat) : Nat := l.getD 0 0 + 18446744073709551616 * (l.getD 1 0 + 18446744073709551616 * (l.getD 2 0 + 18446744073709551616 * l.getD 3 0))
theorem WOk.four {l : List Nat} (h : WOk l) : ∃ a b c d, l = [a, b, c, d] ∧ a < 18446744073709551616 ∧ b < 18446744073709551616 ∧ c < 18446744073709551616 ∧ d < 18446744073709551616 := by
  obtain ⟨h1, h2⟩ := h
  match l, h1 with
  | [a, b, c, d], _ => exact ⟨a, b, c, d, rfl, h2 a (by simp), h2 b (by simp), h2 c (by simp), h2 d (by simp)⟩
theorem wN_lt {l : List Nat} (h : WOk l) : wN l < 115792089237316195423570985008687907853269984665640564039457584007913129639936 := by
  obtain ⟨a, b, c, d, rfl, h1, h2, h3, h4⟩ := h.four
  simp only [wN, List.getD_cons_zero, List.getD_cons_succ]
  omega
theorem wN_inj {l m : List Nat} (h : WOk l) (k : WOk m) (e : wN l = wN m) : l = m := by
  obtain ⟨a, b, c, d, rfl, h1, h2, h3, h4⟩ := h.four
  obtain ⟨a', b', c', d', rfl, k1, k2, k3, k4⟩ := k.four
  simp only [wN, List.getD_cons_zero, List.getD_cons_succ] at e
  have e1 : a = a' := by omega
  have e2 : b = b' := by omega
  have e3 : c = c' := by omega
  have e4 : d = d' := by omega
  rw [e1, e2, e3, e4]
def sm (f : Nat → Nat) : Nat → Nat
  | 0 => 0
  | i + 1 => sm f i + f i * 2 ^ (8 * i)
theorem sm_lt {f : Nat → Nat} (hf : ∀ i, f i < 256) : ∀ i, sm f i < 2 ^ (8 * i)
  | 0 => by simp [sm]
  | i + 1 => by
    have h1 := sm_lt hf i
    have e : 2 ^ (8 * (i + 1)) = 256 * 2 ^ (8 * i) := by rw [Nat.mul_add, Nat.pow_add, Nat.mul_comm]
    have h3 : f i * 2 ^ (8 * i) ≤ 255 * 2 ^ (8 * i) := Nat.mul_le_mul_right _ (by have := hf i; omega)
    rw [e]; unfold sm; omega
theorem wN_st (f : Nat → Nat) : wN (stW f 32) = sm f 32 := by
  simp only [stW, wN, List.getD_cons_zero, List.getD_cons_succ, sm, pw, Nat.min_def, Nat.reduceSub, Nat.reduceLeDiff, if_true, Nat.reduceAdd, Nat.reduceMul, Nat.reducePow, Nat.le_refl]
  omega
theorem dig8 {x : Nat} (h : x < 18446744073709551616) : x / 1 % 256 * 1 + x / 256 % 256 * 256 + x / 65536 % 256 * 65536 + x / 16777216 % 256 * 16777216 + x / 4294967296 % 256 * 4294967296 + x / 1099511627776 % 256 * 1099511627776 + x / 281474976710656 % 256 * 281474976710656 + x / 72057594037927936 % 256 * 72057594037927936 = x := by omega
theorem pw_dg {l : List Nat} (h : WOk l) {j : Nat} (hj : j < 4) : pw (dg l) j 8 = l.getD j 0 := by
  have hx := dig8 (h.get j)
  simp only [pw, dg]
  have e : ∀ u, u < 8 → (8 * j + u) / 8 = j ∧ (8 * j + u) % 8 = u := fun u hu => ⟨by omega, by omega⟩
  rw [(e 0 (by decide)).1, (e 0 (by decide)).2, (e 1 (by decide)).1, (e 1 (by decide)).2, (e 2 (by decide)).1, (e 2 (by decide)).2, (e 3 (by decide)).1, (e 3 (by decide)).2, (e 4 (by decide)).1, (e 4 (by decide)).2, (e 5 (by decide)).1, (e 5 (by decide)).2, (e 6 (by decide)).1, (e 6 (by decide)).2, (e 7 (by decide)).1, (e 7 (by decide)).2]
  simp only [Nat.reduceMul, Nat.reducePow, Nat.zero_add]
  exact hx
theorem st_dg {l : List Nat} (h : WOk l) : stW (dg l) 32 = l := by
  obtain ⟨a, b, c, d, rfl, h1, h2, h3, h4⟩ := h.four
  have e : stW (dg [a, b, c, d]) 32 = [pw (dg [a, b, c, d]) 0 8, pw (dg [a, b, c, d]) 1 8, pw (dg [a, b, c, d]) 2 8, pw (dg [a, b, c, d]) 3 8] := rfl
  rw [e, pw_dg h (by decide), pw_dg h (by decide), pw_dg h (by decide), pw_dg h (by decide)]
  rfl
theorem sm_dg {l : List Nat} (h : WOk l) : sm (dg l) 32 = wN l := by rw [← wN_st, st_dg h]

/-! ### Sums, differences, and which is below -/
def addF (x y c : Nat) : Nat := (x + y + c) % 18446744073709551616
def addG (x y c : Nat) : Nat := (x + y + c) / 18446744073709551616
def subF (x y c : Nat) : Nat := (x + 18446744073709551616 - y - c) % 18446744073709551616
def subG (x y c : Nat) : Nat := if x < y + c then 1 else 0
def addR (a b : List Nat) : List Nat × Int := crR addF addG a b
def subR (a b : List Nat) : List Nat × Int := crR subF subG a b
theorem crR_len {F G : Nat → Nat → Nat → Nat} {a b : List Nat} : (crR F G a b).1.length = 4 := by
  unfold crR; split
  · exact crS_len _ _ _ _ _
  · rfl
theorem mapU_one (l : List Nat) : (l.map uV).all oneB = true := by simp [uV, oneB, List.all_map, List.all_eq_true]
theorem addS_num {a b : List Nat} (ha : WOk a) (hb : WOk b) : wN (crS addF addG a b 4).1 + (crS addF addG a b 4).2 * 115792089237316195423570985008687907853269984665640564039457584007913129639936 = wN a + wN b := by
  obtain ⟨a0, a1, a2, a3, rfl, h1, h2, h3, h4⟩ := ha.four
  obtain ⟨b0, b1, b2, b3, rfl, k1, k2, k3, k4⟩ := hb.four
  simp only [crS, zW, List.set_cons_zero, List.set_cons_succ, wN, List.getD_cons_zero, List.getD_cons_succ, addF, addG]
  omega
theorem subG_le (x y c : Nat) : subG x y c ≤ 1 := by unfold subG; split <;> omega
theorem subF_eq {x y c : Nat} (hx : x < 18446744073709551616) (hy : y < 18446744073709551616) (hc : c ≤ 1) : subF x y c + y + c = x + 18446744073709551616 * subG x y c ∧ subF x y c < 18446744073709551616 := by
  unfold subF subG
  split <;> omega
theorem subS_num {a b : List Nat} (ha : WOk a) (hb : WOk b) : wN (crS subF subG a b 4).1 + wN b = wN a + (crS subF subG a b 4).2 * 115792089237316195423570985008687907853269984665640564039457584007913129639936 := by
  obtain ⟨a0, a1, a2, a3, rfl, h1, h2, h3, h4⟩ := ha.four
  obtain ⟨b0, b1, b2, b3, rfl, k1, k2, k3, k4⟩ := hb.four
  simp only [crS, zW, List.set_cons_zero, List.set_cons_succ, wN, List.getD_cons_zero, List.getD_cons_succ]
  have e0 := subF_eq h1 k1 (c := 0) (by omega)
  have c0 := subG_le a0 b0 0
  generalize subF a0 b0 0 = r0 at *
  generalize subG a0 b0 0 = g0 at *
  have e1 := subF_eq h2 k2 (c := g0) c0
  have c1 := subG_le a1 b1 g0
  generalize subF a1 b1 g0 = r1 at *
  generalize subG a1 b1 g0 = g1 at *
  have e2 := subF_eq h3 k3 (c := g1) c1
  have c2 := subG_le a2 b2 g1
  generalize subF a2 b2 g1 = r2 at *
  generalize subG a2 b2 g1 = g2 at *
  have e3 := subF_eq h4 k4 (c := g2) c2
  generalize subF a3 b3 g2 = r3 at *
  generalize subG a3 b3 g2 = g3 at *
  omega
theorem crS_okF {F G : Nat → Nat → Nat → Nat} (hF : ∀ x y c, F x y c < 18446744073709551616) (a b : List Nat) : ∀ i, WOk (crS F G a b i).1
  | 0 => ⟨rfl, by simp [crS, zW]⟩
  | i + 1 => ⟨crS_len F G a b _, fun x hx => by
    rcases List.mem_or_eq_of_mem_set hx with h | h
    · exact (crS_okF hF a b i).2 x h
    · rw [h]; exact hF _ _ _⟩
theorem zW_ok : WOk zW := ⟨rfl, by simp [zW]⟩
theorem addR_ok (a b : List Nat) : WOk (addR a b).1 := by
  unfold addR crR; split
  · exact crS_okF (fun _ _ _ => Nat.mod_lt _ (by decide)) a b 4
  · exact zW_ok
theorem subR_ok (a b : List Nat) : WOk (subR a b).1 := by
  unfold subR crR; split
  · exact crS_okF (fun _ _ _ => Nat.mod_lt _ (by decide)) a b 4
  · exact zW_ok
def big : Nat := 115792089237316195423570985008687907853269984665640564039457584007913129639936
/-- A sum: where it fits, it is the word of that number. -/
theorem addR_fits {a b : List Nat} (ha : WOk a) (hb : WOk b) : if wN a + wN b < big then (addR a b).2 = 0 ∧ wN (addR a b).1 = wN a + wN b else addR a b = (zW, 6) := by
  have h := addS_num ha hb
  have hlt := wN_lt (crS_okF (G := addG) (F := addF) (fun _ _ _ => Nat.mod_lt _ (by decide)) a b 4)
  unfold addR crR big
  split
  · rename_i hs
    have hc : (crS addF addG a b 4).2 = 0 := by omega
    rw [if_pos hc]
    rw [hc] at h
    exact ⟨rfl, by simpa using h⟩
  · rename_i hs
    have hc : (crS addF addG a b 4).2 ≠ 0 := fun hc => by rw [hc] at h; omega
    rw [if_neg hc]
theorem subR_fits {a b : List Nat} (ha : WOk a) (hb : WOk b) : if wN b ≤ wN a then (subR a b).2 = 0 ∧ wN (subR a b).1 + wN b = wN a else subR a b = (zW, 6) := by
  have h := subS_num ha hb
  have hlt := wN_lt (crS_okF (G := subG) (F := subF) (fun _ _ _ => Nat.mod_lt _ (by decide)) a b 4)
  have hb1 := wN_lt hb
  unfold subR crR
  split
  · rename_i hs
    have hc : (crS subF subG a b 4).2 = 0 := by omega
    rw [if_pos hc]
    rw [hc] at h
    exact ⟨rfl, by simpa using h⟩
  · rename_i hs
    have hc : (crS subF subG a b 4).2 ≠ 0 := fun hc => by rw [hc] at h; omega
    rw [if_neg hc]
def lessB (a b : List Nat) : Bool := !decide (a = b) && ((subR a b).2 != 0)
theorem lessB_eq {a b : List Nat} (ha : WOk a) (hb : WOk b) : lessB a b = decide (wN a < wN b) := by
  have h := subR_fits ha hb
  unfold lessB
  by_cases hab : a = b
  · subst hab; simp
  · split at h
    · rename_i hle
      rw [h.1]
      have : ¬ wN a < wN b := by omega
      simp [this]
    · rename_i hle
      rw [h]
      have : wN a < wN b := by omega
      simp [this, hab]
/-- The document's sum, digit by digit. -/
def addC (a b : List Nat) : Nat → Nat
  | 0 => 0
  | i + 1 => (dg a i + dg b i + addC a b i) / 256
def addD (a b : List Nat) (i : Nat) : Nat := (dg a i + dg b i + addC a b i) % 256
theorem addC_le (a b : List Nat) : ∀ i, addC a b i ≤ 1
  | 0 => by simp [addC]
  | i + 1 => by
    have h1 := dg_lt a i; have h2 := dg_lt b i; have h3 := addC_le a b i
    unfold addC; omega
theorem add_sm (a b : List Nat) : ∀ i, sm (addD a b) i + addC a b i * 2 ^ (8 * i) = sm (dg a) i + sm (dg b) i
  | 0 => rfl
  | i + 1 => by
    have ih := add_sm a b i
    have e : 2 ^ (8 * (i + 1)) = 256 * 2 ^ (8 * i) := by rw [Nat.mul_add, Nat.pow_add, Nat.mul_comm]
    rw [e]
    simp only [sm, addC, addD]
    generalize 2 ^ (8 * i) = p at *
    have hm := Nat.div_add_mod (dg a i + dg b i + addC a b i) 256
    generalize (dg a i + dg b i + addC a b i) / 256 = q at *
    generalize (dg a i + dg b i + addC a b i) % 256 = r at *
    have h2 : r * p + q * (256 * p) = (dg a i + dg b i + addC a b i) * p := by
      rw [← hm, Nat.add_mul, Nat.mul_comm 256 q, Nat.mul_assoc]; omega
    rw [Nat.add_mul, Nat.add_mul] at h2
    omega
def refAddR (a b : List Nat) : List Nat × Int := if addC a b 32 = 0 then (stW (addD a b) 32, 0) else (zW, 6)
theorem add_eq {a b : List Nat} (ha : WOk a) (hb : WOk b) : refAddR a b = addR a b := by
  have h := add_sm a b 32
  have hc := addC_le a b 32
  rw [sm_dg ha, sm_dg hb, ← wN_st] at h
  have hok : WOk (stW (addD a b) 32) := stW_ok (fun _ => Nat.mod_lt _ (by decide)) 32
  have hlt := wN_lt hok
  have e : 2 ^ (8 * 32) = big := by decide
  rw [e] at h
  have hf := addR_fits ha hb
  unfold refAddR
  by_cases h0 : addC a b 32 = 0
  · rw [if_pos h0]
    rw [h0] at h
    have : wN a + wN b < big := by unfold big; omega
    rw [if_pos this] at hf
    have he : stW (addD a b) 32 = (addR a b).1 := wN_inj hok (addR_ok a b) (by omega)
    rw [he]; exact Prod.ext rfl hf.1.symm
  · rw [if_neg h0]
    have h1 : addC a b 32 = 1 := by omega
    rw [h1] at h
    have : ¬ wN a + wN b < big := by omega
    rw [if_neg this] at hf
    exact hf.symm
def subC (a b : List Nat) : Nat → Nat
  | 0 => 0
  | i + 1 => if dg a i < dg b i + subC a b i then 1 else 0
def subD (a b : List Nat) (i : Nat) : Nat := dg a i + 256 * subC a b (i + 1) - dg b i - subC a b i
theorem subC_le (a b : List Nat) : ∀ i, subC a b i ≤ 1
  | 0 => by simp [subC]
  | i + 1 => by unfold subC; split <;> omega
theorem subD_lt (a b : List Nat) (i : Nat) : subD a b i < 256 ∧ subD a b i + dg b i + subC a b i = dg a i + 256 * subC a b (i + 1) := by
  have h1 := dg_lt a i; have h2 := dg_lt b i; have h3 := subC_le a b i
  unfold subD
  show _ ∧ _
  simp only [subC]
  split <;> omega
theorem sub_sm (a b : List Nat) : ∀ i, sm (subD a b) i + sm (dg b) i = sm (dg a) i + subC a b i * 2 ^ (8 * i)
  | 0 => rfl
  | i + 1 => by
    have ih := sub_sm a b i
    have e : 2 ^ (8 * (i + 1)) = 256 * 2 ^ (8 * i) := by rw [Nat.mul_add, Nat.pow_add, Nat.mul_comm]
    rw [e]
    have hd := (subD_lt a b i).2
    simp only [sm]
    generalize subC a b (i + 1) = q at *
    generalize 2 ^ (8 * i) = p at *
    have h2 := congrArg (· * p) hd
    simp only [Nat.add_mul] at h2
    have h3 : 256 * q * p = q * (256 * p) := by rw [Nat.mul_comm 256 q, Nat.mul_assoc]
    omega
def refSubR (a b : List Nat) : List Nat × Int := if subC a b 32 = 0 then (stW (subD a b) 32, 0) else (zW, 6)
theorem sub_eq {a b : List Nat} (ha : WOk a) (hb : WOk b) : refSubR a b = subR a b := by
  have h := sub_sm a b 32
  have hc := subC_le a b 32
  rw [sm_dg ha, sm_dg hb, ← wN_st] at h
  have hok : WOk (stW (subD a b) 32) := stW_ok (fun i => (subD_lt a b i).1) 32
  have hlt := wN_lt hok
  have hlb := wN_lt hb
  have e : 2 ^ (8 * 32) = big := by decide
  rw [e] at h
  have hf := subR_fits ha hb
  unfold refSubR
  by_cases h0 : subC a b 32 = 0
  · rw [if_pos h0]
    rw [h0] at h
    have : wN b ≤ wN a := by omega
    rw [if_pos this] at hf
    have he : stW (subD a b) 32 = (subR a b).1 := wN_inj hok (subR_ok a b) (by omega)
    rw [he]; exact Prod.ext rfl hf.1.symm
  · rw [if_neg h0]
    have h1 : subC a b 32 = 1 := by omega
    rw [h1] at h
    have : ¬ wN b ≤ wN a := by unfold big at h; omega
    rw [if_neg this] at hf
    exact hf.symm
theorem sm_top {f g : Nat → Nat} : ∀ {n i : Nat}, i ≤ n → (∀ t, i ≤ t → t < n → f t = g t) → sm f n + sm g i = sm g n + sm f i
  | 0, i, hi, _ => by have : i = 0 := by omega
                      subst this; omega
  | n + 1, i, hi, h => by
    by_cases e : i = n + 1
    · subst e; omega
    · have ih := sm_top (n := n) (i := i) (f := f) (g := g) (by omega) fun t h1 h2 => h t h1 (by omega)
      simp only [sm]
      rw [h n (by omega) (by omega)]
      omega
/-- The first digit that is another one tells. -/
theorem less_at {a b : List Nat} (ha : WOk a) (hb : WOk b) {i : Nat} (hi : i < 32) (h : ∀ t, i + 1 ≤ t → t < 32 → dg a t = dg b t) (hne : dg a i ≠ dg b i) : decide (wN a < wN b) = decide (dg a i < dg b i) := by
  have h1 := sm_top (n := 32) (i := i + 1) (by omega) h
  rw [sm_dg ha, sm_dg hb] at h1
  have ha1 := sm_lt (dg_lt a) i
  have hb1 := sm_lt (dg_lt b) i
  simp only [sm] at h1
  generalize 2 ^ (8 * i) = p at *
  by_cases hlt : dg a i < dg b i
  · have : (dg a i + 1) * p ≤ dg b i * p := Nat.mul_le_mul_right _ hlt
    rw [Nat.add_mul] at this
    rw [decide_eq_true hlt, decide_eq_true_eq]; omega
  · have : (dg b i + 1) * p ≤ dg a i * p := Nat.mul_le_mul_right _ (by omega)
    rw [Nat.add_mul] at this
    rw [decide_eq_false hlt, decide_eq_false_iff_not]; omega
theorem quo_nat {x : Nat} (h : x ≤ 9223372036854775807) : IntKind.i64.wrap (Int.tdiv (x : Int) 256) = ((x / 256 : Nat) : Int) := by
  rw [quo_i64 (by omega) (by decide) (by omega)]; rfl
def smallB (l : List Nat) : Bool := decide (l = [l.getD 0 0, 0, 0, 0])
def smallV (l : List Nat) : Value := .tuple #[uV (if smallB l then l.getD 0 0 else 0), .bool (smallB l)]
def dsOf (f : Nat → Nat) (m : Nat) : List Nat := (List.range m).map f
theorem dsOf_succ (f : Nat → Nat) (m : Nat) : (dsOf f (m + 1)).map iV = (dsOf f m).map iV ++ [.int .i64 ((f m : Nat) : Int)] := by simp [dsOf, List.range_succ, iV]
theorem dsOf_get (f : Nat → Nat) {m i : Nat} (h : i < m) : (dsOf f m).getD i 0 = f i := by
  simp only [dsOf, List.getD_eq_getElem?_getD, List.getElem?_map, List.getElem?_range h, Option.map_some, Option.getD_some]
theorem dsOf_lt {f : Nat → Nat} (hf : ∀ i, f i < 256) (m i : Nat) : (dsOf f m).getD i 0 < 256 := by
  by_cases h : i < m
  · rw [dsOf_get f h]; exact hf i
  · rw [List.getD_eq_getElem?_getD, List.getElem?_eq_none (by simp [dsOf]; omega)]; decide
theorem dsOf_st (f : Nat → Nat) : stW (fun t => (dsOf f 32).getD t 0) 32 = stW f 32 := stW_congr fun i h => dsOf_get f h
theorem same_digits {a b : List Nat} (ha : WOk a) (hb : WOk b) (h : ∀ t, t < 32 → dg a t = dg b t) : a = b := by
  rw [← st_dg ha, ← st_dg hb]; exact stW_congr h
end Go.SL
