import Derived.Test.YteceenlfegnigaaGreatDoorZtTellsb
import Derived.Lib.Overlaps
import Derived.Lib.AppendZerosOnto
import Derived.Laws.StructEq
set_option maxRecDepth 100000
namespace Go.Proofs.YteceenlfegnigaaGreatDoor
set_option linter.all false
open Go.SL Go.RowKit Go.Shelf
def wb (s : List UInt8) : Nat × Int := if s.length < 1 ∨ s.length > 8 then (0, 2) else (W7 s, 0)
def Jwz (p : Nat × Int) : Value := .tuple #[uV p.1, .int .i64 p.2]
theorem Jmb {s : List UInt8} {i : Nat} (h : i < s.length) : W7 (s.take (i + 1)) = W7 (s.take i) + (s.getD i 0).toNat * 2 ^ (8 * i) := by
  rw [List.take_succ, List.getElem?_eq_getElem h]; simp only [Option.toList_some]; rw [Ja8, List.length_take, Nat.min_eq_left (by omega), show (256 : Nat) = 2 ^ 8 from rfl, ← Nat.pow_mul, List.getD_eq_getElem?_getD, List.getElem?_eq_getElem h]; rfl
theorem q9 {s : List UInt8} {i : Nat} (h : i ≤ s.length) : W7 (s.take i) < 2 ^ (8 * i) := by
  have := Jea (s.take i)
  rw [List.length_take, Nat.min_eq_left h, show (256 : Nat) = 2 ^ 8 from rfl, ← Nat.pow_mul] at this; exact this
theorem Jw0 {i : Nat} (h : i ≤ 8) : 2 ^ (8 * i) ≤ 18446744073709551616 := Nat.pow_le_pow_right (n := 2) (by decide) (by omega : 8 * i ≤ 64)
theorem Jep (s : List UInt8) : Pure Tryz.prog 246 [.string (bs s)].toArray (Jwz (wb s)) := by
  refine JC Tryz.func246 rfl rfl fun w => ?_; refine sR fun _ hK1 => LS 2 [] rfl rfl (nK hK1 ?_); refine sQ fun _ hK2 => sR fun _ hK3 => ?_; refine Ji rfl (LR rfl (QT rfl rfl) (Ji rfl ?_))
  refine JA 8 rfl (fun hb4 => ?_) (fun hb4 => ?_) <;> (try simp only [ZZ] at hb4) <;> first | (refine Ji rfl ?_) | (refine LK rfl ?_)
  all_goals first
    | (refine LR rfl (JT rfl rfl) ?_)
    | (refine LK rfl ?_)
  all_goals refine LW 2 [] rfl rfl ?_
  all_goals refine Jg ?_
  all_goals (
   refine hK3 ?_; refine Jc rfl (fun h7 => ?_) (fun h7 => ?_)
   try simp only [ZZ] at h7
   refine sR fun _ hK8 => LS 2 [] rfl rfl (nK hK8 ?_); refine Jb (Jd ?_); refine Jv rfl rfl (.cons (J4 rfl) (.cons (J4 rfl) .nil)) (fun w1 hs1 => ?_); refine ⟨?_, hs1.keep⟩
   rw [show wb s = (0, 2) from by unfold wb; rw [if_pos (by first | omega | (left; rw [‹s = []›]; decide))]]; rfl
   · try exact Bool.noConfusion h7
     all_goals try simp only [ZZ] at h7
     all_goals (
      refine Jf (hK2 ?_); refine sQ fun _ hK9 => ?_
      have hl : 1 ≤ s.length ∧ s.length ≤ 8 := by
        have : s ≠ [] := by assumption
        have := List.length_pos_iff.2 this
        omega
      have hur : wb s = (W7 s, 0) := by unfold wb; rw [if_neg (by omega)]
      refine Ja (Ji rfl ?_); refine nK hK9 (sQ fun _ hK10 => ?_); refine sR fun _ hK11 => Ji rfl (LR rfl (JT rfl rfl) (Ji rfl ?_)); refine nK hK11 ?_; refine Ju (JG (σ := Nat) (fun i => i ≤ s.length) (fun i => [(0, .string (bs s)), (4, uV (W7 (s.take i))), (14, .int .i64 (s.length : Nat)), (15, .int .i64 (i : Int))]) (fun i => []) (fun _ _ _ => True) (fun i => s.length - i) 0 (Nat.zero_le _) (.cons rfl (.cons rfl (.cons rfl (.cons rfl .nil)))) (List.nil_sublist _) (fun _ _ h => h) ?_); intro i hi; refine sR fun _ hK12 => JZ rfl (nK hK12 ?_); refine sQ fun _ hK13 => ?_; refine Jc rfl (fun h14 => ?_) (fun h14 => ?_)
      try simp only [ZZ] at h14
      refine Jf (hK13 ?_); refine sB fun _ hK15 => sR fun _ hK16 => ?_; refine LS 2 [] rfl rfl (nK hK16 ?_); refine Ja (LS 3 [] rfl rfl (LR rfl (Wq (j := i) rfl rfl rfl rfl (by omega) rfl) ?_)); refine JZ rfl ?_; refine Jy (show _ = uV (s.getD i 0).toNat from congrArg (Value.int .u64) (wrap_u64 (by omega) (by have := Vu (s.getD i 0); omega))) ?_; refine LS 2 [] rfl rfl ?_; refine Jy (show _ = Value.int .i64 ((8 * i : Nat) : Int) from congrArg (Value.int .i64) (by rw [wrap_i64 (by omega) (by omega)]; omega)) ?_; refine LR rfl (yz (n := 8 * i) rfl rfl rfl (show _ ≤ 64 from by omega) (zO (vQ (Vu _) (by omega)))) ?_; refine LR rfl (V0 (op := .or) (b := ((W7 (s.take (i + 1)) : Nat) : Int)) rfl rfl rfl (Nat.lt_of_lt_of_le (q9 (by omega)) (Jw0 (by omega))) (vQ (Vu _) (by omega)) (congrArg (fun z : Nat => (z : Int)) (by rw [Jmb (by omega)]; exact Jk2 (q9 (by omega))))) ?_; refine Ji rfl (Jg ?_); refine Jj (hK15 ?_); refine Ja (JZ rfl (Jt (by omega) (by omega) ?_)); refine Ji rfl (Jg (J5 ?_)); exact J1 (i + 1) (by omega) (by omega) (.cons rfl (.cons rfl (.cons rfl (.cons rfl .nil)))) (List.nil_sublist _) (fun _ _ h => h)
      try simp only [ZZ] at h14
      refine JE (Jl ?_); refine Jl (J0 (hK10 ?_)); refine sQ fun _ hK17 => ?_
      have hik : s.length = i := by omega
      have htk : s.take i = s := by rw [← hik, List.take_length]
      refine Ja (LS 3 [] rfl rfl ?_); refine nK hK17 (Jb ?_); refine Jv rfl rfl (.cons (J4 rfl) (.cons (J4 rfl) .nil)) (fun w1 hs1 => ?_); refine ⟨?_, hs1.keep⟩; rw [htk, hur]; rfl
      skip)
   skip)
end Go.Proofs.YteceenlfegnigaaGreatDoor
namespace Go.SL
set_option linter.all false
open Go Go.RowKit Go.Shelf
theorem Jgi {f : Nat → Nat} (hf : ∀ i, f i < 256) {i : Nat} (hi : i < 32) : dg (ZT f 32) i = f i := by
  have h : ZT (dg (ZT f 32)) 32 = ZT f 32 := Jtj (Jd9 hf 32)
  have h2 : sm (dg (ZT f 32)) 32 = sm f 32 := by rw [← Jti, h, Jti]
  have key : ∀ n, ∀ g h : Nat → Nat, (∀ i, g i < 256) → (∀ i, h i < 256) → sm g n = sm h n → ∀ i, i < n → g i = h i := by
    intro n
    induction n with
    | zero => intro _ _ _ _ _ i hi; omega
    | succ n ih =>
      intro g h hg hh e i hi
      simp only [sm] at e
      have g1 := Jk6 hg n
      have h1 := Jk6 hh n
      have hp : 0 < 2 ^ (8 * n) := Nat.two_pow_pos _
      have et : g n = h n := by
        have a1 : (sm g n + g n * 2 ^ (8 * n)) / 2 ^ (8 * n) = g n := by rw [Nat.add_mul_div_right _ _ hp, Nat.div_eq_of_lt g1, Nat.zero_add]
        have a2 : (sm h n + h n * 2 ^ (8 * n)) / 2 ^ (8 * n) = h n := by rw [Nat.add_mul_div_right _ _ hp, Nat.div_eq_of_lt h1, Nat.zero_add]
        rw [← a1, ← a2, e]
      by_cases hin : i = n
      · subst hin; exact et
      · exact ih g h hg hh (by rw [et] at e; omega) i (by omega)
  exact key 32 _ _ (fun i => Jkz _ _) hf h2 i hi
theorem Jq8 {s : List UInt8} (hs : s.length = 32) : Zm (yn s) 32 = s := by
  apply List.ext_getElem?
  intro m
  by_cases hm : m < 32
  · rw [zN _ hm]
    unfold yn
    rw [Jgi (fun _ => Vu _) (by omega), UInt8.ofNat_toNat, List.getD_eq_getElem?_getD]
    rw [show 31 - (32 - 1 - m) = m from by omega, List.getElem?_eq_getElem (by omega)]; rfl
  · rw [List.getElem?_eq_none (by rw [VO]; omega), List.getElem?_eq_none (by omega)]
def leW (w : List Nat) (n : Nat) : List UInt8 := (Zm w 32).reverse.take n
theorem xo (w : List Nat) {n : Nat} (h : n ≤ 32) : (leW w n).length = n := by
  unfold leW; rw [List.length_take, List.length_reverse, VO]; omega
def ZC (s : List UInt8) : List UInt8 := s ++ List.replicate (32 - s.length) 0
def XO (s : List UInt8) : List Nat := yn (ZC s).reverse
theorem WD {s : List UInt8} (h : s.length ≤ 32) : (ZC s).length = 32 := by unfold ZC; rw [List.length_append, List.length_replicate]; omega
theorem xq (s : List UInt8) : WOk (XO s) := Jfy _
theorem Ju3 {s : List UInt8} (h : s.length ≤ 32) : leW (XO s) s.length = s := by
  unfold leW XO
  rw [Jq8 (by rw [List.length_reverse, WD h]), List.reverse_reverse]
  unfold ZC
  rw [List.take_left' rfl]
theorem Jmc {s : List UInt8} (h : s.length ≤ 32) {t : Nat} (h1 : s.length ≤ t) (h2 : t < 32) : dg (XO s) t = 0 := by
  unfold XO yn
  rw [Jgi (fun _ => Vu _) h2, List.getD_eq_getElem?_getD, List.getElem?_reverse (by rw [WD h]; omega), WD h]
  unfold ZC
  rw [show 32 - 1 - (31 - t) = t by omega, List.getElem?_append_right h1, List.getElem?_replicate]
  rw [if_pos (by omega)]; rfl
def KP (l : List Bool) (N : Nat) : Nat → List UInt8
  | 0 => List.replicate N 0
  | i + 1 => if l.getD i false = true then (KP l N i).set (i / 8) (UInt8.ofNat (((KP l N i).getD (i / 8) 0).toNat ||| 2 ^ (i % 8))) else KP l N i
theorem Vr (l : List Bool) (N : Nat) : ∀ i, (KP l N i).length = N
  | 0 => by rw [KP, List.length_replicate]
  | i + 1 => by
    rw [KP]
    split
    · rw [List.length_set, Vr l N i]
    · exact Vr l N i
theorem Jtn {x m : Nat} (hx : x < 256) (hm : m < 8) : x ||| 2 ^ m < 256 := Nat.or_lt_two_pow (n := 8) hx (Nat.pow_lt_pow_right (by decide) hm)
theorem yJ (l : List Bool) (N : Nat) : ∀ (i q j : Nat), i ≤ 8 * N → q < N → j < 8 → ((KP l N i).getD q 0).toNat.testBit j = (decide (8 * q + j < i) && l.getD (8 * q + j) false)
  | 0, q, j, _, hq, hj => by
    rw [KP, List.getD_eq_getElem?_getD, List.getElem?_replicate, if_pos hq]
    simp
  | i + 1, q, j, hi, hq, hj => by
    have ih := yJ l N i q j (by omega) hq hj
    rw [KP]
    split
    · rename_i hl
      rw [List.getD_eq_getElem?_getD, List.getElem?_set, Vr]
      by_cases hqi : i / 8 = q
      · subst hqi
        rw [if_pos rfl, if_pos (by omega)]
        show (UInt8.ofNat _).toNat.testBit j = _
        rw [UInt8.toNat_ofNat', Nat.mod_eq_of_lt (Jtn (Vu _) (Nat.mod_lt _ (by decide))), Nat.testBit_or, ih, Nat.testBit_two_pow]
        by_cases hij : i % 8 = j
        · have e : 8 * (i / 8) + j = i := by omega
          rw [e, hl, decide_eq_true hij, decide_eq_true (Nat.lt_succ_self i)]
          simp
        · rw [decide_eq_false hij, Bool.or_false]
          congr 1
          rw [decide_eq_decide]; omega
      · rw [if_neg hqi, ← List.getD_eq_getElem?_getD, ih]
        congr 1
        rw [decide_eq_decide]; omega
    · rename_i hl
      rw [ih]
      by_cases hij : 8 * q + j = i
      · rw [hij, decide_eq_false (Nat.lt_irrefl i), decide_eq_true (Nat.lt_succ_self i)]
        simp at hl ⊢; exact hl
      · congr 1
        rw [decide_eq_decide]; omega
def VB (l : List Bool) : List UInt8 := KP l ((l.length + 7) / 8) l.length
theorem Xc (l : List Bool) : (VB l).length = (l.length + 7) / 8 := Vr _ _ _
theorem Jio (l : List Bool) {q j : Nat} (hq : q < (l.length + 7) / 8) (hj : j < 8) : ((VB l).getD q 0).toNat.testBit j = l.getD (8 * q + j) false := by
  unfold VB
  rw [yJ l _ _ q j (by omega) hq hj]
  by_cases h : 8 * q + j < l.length
  · rw [decide_eq_true h, Bool.true_and]
  · rw [decide_eq_false h, Bool.false_and, List.getD_eq_getElem?_getD, List.getElem?_eq_none (by omega)]; rfl
def QW (s : List UInt8) (i : Nat) : Bool := (s.getD (i / 8) 0).toNat.testBit (i % 8)
def JM (s : List UInt8) (n : Nat) : List Bool := (List.range n).map (QW s)
theorem Ko (s : List UInt8) (n : Nat) : (JM s n).length = n := by unfold JM; rw [List.length_map, List.length_range]
theorem Va (s : List UInt8) {n i : Nat} (h : i < n) : (JM s n)[i]? = some (QW s i) := by
  unfold JM; rw [List.getElem?_map, List.getElem?_range h]; rfl
theorem Jgj {a b : UInt8} (h : ∀ j, j < 8 → a.toNat.testBit j = b.toNat.testBit j) : a = b := by
  apply UInt8.toNat_inj.1
  apply Nat.eq_of_testBit_eq
  intro j
  by_cases hj : j < 8
  · exact h j hj
  · rw [Nat.testBit_lt_two_pow (Nat.lt_of_lt_of_le (Vu a) (Nat.pow_le_pow_right (n := 2) (i := 8) (by decide) (by omega))), Nat.testBit_lt_two_pow (Nat.lt_of_lt_of_le (Vu b) (Nat.pow_le_pow_right (n := 2) (i := 8) (by decide) (by omega)))]
theorem qA {s : List UInt8} {n : Nat} (h : s.length = (n + 7) / 8) (hz : ∀ i, n ≤ i → i < 8 * s.length → QW s i = false) : VB (JM s n) = s := by
  apply List.ext_getElem?
  intro q
  by_cases hq : q < s.length
  · have hl : q < ((JM s n).length + 7) / 8 := by rw [Ko]; omega
    have h1 : q < (VB (JM s n)).length := by rw [Xc]; exact hl
    rw [List.getElem?_eq_getElem h1, List.getElem?_eq_getElem hq]
    congr 1
    refine Jgj fun j hj => ?_
    have e1 : (VB (JM s n))[q] = (VB (JM s n)).getD q 0 := by rw [List.getD_eq_getElem?_getD, List.getElem?_eq_getElem h1]; rfl
    have e2 : s[q] = s.getD q 0 := by rw [List.getD_eq_getElem?_getD, List.getElem?_eq_getElem hq]; rfl
    rw [e1, Jio _ hl hj, e2]
    have hb : QW s (8 * q + j) = (s.getD q 0).toNat.testBit j := by
      unfold QW
      rw [show (8 * q + j) / 8 = q by omega, show (8 * q + j) % 8 = j by omega]
    rw [← hb, List.getD_eq_getElem?_getD]
    by_cases hn : 8 * q + j < n
    · rw [Va _ hn]; rfl
    · rw [List.getElem?_eq_none (by rw [Ko]; omega), hz (8 * q + j) (by omega) (by omega)]; rfl
  · rw [List.getElem?_eq_none (by rw [Xc, Ko]; omega), List.getElem?_eq_none (by omega)]
end Go.SL
namespace Go.Proofs.YteceenlfegnigaaGreatDoor
set_option linter.all false
open Go.SL Go.RowKit Go.Shelf
mutual
def wV : Vl → Nat
  | .mk _ _ _ _ bits _ items _ _ => 1 + bits.length / 8 + wL items
def wL : List Vl → Nat
  | [] => 0
  | x :: xs => wV x + wL xs
end
def Yx (head : Nat) : List (Ty × List UInt8) → List UInt8 → List UInt8 → List UInt8
  | [], f, th => f ++ th
  | (x, s) :: l, f, th => if JJ x then Yx head l (f ++ s) th else Yx head l (f ++ (yI (head + th.length) 4).1) (th ++ s)
def WE (x : Ty) : Int := if JJ x then JV x else 4
def Kf : List Ty → Int
  | [] => 0
  | x :: l => WE x + Kf l
mutual
def Vt : Vl → Ty → List UInt8
  | .mk a b c d bits _ items _ pick, t =>
    if t.k = 1 then leW [a, b, c, d] t.n.toNat else if t.k = 2 then leW [a, b, c, d] 1 else if t.k = 5 then VB bits else if t.k = 6 then VB (bits ++ [true])
    else if t.k = 8 then UInt8.ofNat pick.toNat :: ((Qa items t.k pick t.ins 0).headD (default, [])).2
    else Yx (Kf ((Qa items t.k pick t.ins 0).map Prod.fst)).toNat (Qa items t.k pick t.ins 0) [] []
def Qa : List Vl → Int → Int → List Ty → Nat → List (Ty × List UInt8)
  | [], _, _, _, _ => []
  | x :: xs, k, pick, ins, i => (JK k pick ins i, Vt x (JK k pick ins i)) :: Qa xs k pick ins (i + 1)
end
theorem Jbv (n : Nat) : (yI n 4).1.length ≤ 4 := by
  unfold yI
  split
  · exact Nat.zero_le _
  · rw [VP]; decide
theorem wc (head : Nat) : ∀ (l : List (Ty × List UInt8)) (f th : List UInt8), (Yx head l f th).length ≤ f.length + th.length + (l.map fun p => p.2.length + 4).sum
  | [], f, th => by rw [Yx, List.length_append]; simp
  | (x, s) :: l, f, th => by
    rw [Yx, List.map_cons, List.sum_cons]
    have h4 := Jbv (head + th.length)
    split
    · have := wc head l (f ++ s) th
      rw [List.length_append] at this
      simp only
      omega
    · have := wc head l (f ++ (yI (head + th.length) 4).1) (th ++ s)
      rw [List.length_append, List.length_append] at this
      simp only
      omega
theorem wd (v : Vl) : ∀ t : Ty, (Vt v t).length + 4 ≤ 40 * wV v := by
  induction v using Vl.ind with
  | h a b c d bits pb items pi pick ih =>
    intro t
    have key : ∀ (l : List Vl) (i : Nat), (∀ x ∈ l, x ∈ items) → ((Qa l t.k pick t.ins i).map fun p => p.2.length + 4).sum ≤ 40 * wL l := by
      intro l
      induction l with
      | nil => intro i _; rw [Qa, wL]; exact Nat.zero_le _
      | cons x xs ihl =>
        intro i hs; rw [Qa, wL, List.map_cons, List.sum_cons]
        have h1 := ih x (hs x List.mem_cons_self) (JK t.k pick t.ins i)
        have h2 := ihl (i + 1) fun y hy => hs y (List.mem_cons_of_mem _ hy)
        simp only at h1 ⊢; omega
    have hk := key items 0 fun _ h => h
    have hle : ∀ n, (leW [a, b, c, d] n).length ≤ 32 := fun n => by unfold leW; rw [List.length_take, List.length_reverse, VO]; omega
    rw [Vt, wV]
    split
    · have := hle t.n.toNat; omega
    · split
      · have := hle 1; omega
      · split
        · rw [Xc]; omega
        · split
          · rw [Xc, List.length_append]; simp only [List.length_cons, List.length_nil]; omega
          · split
            · rw [List.length_cons]
              cases items with
              | nil => rw [Qa]; simp only [List.headD_nil, List.length_nil]; omega
              | cons x xs =>
                rw [Qa, List.headD_cons]
                have h1 := ih x List.mem_cons_self (JK t.k pick t.ins 0)
                rw [wL]
                simp only
                omega
            · have h1 := wc (Kf ((Qa items t.k pick t.ins 0).map Prod.fst)).toNat (Qa items t.k pick t.ins 0) [] []
              simp only [List.length_nil] at h1; omega
def jt (t : Ty) (v : Vl) : List UInt8 × Int := if Vv t v ≠ 0 then ([], Vv t v) else if (Vt v t).length > 65536 then ([], 5) else (Vt v t, 0)
end Go.Proofs.YteceenlfegnigaaGreatDoor
namespace Go.SL
set_option linter.all false
open Go
def SOk (n : Nat) (a : List Nat) : Prop := a.length = n ∧ ∀ x ∈ a, x < 18446744073709551616
theorem SOk.get {n : Nat} {a : List Nat} (h : SOk n a) (j : Nat) : a.getD j 0 < 18446744073709551616 := by
  by_cases hj : j < a.length
  · have : a.getD j 0 ∈ a := by simp [List.getD_eq_getElem?_getD, hj]
    exact h.2 _ this
  · rw [List.getD_eq_getElem?_getD, List.getElem?_eq_none (by omega)]; decide
theorem SOk.set {n : Nat} {a : List Nat} (h : SOk n a) (j : Nat) {x : Nat} (hx : x < 18446744073709551616) : SOk n (a.set j x) :=
  ⟨by rw [List.length_set, h.1], fun y hy => (List.mem_or_eq_of_mem_set hy).elim (h.2 y) fun e => e ▸ hx⟩
def Jbw (n k : Nat) : Nat := n * 2 ^ (k % 64) % 18446744073709551616 ||| n / 2 ^ (64 - k % 64)
theorem Jq9 {a b : Nat} (ha : a < 18446744073709551616) (hb : b < 18446744073709551616) : a ||| b < 18446744073709551616 := Nat.or_lt_two_pow (n := 64) ha hb
theorem WF {a b : Nat} (ha : a < 18446744073709551616) (hb : b < 18446744073709551616) : a ^^^ b < 18446744073709551616 := Nat.xor_lt_two_pow (n := 64) ha hb
theorem Jbx {a b : Nat} (hb : b < 18446744073709551616) : a &&& b < 18446744073709551616 := Nat.lt_of_le_of_lt Nat.and_le_right hb
theorem vl {n : Nat} (hn : n < 18446744073709551616) (k : Nat) : Jbw n k < 18446744073709551616 :=
  Jq9 (Nat.mod_lt _ (by decide)) (Nat.lt_of_le_of_lt (Nat.div_le_self _ _) hn)
def cS (a : List Nat) : Nat → List Nat
  | 0 => [0, 0, 0, 0, 0]
  | i + 1 => (cS a i).set (i % 5) ((cS a i).getD (i % 5) 0 ^^^ a.getD i 0)
theorem Jby {a : List Nat} (h : SOk 25 a) : ∀ i, SOk 5 (cS a i)
  | 0 => ⟨rfl, by simp [cS]⟩
  | i + 1 => (Jby h i).set _ (WF ((Jby h i).get _) (h.get _))
def mS (c a : List Nat) : Nat → List Nat
  | 0 => a
  | i + 1 => (mS c a i).set i ((mS c a i).getD i 0 ^^^ (c.getD ((i % 5 + 5 - 1) % 5) 0 ^^^ Jbw (c.getD ((i % 5 + 1) % 5) 0) 1))
theorem Jgk {c a : List Nat} (hc : SOk 5 c) (h : SOk 25 a) : ∀ i, SOk 25 (mS c a i)
  | 0 => h
  | i + 1 => (Jgk hc h i).set _ (WF ((Jgk hc h i).get _) (WF (hc.get _) (vl (hc.get _) 1)))
def Jip (a : List Nat) : List Nat := mS (cS a 25) a 25
theorem xr {a : List Nat} (h : SOk 25 a) : SOk 25 (Jip a) := Jgk (Jby h 25) h 25
def z25 : List Nat := [0, 0, 0, 0, 0, 0, 0, 0, 0, 0, 0, 0, 0, 0, 0, 0, 0, 0, 0, 0, 0, 0, 0, 0, 0]
theorem Jmd : SOk 25 z25 := ⟨rfl, by simp [z25]⟩
def rS (a b : List Nat) : Nat → List Nat
  | 0 => z25
  | i + 1 => (rS a b i).set (i / 5 + 5 * ((2 * (i % 5) + 3 * (i / 5)) % 5)) (Jbw (a.getD i 0) (b.getD i 0))
theorem Jbz {a : List Nat} (b : List Nat) (h : SOk 25 a) : ∀ i, SOk 25 (rS a b i)
  | 0 => Jmd
  | i + 1 => (Jbz b h i).set _ (vl (h.get _) _)
def Ju4 (b : List Nat) (i : Nat) : Nat := b.getD i 0 ^^^ ((18446744073709551615 ^^^ b.getD (i - i % 5 + (i % 5 + 1) % 5) 0) &&& b.getD (i - i % 5 + (i % 5 + 2) % 5) 0)
theorem Jra {b : List Nat} (h : SOk 25 b) (i : Nat) : Ju4 b i < 18446744073709551616 := WF (h.get _) (Jbx (h.get _))
def xS (b a : List Nat) : Nat → List Nat
  | 0 => a
  | i + 1 => (xS b a i).set i (Ju4 b i)
theorem Jgl {b a : List Nat} (hb : SOk 25 b) (h : SOk 25 a) : ∀ i, SOk 25 (xS b a i)
  | 0 => h
  | i + 1 => (Jgl hb h i).set _ (Jra hb _)
def Jgm (a : List Nat) (n : Nat) : List Nat := a.set 0 (a.getD 0 0 ^^^ n)
def we (by_ a : List Nat) (n : Nat) : List Nat := Jgm (xS (rS (Jip a) by_ 25) (Jip a) 25) n
theorem Jme {a : List Nat} (h : SOk 25 a) {n : Nat} (hn : n < 18446744073709551616) : SOk 25 (Jgm a n) := h.set _ (WF (h.get _) hn)
theorem Jiq {a : List Nat} (by_ : List Nat) (h : SOk 25 a) {n : Nat} (hn : n < 18446744073709551616) : SOk 25 (we by_ a n) :=
  Jme (Jgl (Jbz by_ (xr h) 25) (xr h) 25) hn
def turnsL : List Nat := [0, 1, 62, 28, 27, 36, 44, 6, 55, 20, 3, 10, 43, 25, 39, 41, 45, 15, 21, 8, 18, 2, 61, 56, 14]
def numsL : List Nat := [0x0000000000000001, 0x0000000000008082, 0x800000000000808A, 0x8000000080008000, 0x000000000000808B, 0x0000000080000001,
  0x8000000080008081, 0x8000000000008009, 0x000000000000008A, 0x0000000000000088, 0x0000000080008009, 0x000000008000000A,
  0x000000008000808B, 0x800000000000008B, 0x8000000000008089, 0x8000000000008003, 0x8000000000008002, 0x8000000000000080,
  0x000000000000800A, 0x800000008000000A, 0x8000000080008081, 0x8000000000008080, 0x0000000080000001, 0x8000000080008008]
theorem numsL_ok : SOk 24 numsL := ⟨rfl, by decide +kernel⟩
def ju (a : List Nat) : Nat → List Nat
  | 0 => a
  | i + 1 => we turnsL (ju a i) (numsL.getD i 0)
theorem Yc {a : List Nat} (h : SOk 25 a) : ∀ i, SOk 25 (ju a i)
  | 0 => h
  | i + 1 => Jiq turnsL (Yc h i) (numsL_ok.get i)
def yK (a : List Nat) : List Nat := ju a 24
theorem Jb0 {a : List Nat} (h : SOk 25 a) : SOk 25 (yK a) := by unfold yK; exact Yc h 24
def abS (a : List Nat) (s : List UInt8) : Nat → List Nat
  | 0 => a
  | i + 1 => (abS a s i).set (i / 8) ((abS a s i).getD (i / 8) 0 ^^^ (s.getD i 0).toNat * 2 ^ (i % 8 * 8))
theorem xt {a : List Nat} (s : List UInt8) (h : SOk 25 a) : ∀ i, SOk 25 (abS a s i)
  | 0 => h
  | i + 1 => (xt s h i).set _ (WF ((xt s h i).get _) (vQ (Vu _) (by omega)))
def Jb1 (t : List UInt8) : Nat → List Nat
  | 0 => z25
  | j + 1 => yK (abS (Jb1 t j) (t.drop (136 * j)) 136)
theorem xu (t : List UInt8) : ∀ j, SOk 25 (Jb1 t j)
  | 0 => Jmd
  | j + 1 => by unfold Jb1; exact Jb0 (xt _ (xu t j) 136)
def qR (n : Nat) : List UInt8 := if 136 - n % 136 = 1 then [129] else 1 :: (List.replicate (134 - n % 136) 0 ++ [128])
theorem jv (n : Nat) : (qR n).length = 136 - n % 136 := by
  unfold qR; split
  · simp; omega
  · simp; omega
def jw (a : List Nat) : Nat → List UInt8
  | 0 => []
  | i + 1 => jw a i ++ [UInt8.ofNat (a.getD (i / 8) 0 / 2 ^ (i % 8 * 8) % 256)]
theorem WG (a : List Nat) : ∀ i, (jw a i).length = i
  | 0 => rfl
  | i + 1 => by simp [jw, WG a i]
def WM (s : List UInt8) : List UInt8 := jw (Jb1 (s ++ qR s.length) ((s ++ qR s.length).length / 136)) 32
theorem Zs (s : List UInt8) : (WM s).length = 32 := WG _ _
theorem Jeq (s : List UInt8) : (s ++ qR s.length).length % 136 = 0 := by rw [List.length_append, jv]; omega
end Go.SL
namespace Go.Proofs.YteceenlfegnigaaGreatDoor
set_option linter.all false
open Go.SL Go.RowKit Go.Shelf
theorem Jto {n k : Nat} (hn : n < 18446744073709551616) (hk : k < 9223372036854775808) : Pure Tryz.prog 274 [uV n, .int .i64 (k : Int)].toArray (uV (Jbw n k)) := by
  refine JC Tryz.func274 rfl rfl fun w => ?_
  have hk6 : k % 64 < 64 := Nat.mod_lt _ (by decide)
  refine sR fun _ hK1 => Ji rfl (nK hK1 ?_); refine sR fun _ hK2 => LS 2 [] rfl rfl ?_; refine Jy (show _ = uV k from congrArg (Value.int .u64) (wrap_u64 (by omega) (by omega))) ?_; refine LR rfl (V0 (op := .and) (b := ((k % 64 : Nat) : Int)) rfl rfl rfl (by omega) (by decide) (congrArg (fun z : Nat => (z : Int)) (Nat.and_two_pow_sub_one_eq_mod k 6))) ?_; refine Ji rfl (nK hK2 ?_); refine sR fun _ hK3 => LS 2 [] rfl rfl ?_; refine LR rfl (yz (n := k % 64) (b := ((n * 2 ^ (k % 64) % 18446744073709551616 : Nat) : Int)) rfl rfl rfl (show _ ≤ 64 from by omega) (Jws _)) ?_; refine LS 3 [] rfl rfl ?_; refine Jy (show _ = uV (64 - k % 64) from congrArg (Value.int .u64) (by rw [wrap_u64 (by omega) (by omega)]; omega)) ?_; refine LR rfl (vL (n := 64 - k % 64) rfl rfl rfl (show _ ≤ 64 from by omega) (by omega) (ve _ _)) ?_; refine LR rfl (V0 (op := .or) (b := ((Jbw n k : Nat) : Int)) rfl rfl rfl (Nat.mod_lt _ (by decide)) (Nat.lt_of_le_of_lt (Nat.div_le_self _ _) hn) rfl) ?_; refine Ji rfl (nK hK3 ?_); refine Jb (pT rfl rfl rfl fun w1 hs1 => ?_); exact ⟨rfl, hs1.keep⟩
theorem xv : Pure Tryz.prog 273 [].toArray (.func (.func 282) #[] #[]) := by
  refine JC Tryz.func273 rfl rfl fun w => ?_; refine sR fun _ hK1 => Ji rfl (nK hK1 ?_); refine sR fun _ hK2 => Ji rfl (nK hK2 ?_); refine Jb (pT rfl rfl rfl fun w1 hs1 => ?_); exact ⟨rfl, hs1.keep⟩
def Jmg (i : Nat) : List Value := [.int .i64 (i : Int), .agg [.int .i64 ((i % 5 : Nat) : Int), .int .i64 ((i / 5 : Nat) : Int)].toArray]
theorem xw : zz Tryz.prog 282 [] [] 0 (nxN Jmg 25) (Jd3 25) := by
  refine Wp Tryz.func282 rfl rfl fun q xids w2 XI XF hY => ?_; refine sR fun _ hK1 => Ji rfl (nK hK1 ?_); refine Ju (JG (σ := Nat) (fun i => i ≤ 25) (fun i => [(0, .func (.yield q) #[] #[]), (3, .int .i64 (i : Int))]) (fun _ => []) (fun i => XI i) (fun i => 25 - i) 0 (Nat.zero_le _) (.cons rfl (.cons rfl .nil)) (List.nil_sublist _) (fun _ _ h => h) ?_); intro i hi; refine sR fun _ hK2 => JZ rfl (nK hK2 ?_); refine sQ fun _ hK3 => ?_; refine Jc rfl (fun h4 => ?_) (fun h4 => ?_)
  · try simp only [ZZ] at h4
    refine Jf (hK3 ?_); refine sB fun _ hK5 => sR fun _ hK6 => ?_; refine LS 2 [] rfl rfl (nK hK6 ?_); refine sR fun _ hK7 => LS 4 [] rfl rfl ?_; refine Jy (show _ = Value.int .i64 ((i % 5 : Nat) : Int) from congrArg (Value.int .i64) (W0 _ 5)) ?_; refine LS 2 [] rfl rfl ?_; refine Jy (show _ = Value.int .i64 ((i / 5 : Nat) : Int) from congrArg (Value.int .i64) (by rw [QM (by omega) (by omega) (by omega)]; omega)) ?_; refine LR rfl (JI (r := [_, _]) rfl rfl) ?_; refine W5 (XT := XI (i + 1)) (XF := XF) rfl rfl rfl rfl (hY i (Jmg i) (i + 1) ⟨by omega, rfl, rfl⟩) ?_ ?_
    all_goals refine JZ rfl ?_
    all_goals refine Jg ?_
    all_goals (
     refine hK7 ?_; refine Jc rfl (fun h8 => ?_) (fun h8 => ?_)
     · try exact Bool.noConfusion h8
       all_goals try simp only [ZZ] at h8
       all_goals (
        refine Jb (Jn (Jd ?_)); refine Jd (Jn ?_); refine Jv rfl rfl .nil (fun w1 hs1 => ?_)
        obtain ⟨xs1, hx1⟩ := hs1.now
        exact ⟨⟨_, rfl⟩, hs1.keep, .inr ⟨_, hx1⟩⟩
        skip)
     · try exact Bool.noConfusion h8
       all_goals try simp only [ZZ] at h8
       all_goals (
        refine Jf (Jj (hK5 ?_)); refine Ja (JZ rfl (Jt (by omega) (by omega) ?_)); refine Ji rfl (Jg (J5 ?_)); exact J1 (i + 1) (by omega) (by omega) (.cons rfl (.cons rfl .nil)) (List.nil_sublist _) (fun _ _ h => h)
        skip)
     skip)
  · try simp only [ZZ] at h4
    refine JE (Jl ?_); refine Jl (J0 ?_); refine Qx rfl rfl .nil (fun w1 hs1 => ?_)
    obtain ⟨xs1, hx1⟩ := hs1.now
    exact ⟨⟨_, rfl⟩, hs1.keep, .inl ⟨i, _, (by show i = 25; omega), hx1⟩⟩
def kO (a : List Nat) : Obj := .cells (a.map uV).toArray 216 (0, 0)
def cO (c : List Nat) : Obj := .cells (c.map uV).toArray 235 (0, 0)
theorem Jir {a : List Nat} (ha : SOk 25 a) (r : Nat) : PureM Tryz.prog 272 [.pointer (some ⟨r, 0, none⟩)].toArray (.tuple #[]) r (kO a) (kO (Jip a)) := by
  refine q5 Tryz.func272 rfl rfl fun w => ?_
  have hal := ha.1
  obtain ⟨cc, hcc⟩ : ∃ c, c = cS a 25 := ⟨_, rfl⟩
  have hc : SOk 5 cc := by rw [hcc]; exact Jby ha 25
  have hmx : Jip a = mS cc a 25 := by rw [hcc]; rfl
  refine sR fun _ hK1 => ?_; refine LN rfl fun r1 => ?_; refine nK hK1 (sR fun _ hK2 => ?_); refine QF (cs := ((cS a 0).map uV).toArray) rfl rfl rfl rfl fun r2 => ?_; refine nK hK2 (sQ fun _ hK3 => ?_); refine sR fun _ hK4 => ?_; refine JD rfl rfl rfl Jga xv ?_; refine nK hK4 (Ju ?_); refine XV (τ := Unit) (fun i (s : List Nat) => s = cS a i ∧ i ≤ 25) (fun s => [(r2, cO s)]) (fun _ _ => False) (fun _ => []) [(r1, _), (r, kO a)] (cS a 0) rfl rfl Jgb xw (by rintro _ _ _ ⟨_, rfl, _⟩; rfl) rfl (by simp) rfl ⟨rfl, by decide⟩ ?_ ?_ ?_
  rintro q Xr Xb w3 i _ _ s ⟨hi, rfl, rfl⟩ ⟨hs, -⟩ Kr hKr
  have hsk : SOk 5 s := by rw [hs]; exact Jby ha i
  have hsl := hsk.1
  refine sR fun _ hK5 => Ji rfl (nK hK5 ?_); refine Ja (LN rfl fun r2 => ?_)
  refine LT 0 rfl rfl (Jg ?_); refine hKr _ _ ?_; clear hKr; refine Ju (Ka 11 (by kernel_rfl) (by kernel_rfl) ?_)
  refine Jk rfl rfl rfl (JQ (j := 0) rfl rfl rfl rfl rfl (by first | decide | omega) (by first | (simp only [Nat.zero_add, Nat.reduceAdd, Nat.reduceMul, Nat.zero_mul, Nat.mul_one, Nat.add_zero]; exact rfl) | exact rfl)) ?_; refine Jk rfl rfl rfl (Jm rfl (kn 0 rfl) rfl rfl) ?_; refine Jk rfl rfl rfl (JQ (j := i % 5) (m := 1) (off' := i % 5) rfl rfl rfl rfl (by omega) (by omega) (by omega)) ?_; refine Jk rfl rfl rfl (KG rfl (kn 1 rfl) rfl (KT (by rw [hsl]; omega))) ?_; refine Jk rfl rfl rfl (Jm rfl (J8 (k := 0) rfl) rfl rfl) ?_; refine Jk rfl rfl rfl (Jo rfl) ?_; refine Jk rfl rfl rfl (J9 rfl rfl rfl) ?_; refine Jk rfl rfl rfl (JQ (j := i) (m := 1) (off' := i) rfl rfl rfl rfl (by omega) (by omega) (by omega)) ?_; refine Jk rfl rfl rfl (KG rfl (J8 (k := 1) rfl) rfl (KT (by rw [hal]; omega))) ?_; refine Jk rfl rfl rfl (V0 (op := .xor) (b := ((s.getD (i % 5) 0 ^^^ a.getD i 0 : Nat) : Int)) rfl rfl rfl (hsk.get _) (ha.get _) rfl) ?_; refine Jk rfl rfl rfl (JQ (j := i % 5) (m := 1) (off' := i % 5) rfl rfl rfl rfl (by omega) (by omega) (by omega)) ?_; refine Kt ?_; refine KS (k := 1) (off := i % 5) (xs := s.map uV) (ys := (cS a (i + 1)).map uV) rfl rfl rfl rfl rfl rfl (by rw [List.length_map, hsl]; omega) (W6 (by rw [hs]; rfl)) rfl ?_; refine Jg (Jj (Vi [1] (L' := [_]) (by decide) rfl ?_)); exact QN (cS a (i + 1)) ⟨rfl, by omega⟩ rfl
  rintro D i s hfi ⟨hs, -⟩
  have hi25 : i = 25 := hfi
  subst hi25; rw [← hcc] at hs
  have hs := hs.symm
  subst hs; refine Jj (hK3 ?_); refine sR fun _ hK6 => ?_; refine JD rfl rfl rfl Jga xv ?_; refine nK hK6 (Ju (Yr [3, 0, 1, 2] (by decide) rfl ?_)); refine XV (τ := Unit) (fun i (s : List Nat) => s = mS cc a i ∧ i ≤ 25) (fun s => [(r, kO s)]) (fun _ _ => False) (fun _ => []) [(D, _), (r2, cO cc), (r1, _)] (a) rfl rfl Jgb xw (by rintro _ _ _ ⟨_, rfl, _⟩; rfl) rfl (by simp) rfl ⟨rfl, by decide⟩ ?_ ?_ ?_
  rintro q Xr Xb w3 i _ _ s ⟨hi, rfl, rfl⟩ ⟨hs, -⟩ Kr hKr
  have hsk : SOk 25 s := by rw [hs]; exact Jgk hc ha i
  have hsl := hsk.1
  refine sR fun _ hK7 => Ji rfl (nK hK7 ?_); refine Ja (LN rfl fun r3 => ?_)
  refine LT 0 rfl rfl (Jg ?_); refine hKr _ _ ?_; clear hKr; refine Ju (sR fun _ hK8 => ?_)
  refine LR rfl (JQ (j := 0) rfl rfl rfl rfl rfl (by first | decide | omega) (by first | (simp only [Nat.zero_add, Nat.reduceAdd, Nat.reduceMul, Nat.zero_mul, Nat.mul_one, Nat.add_zero]; exact rfl) | exact rfl)) ?_; refine LS 2 [0] rfl rfl (nK hK8 ?_); refine Ka 21 (by kernel_rfl) (by kernel_rfl) ?_; refine Jk rfl rfl rfl (Jm rfl (J8 (k := 2) rfl) rfl rfl) ?_; refine Jk rfl rfl rfl (Jo rfl) ?_; refine Jk rfl rfl rfl (J9 rfl rfl rfl) ?_; refine Jk rfl rfl rfl (JQ (j := i) (m := 1) (off' := i) rfl rfl rfl rfl (by omega) (by omega) (by omega)) ?_; refine Jk rfl rfl rfl (KG rfl (kn 1 rfl) rfl (KT (by rw [hsl]; omega))) ?_; refine Jk rfl rfl rfl (Jo rfl) ?_; refine Jk rfl rfl rfl (J9 rfl rfl rfl) ?_; refine Qk (show _ = Value.int .i64 ((i % 5 + 5 : Nat) : Int) from congrArg (Value.int .i64) (by rw [wrap_i64 (by omega) (by omega)]; omega)) ?_; refine Jk rfl rfl rfl (J9 rfl rfl rfl) ?_; refine Qk (show _ = Value.int .i64 ((i % 5 + 5 - 1 : Nat) : Int) from congrArg (Value.int .i64) (by rw [wrap_i64 (by omega) (by omega)]; omega)) ?_; refine Jk rfl rfl rfl (J9 rfl rfl rfl) ?_; refine Qk (show _ = Value.int .i64 (((i % 5 + 5 - 1) % 5 : Nat) : Int) from congrArg (Value.int .i64) (by rw [Int.tmod_eq_emod_of_nonneg (by omega)]; omega)) ?_; refine Jk rfl rfl rfl (JQ (j := (i % 5 + 5 - 1) % 5) (m := 1) (off' := (i % 5 + 5 - 1) % 5) rfl rfl rfl rfl (by omega) (by omega) (by omega)) ?_; refine Jk rfl rfl rfl (KG rfl (J8 (k := 1) rfl) rfl (KT (by rw [hc.1]; omega))) ?_; refine Jk rfl rfl rfl (Jo rfl) ?_; refine Jk rfl rfl rfl (J9 rfl rfl rfl) ?_; refine Qk (show _ = Value.int .i64 ((i % 5 + 1 : Nat) : Int) from congrArg (Value.int .i64) (by rw [wrap_i64 (by omega) (by omega)]; omega)) ?_; refine Jk rfl rfl rfl (J9 rfl rfl rfl) ?_; refine Qk (show _ = Value.int .i64 (((i % 5 + 1) % 5 : Nat) : Int) from congrArg (Value.int .i64) (by rw [Int.tmod_eq_emod_of_nonneg (by omega)]; omega)) ?_; refine Jk rfl rfl rfl (JQ (j := (i % 5 + 1) % 5) (m := 1) (off' := (i % 5 + 1) % 5) rfl rfl rfl rfl (by omega) (by omega) (by omega)) ?_; refine Jk rfl rfl rfl (KG rfl (J8 (k := 1) rfl) rfl (KT (by rw [hc.1]; omega))) ?_; refine Qm rfl rfl rfl (enters_of Tryz.func274 (by kernel_rfl) rfl) (Jto (k := 1) (hc.get _) (by decide)) ?_; refine Jk rfl rfl rfl (V0 (op := .xor) (b := ((cc.getD ((i % 5 + 5 - 1) % 5) 0 ^^^ Jbw (cc.getD ((i % 5 + 1) % 5) 0) 1 : Nat) : Int)) rfl rfl rfl (hc.get _) (vl (hc.get _) 1) rfl) ?_; refine Jk rfl rfl rfl (V0 (op := .xor) (b := ((s.getD i 0 ^^^ (cc.getD ((i % 5 + 5 - 1) % 5) 0 ^^^ Jbw (cc.getD ((i % 5 + 1) % 5) 0) 1) : Nat) : Int)) rfl rfl rfl (hsk.get _) (WF (hc.get _) (vl (hc.get _) 1)) rfl) ?_; refine Jk rfl rfl rfl (J9 rfl rfl rfl) ?_; refine Jk rfl rfl rfl (JQ (j := i) (m := 1) (off' := i) rfl rfl rfl rfl (by omega) (by omega) (by omega)) ?_; refine Kt ?_; refine KS (k := 1) (off := i) (xs := s.map uV) (ys := (mS cc a (i + 1)).map uV) rfl rfl rfl rfl rfl rfl (by rw [List.length_map, hsl]; omega) (W6 (by rw [hs]; rfl)) rfl ?_; refine Jg (Jj (Vi [1] (L' := [_]) (by decide) rfl ?_)); exact QN (mS cc a (i + 1)) ⟨rfl, by omega⟩ rfl
  rintro D2 i s hfi ⟨hs, -⟩
  have hi25 : i = 25 := hfi
  subst hi25; refine Jj (QK (k := 0) rfl rfl (QK (k := 2) rfl rfl ?_)); refine Jv rfl rfl .nil (fun w1 hs1 => ?_); exact ⟨rfl, _, List.mem_cons_of_mem _ (by rw [hmx, ← hs]; exact List.mem_cons_self), hs1⟩
  exact fun _ _ _ h => h.elim
  · exact fun _ _ _ h => h.elim
theorem Jrb {a : List Nat} (ha : SOk 25 a) {n : Nat} (hn : n < 18446744073709551616) {by_ : List Nat} (hbl : by_.length = 25) (hby : ∀ i, by_.getD i 0 < 9223372036854775808) (r : Nat) :
    PureM Tryz.prog 260 [.pointer (some ⟨r, 0, none⟩), uV n, .agg (by_.map iV).toArray].toArray (.tuple #[]) r (kO a) (kO (we by_ a n)) := by
  refine q5 Tryz.func260 rfl rfl fun w => ?_
  obtain ⟨m, hm⟩ : ∃ m, m = Jip a := ⟨_, rfl⟩
  have hmk : SOk 25 m := by rw [hm]; exact xr ha
  have hml := hmk.1
  have hbk := Jbz by_ hmk 25
  obtain ⟨b, hb⟩ : ∃ b, b = rS m by_ 25 := ⟨_, rfl⟩
  have hbk : SOk 25 b := by rw [hb]; exact Jbz by_ hmk 25
  have hbln := hbk.1
  have hra : we by_ a n = Jgm (xS b m 25) n := by rw [hb, hm]; rfl
  refine sR fun _ hK1 => ?_; refine LN rfl fun r1 => ?_; refine Qi (cs := (by_.map iV).toArray) rfl rfl rfl rfl fun r2 => ?_; refine nK hK1 (sR fun _ hK2 => ?_); refine LR rfl (Jm rfl (kn 1 rfl) rfl rfl) ?_; refine Jba (k := 2) rfl rfl rfl (enters_of Tryz.func272 (by kernel_rfl) rfl) rfl (Jir ha r) rfl ?_; rw [← hm]; refine nK hK2 (sR fun _ hK3 => ?_); refine QF (cs := (z25.map uV).toArray) rfl rfl rfl rfl fun r3 => ?_; refine nK hK3 (sQ fun _ hK4 => ?_); refine sR fun _ hK5 => ?_; refine JD rfl rfl rfl Jga xv ?_; refine nK hK5 (Ju ?_); refine XV (τ := Unit) (fun i (s : List Nat) => s = rS m by_ i ∧ i ≤ 25) (fun s => [(r3, kO s)]) (fun _ _ => False) (fun _ => []) [(r2, _), (r1, _), (r, kO m)] (z25) rfl rfl Jgb xw (by rintro _ _ _ ⟨_, rfl, _⟩; rfl) rfl (by simp) rfl ⟨rfl, by decide⟩ ?_ ?_ ?_
  rintro q Xr Xb w3 i _ _ s ⟨hi, rfl, rfl⟩ ⟨hs, -⟩ Kr hKr
  have hsk : SOk 25 s := by rw [hs]; exact Jbz by_ hmk i
  have hsl := hsk.1
  refine sR fun _ hK6 => Ji rfl (nK hK6 ?_); refine Ja (LN rfl fun r2 => ?_)
  refine LT 0 rfl rfl (Jg ?_); refine hKr _ _ ?_; clear hKr; refine Ju (sQ fun _ hK7 => (Ka 6 (by kernel_rfl) (by kernel_rfl) ?_))
  refine Jk rfl rfl rfl (JQ (j := 0) rfl rfl rfl rfl rfl (by first | decide | omega) (by first | (simp only [Nat.zero_add, Nat.reduceAdd, Nat.reduceMul, Nat.zero_mul, Nat.mul_one, Nat.add_zero]; exact rfl) | exact rfl)) ?_; refine Jk rfl rfl rfl (Jm rfl (kn 0 rfl) rfl rfl) ?_
  refine Jk rfl rfl rfl (JQ (j := 1) rfl rfl rfl rfl rfl (by first | decide | omega) (by first | (simp only [Nat.zero_add, Nat.reduceAdd, Nat.reduceMul, Nat.zero_mul, Nat.mul_one, Nat.add_zero]; exact rfl) | exact rfl)) ?_; refine Jk rfl rfl rfl (Jm rfl (kn 0 rfl) rfl rfl) ?_; refine Jk rfl rfl rfl (JN rfl) ?_; refine Jk rfl rfl rfl (JN rfl) ?_; refine Kt ?_; refine nK hK7 ?_; refine Ka 19 (by kernel_rfl) (by kernel_rfl) ?_; refine Jk rfl rfl rfl (Jo rfl) ?_; refine Jk rfl rfl rfl (Jo rfl) ?_; refine Jk rfl rfl rfl (J9 rfl rfl rfl) ?_; refine Qk (show _ = Value.int .i64 ((2 * (i % 5) : Nat) : Int) from congrArg (Value.int .i64) (by rw [wrap_i64 (by omega) (by omega)]; omega)) ?_; refine Jk rfl rfl rfl (Jo rfl) ?_; refine Jk rfl rfl rfl (J9 rfl rfl rfl) ?_; refine Qk (show _ = Value.int .i64 ((3 * (i / 5) : Nat) : Int) from congrArg (Value.int .i64) (by rw [wrap_i64 (by omega) (by omega)]; omega)) ?_; refine Jk rfl rfl rfl (J9 rfl rfl rfl) ?_; refine Qk (show _ = Value.int .i64 ((2 * (i % 5) + 3 * (i / 5) : Nat) : Int) from congrArg (Value.int .i64) (by rw [wrap_i64 (by omega) (by omega)]; omega)) ?_; refine Jk rfl rfl rfl (J9 rfl rfl rfl) ?_; refine Qk (show _ = Value.int .i64 (((2 * (i % 5) + 3 * (i / 5)) % 5 : Nat) : Int) from congrArg (Value.int .i64) (by rw [Int.tmod_eq_emod_of_nonneg (by omega)]; omega)) ?_; refine Jk rfl rfl rfl (J9 rfl rfl rfl) ?_; refine Qk (show _ = Value.int .i64 ((5 * ((2 * (i % 5) + 3 * (i / 5)) % 5) : Nat) : Int) from congrArg (Value.int .i64) (by rw [wrap_i64 (by omega) (by omega)]; omega)) ?_; refine Jk rfl rfl rfl (J9 rfl rfl rfl) ?_; refine Qk (show _ = Value.int .i64 ((i / 5 + 5 * ((2 * (i % 5) + 3 * (i / 5)) % 5) : Nat) : Int) from congrArg (Value.int .i64) (by rw [wrap_i64 (by omega) (by omega)]; omega)) ?_; refine Jk rfl rfl rfl (Jm rfl (J8 (k := 1) rfl) rfl rfl) ?_; refine Jk rfl rfl rfl (Jo rfl) ?_; refine Jk rfl rfl rfl (J9 rfl rfl rfl) ?_; refine Jk rfl rfl rfl (JQ (j := i) (m := 1) (off' := i) rfl rfl rfl rfl (by omega) (by omega) (by omega)) ?_; refine Jk rfl rfl rfl (KG rfl (J8 (k := 2) rfl) rfl (KT (by rw [hml]; omega))) ?_; refine Jk rfl rfl rfl (Jo rfl) ?_; refine Jk rfl rfl rfl (JQ (j := i) (m := 1) (off' := i) rfl rfl rfl rfl (by omega) (by omega) (by omega)) ?_; refine Jk rfl rfl rfl (KG rfl (J8 (k := 0) rfl) rfl (Jk3 (by rw [hbl]; omega))) ?_; refine Qm rfl rfl rfl (enters_of Tryz.func274 (by kernel_rfl) rfl) (Jto (k := by_.getD i 0) (hmk.get _) (hby i)) ?_; refine Jk rfl rfl rfl (JQ (j := (i / 5 + 5 * ((2 * (i % 5) + 3 * (i / 5)) % 5))) (m := 1) (off' := (i / 5 + 5 * ((2 * (i % 5) + 3 * (i / 5)) % 5))) rfl rfl rfl rfl (by omega) (by omega) (by omega)) ?_; refine Kt ?_; refine KS (k := 1) (off := i / 5 + 5 * ((2 * (i % 5) + 3 * (i / 5)) % 5)) (xs := s.map uV) (ys := (rS m by_ (i + 1)).map uV) rfl rfl rfl rfl rfl rfl (by rw [List.length_map, hsl]; omega) (W6 (by rw [hs]; rfl)) rfl ?_; refine Jg (Jj (Vi [1] (L' := [_]) (by decide) rfl ?_)); exact QN (rS m by_ (i + 1)) ⟨rfl, by omega⟩ rfl
  rintro D i s hfi ⟨hs, -⟩
  have hi25 : i = 25 := hfi
  subst hi25; rw [← hb] at hs
  have hs := hs.symm
  subst hs; refine Jj (hK4 ?_); refine sQ fun _ hK8 => sR fun _ hK9 => ?_; refine JD rfl rfl rfl Jga xv ?_; refine nK hK9 (Ju (Yr [4, 0, 1, 2, 3] (by decide) rfl ?_)); refine XV (τ := Unit) (fun i (s : List Nat) => s = xS b m i ∧ i ≤ 25) (fun s => [(r, kO s)]) (fun _ _ => False) (fun _ => []) [(D, _), (r3, kO b), (r2, _), (r1, _)] (m) rfl rfl Jgb xw (by rintro _ _ _ ⟨_, rfl, _⟩; rfl) rfl (by simp) rfl ⟨rfl, by decide⟩ ?_ ?_ ?_
  rintro q Xr Xb w3 i _ _ s ⟨hi, rfl, rfl⟩ ⟨hs, -⟩ Kr hKr
  have hsk : SOk 25 s := by rw [hs]; exact Jgl hbk hmk i
  have hsl := hsk.1
  refine sR fun _ hK10 => Ji rfl (nK hK10 ?_); refine Ja (LN rfl fun r3 => ?_)
  refine LT 0 rfl rfl (Jg ?_); refine hKr _ _ ?_; clear hKr; refine Ju (sQ fun _ hK11 => (Ka 8 (by kernel_rfl) (by kernel_rfl) ?_))
  refine Jk rfl rfl rfl (JQ (j := 0) rfl rfl rfl rfl rfl (by first | decide | omega) (by first | (simp only [Nat.zero_add, Nat.reduceAdd, Nat.reduceMul, Nat.zero_mul, Nat.mul_one, Nat.add_zero]; exact rfl) | exact rfl)) ?_; refine Jk rfl rfl rfl (Jm rfl (kn 0 rfl) rfl rfl) ?_; refine Jk rfl rfl rfl (Jo rfl) ?_
  refine Jk rfl rfl rfl (JQ (j := 0) rfl rfl rfl rfl rfl (by first | decide | omega) (by first | (simp only [Nat.zero_add, Nat.reduceAdd, Nat.reduceMul, Nat.zero_mul, Nat.mul_one, Nat.add_zero]; exact rfl) | exact rfl)) ?_; refine Jk rfl rfl rfl (Jm rfl (kn 0 rfl) rfl rfl) ?_; refine Jk rfl rfl rfl (J9 rfl rfl rfl) ?_; refine Qk (show _ = Value.int .i64 ((i - i % 5 : Nat) : Int) from congrArg (Value.int .i64) (by rw [wrap_i64 (by omega) (by omega)]; omega)) ?_; refine Jk rfl rfl rfl (JN rfl) ?_; refine Jk rfl rfl rfl (JN rfl) ?_; refine Kt ?_; refine nK hK11 ?_; refine Ka 24 (by kernel_rfl) (by kernel_rfl) ?_; refine Jk rfl rfl rfl (Jm rfl (J8 (k := 3) rfl) rfl rfl) ?_; refine Jk rfl rfl rfl (Jo rfl) ?_; refine Jk rfl rfl rfl (Jo rfl) ?_; refine Jk rfl rfl rfl (JQ (j := i) (m := 1) (off' := i) rfl rfl rfl rfl (by omega) (by omega) (by omega)) ?_; refine Jk rfl rfl rfl (KG rfl (J8 (k := 1) rfl) rfl (KT (by rw [hbln]; omega))) ?_; refine Jk rfl rfl rfl (Jo rfl) ?_; refine Jk rfl rfl rfl (Jo rfl) ?_; refine Jk rfl rfl rfl (J9 rfl rfl rfl) ?_; refine Qk (show _ = Value.int .i64 ((i % 5 + 1 : Nat) : Int) from congrArg (Value.int .i64) (by rw [wrap_i64 (by omega) (by omega)]; omega)) ?_; refine Jk rfl rfl rfl (J9 rfl rfl rfl) ?_; refine Qk (show _ = Value.int .i64 (((i % 5 + 1) % 5 : Nat) : Int) from congrArg (Value.int .i64) (by rw [Int.tmod_eq_emod_of_nonneg (by omega)]; omega)) ?_; refine Jk rfl rfl rfl (J9 rfl rfl rfl) ?_; refine Qk (show _ = Value.int .i64 ((i - i % 5 + (i % 5 + 1) % 5 : Nat) : Int) from congrArg (Value.int .i64) (by rw [wrap_i64 (by omega) (by omega)]; omega)) ?_; refine Jk rfl rfl rfl (JQ (j := (i - i % 5 + (i % 5 + 1) % 5)) (m := 1) (off' := (i - i % 5 + (i % 5 + 1) % 5)) rfl rfl rfl rfl (by omega) (by omega) (by omega)) ?_; refine Jk rfl rfl rfl (KG rfl (J8 (k := 1) rfl) rfl (KT (by rw [hbln]; omega))) ?_; refine Jk rfl rfl rfl (Jqi rfl (hbk.get _)) ?_; refine Jk rfl rfl rfl (Jo rfl) ?_; refine Jk rfl rfl rfl (Jo rfl) ?_; refine Jk rfl rfl rfl (J9 rfl rfl rfl) ?_; refine Qk (show _ = Value.int .i64 ((i % 5 + 2 : Nat) : Int) from congrArg (Value.int .i64) (by rw [wrap_i64 (by omega) (by omega)]; omega)) ?_; refine Jk rfl rfl rfl (J9 rfl rfl rfl) ?_; refine Qk (show _ = Value.int .i64 (((i % 5 + 2) % 5 : Nat) : Int) from congrArg (Value.int .i64) (by rw [Int.tmod_eq_emod_of_nonneg (by omega)]; omega)) ?_; refine Jk rfl rfl rfl (J9 rfl rfl rfl) ?_; refine Qk (show _ = Value.int .i64 ((i - i % 5 + (i % 5 + 2) % 5 : Nat) : Int) from congrArg (Value.int .i64) (by rw [wrap_i64 (by omega) (by omega)]; omega)) ?_; refine Jk rfl rfl rfl (JQ (j := (i - i % 5 + (i % 5 + 2) % 5)) (m := 1) (off' := (i - i % 5 + (i % 5 + 2) % 5)) rfl rfl rfl rfl (by omega) (by omega) (by omega)) ?_; refine Jk rfl rfl rfl (KG rfl (J8 (k := 1) rfl) rfl (KT (by rw [hbln]; omega))) ?_; refine Jk rfl rfl rfl (V0 (op := .and) (b := (((18446744073709551615 ^^^ b.getD (i - i % 5 + (i % 5 + 1) % 5) 0) &&& b.getD (i - i % 5 + (i % 5 + 2) % 5) 0 : Nat) : Int)) rfl rfl rfl (WF (by decide) (hbk.get _)) (hbk.get _) rfl) ?_; refine Jk rfl rfl rfl (V0 (op := .xor) (b := ((Ju4 b i : Nat) : Int)) rfl rfl rfl (hbk.get _) (Jbx (hbk.get _)) rfl) ?_; refine Jk rfl rfl rfl (J9 rfl rfl rfl) ?_; refine Jk rfl rfl rfl (JQ (j := i) (m := 1) (off' := i) rfl rfl rfl rfl (by omega) (by omega) (by omega)) ?_; refine Kt ?_; refine KS (k := 1) (off := i) (xs := s.map uV) (ys := (xS b m (i + 1)).map uV) rfl rfl rfl rfl rfl rfl (by rw [List.length_map, hsl]; omega) (W6 (by rw [hs]; rfl)) rfl ?_; refine Jg (Jj (Vi [1] (L' := [_]) (by decide) rfl ?_)); exact QN (xS b m (i + 1)) ⟨rfl, by omega⟩ rfl
  rintro D2 i s hfi ⟨hs, -⟩
  have hi25 : i = 25 := hfi
  subst hi25
  have hsk : SOk 25 s := by rw [hs]; exact Jgl hbk hmk 25
  have hsl := hsk.1
  refine Jj (hK8 ?_); refine Ka 8 (by kernel_rfl) (by kernel_rfl) ?_; refine Jk rfl rfl rfl (Jm rfl (kn 5 rfl) rfl rfl) ?_; refine Jk rfl rfl rfl (J9 rfl rfl rfl) ?_
  refine Jk rfl rfl rfl (JQ (j := 0) rfl rfl rfl rfl rfl (by first | decide | omega) (by first | (simp only [Nat.zero_add, Nat.reduceAdd, Nat.reduceMul, Nat.zero_mul, Nat.mul_one, Nat.add_zero]; exact rfl) | exact rfl)) ?_; refine Jk rfl rfl rfl (KG rfl (kn 1 rfl) rfl (KT (by rw [hsl]; omega))) ?_; refine Jk rfl rfl rfl (Jo rfl) ?_; refine Jk rfl rfl rfl (V0 (op := .xor) (b := ((s.getD 0 0 ^^^ n : Nat) : Int)) rfl rfl rfl (hsk.get _) (hn) rfl) ?_; refine Jk rfl rfl rfl (J9 rfl rfl rfl) ?_
  refine Jk rfl rfl rfl (JQ (j := 0) rfl rfl rfl rfl rfl (by first | decide | omega) (by first | (simp only [Nat.zero_add, Nat.reduceAdd, Nat.reduceMul, Nat.zero_mul, Nat.mul_one, Nat.add_zero]; exact rfl) | exact rfl)) ?_; refine Kt ?_; refine KS (k := 1) (off := 0) (xs := s.map uV) (ys := (Jgm s n).map uV) rfl rfl rfl rfl rfl rfl (by rw [List.length_map, hsl]; omega) (W6 rfl) rfl ?_; refine Jg ?_; refine QK (k := 0) rfl rfl ?_; refine QK (k := 2) rfl rfl ?_; refine Jv rfl rfl .nil (fun w1 hs1 => ?_); exact ⟨rfl, _, List.mem_cons_of_mem _ (by rw [hra, ← hs]; exact List.mem_cons_self), hs1⟩
  exact fun _ _ _ h => h.elim
  · exact fun _ _ _ h => h.elim
theorem Jrc : Pure Tryz.prog 258 [].toArray (.agg (turnsL.map iV).toArray) := by
  refine JC Tryz.func258 rfl rfl fun w => ?_; refine sR fun _ hK1 => ?_; refine LN rfl fun r1 => ?_; refine nK hK1 (sR fun _ hK2 => ?_); refine LR rfl (JI (r := turnsL.map iV) rfl (by kernel_rfl)) ?_; refine Jz (k := 0) (n := 25) (ys := turnsL.map iV) rfl rfl rfl rfl rfl rfl rfl rfl rfl ?_; refine nK hK2 (Jb ?_); refine Jv rfl rfl (.cons (J6 (vs := turnsL.map iV) rfl (kn 0 rfl) rfl rfl) .nil) (fun w1 hs1 => ?_); exact ⟨rfl, hs1.keep⟩
theorem Jis : Pure Tryz.prog 259 [].toArray (.agg (numsL.map uV).toArray) := by
  refine JC Tryz.func259 rfl rfl fun w => ?_; refine sR fun _ hK1 => ?_; refine LN rfl fun r1 => ?_; refine nK hK1 (sR fun _ hK2 => ?_); refine LR rfl (JI (r := numsL.map uV) rfl (by kernel_rfl)) ?_; refine Jz (k := 0) (n := 24) (ys := numsL.map uV) rfl rfl rfl rfl rfl rfl rfl rfl rfl ?_; refine nK hK2 (Jb ?_); refine Jv rfl rfl (.cons (J6 (vs := numsL.map uV) rfl (kn 0 rfl) rfl rfl) .nil) (fun w1 hs1 => ?_); exact ⟨rfl, hs1.keep⟩
theorem Jmh (i : Nat) : turnsL.getD i 0 < 9223372036854775808 := by
  by_cases h : i < 25
  · have : turnsL.all (fun x => decide (x < 9223372036854775808)) = true := by decide
    have hm : turnsL.getD i 0 ∈ turnsL := by simp [List.getD_eq_getElem?_getD, show i < turnsL.length from h]
    exact of_decide_eq_true (List.all_eq_true.1 this _ hm)
  · rw [List.getD_eq_getElem?_getD, List.getElem?_eq_none (by simpa [turnsL] using h)]; decide
theorem Jit {a : List Nat} (ha : SOk 25 a) : Pure Tryz.prog 238 [.agg (a.map uV).toArray].toArray (.agg ((yK a).map uV).toArray) := by
  refine JC Tryz.func238 rfl rfl fun w => ?_
  have hal := ha.1
  obtain ⟨tu, htu⟩ : ∃ t, t = turnsL := ⟨_, rfl⟩
  have htul : tu.length = 25 := by rw [htu]; rfl
  have htub : ∀ i, tu.getD i 0 < 9223372036854775808 := by rw [htu]; exact Jmh
  obtain ⟨nu, hnu⟩ : ∃ t, t = numsL := ⟨_, rfl⟩
  have hnuk : SOk 24 nu := by rw [hnu]; exact numsL_ok
  have hnul := hnuk.1
  have hPt : Pure Tryz.prog 258 [].toArray (.agg (tu.map iV).toArray) := by rw [htu]; exact Jrc
  have hPn : Pure Tryz.prog 259 [].toArray (.agg (nu.map uV).toArray) := by rw [hnu]; exact Jis
  refine sR fun _ hK1 => ?_; refine Qi (cs := (a.map uV).toArray) rfl rfl rfl rfl fun r1 => ?_; refine QF (cs := (z25.map uV).toArray) rfl rfl rfl rfl fun r2 => ?_; refine nK hK1 (sR fun _ hK2 => ?_); refine LR rfl (Jq (xs := a.map uV) (n := 25) rfl (kn 1 rfl) rfl rfl (by rw [List.length_map, hal])) ?_; refine QF (cs := (z25.map uV).toArray) rfl rfl rfl rfl fun r3 => ?_; refine Jz (k := 0) (n := 25) (ys := a.map uV) rfl rfl rfl rfl rfl (by rw [List.length_map, hal]) rfl (YI _) rfl ?_; refine nK hK2 (sR fun _ hK3 => ?_); refine JD rfl rfl rfl (enters_of Tryz.func258 (by kernel_rfl) rfl) hPt ?_; refine QF (cs := ((List.replicate 25 0).map iV).toArray) rfl rfl rfl rfl fun r4 => ?_; refine Jz (k := 0) (n := 25) (ys := tu.map iV) rfl rfl rfl rfl rfl (by rw [List.length_map, htul]) rfl (by simp [iV, QR, List.all_map, List.all_eq_true]) rfl ?_; refine nK hK3 (sQ fun _ hK4 => ?_); refine sR fun _ hK5 => ?_; refine JD rfl rfl rfl (enters_of Tryz.func259 (by kernel_rfl) rfl) hPn ?_; refine Ji rfl (nK hK5 ?_); refine Ju (JG (σ := Nat) (fun i => i ≤ 24) (fun i => [(2, .pointer (some ⟨r2, 0, none⟩)), (3, .pointer (some ⟨r3, 0, none⟩)), (4, .pointer (some ⟨r4, 0, none⟩)), (9, .agg (nu.map uV).toArray), (10, .int .i64 (i : Int))]) (fun i => [(r4, .cells (tu.map iV).toArray 229 (0, 0)), (r3, kO (ju a i)), (r2, .cells (z25.map uV).toArray 188 (0, 0)), (r1, .cells (a.map uV).toArray 188 (0, 0))]) (fun _ _ _ => True) (fun i => 24 - i) 0 (Nat.zero_le _) (.cons rfl (.cons rfl (.cons rfl (.cons rfl (.cons rfl .nil))))) (List.Sublist.refl _) (fun _ _ h => h) ?_); intro i hi; refine sR fun _ hK6 => JZ rfl (nK hK6 ?_); refine sQ fun _ hK7 => ?_; refine Jc rfl (fun h8 => ?_) (fun h8 => ?_)
  try simp only [ZZ] at h8
  refine Jf (hK7 ?_); refine sB fun _ hK9 => sR fun _ hK10 => ?_; refine LR rfl (Jkh (j := i) rfl rfl rfl rfl rfl rfl (by omega) (Jkn (KT (by rw [hnul]; omega)))) ?_; refine Ji rfl (nK hK10 ?_); refine Ja (Ji rfl (LR rfl (Jq (xs := tu.map iV) (n := 25) rfl (kn 0 rfl) rfl rfl (by rw [List.length_map, htul])) ?_)); refine Jba (k := 1) rfl rfl rfl (enters_of Tryz.func260 (by kernel_rfl) rfl) rfl (Jrb (Yc ha i) (n := nu.getD i 0) (hnuk.get i) htul htub r3) rfl ?_; refine Jg (Jj (hK9 ?_)); refine Ja (JZ rfl (Jt (by omega) (by omega) ?_)); refine Ji rfl (Jg (J5 ?_)); exact J1 (i + 1) (by omega) (by omega) (.cons rfl (.cons rfl (.cons rfl (.cons rfl (.cons rfl .nil))))) (by rw [show ju a (i + 1) = we tu (ju a i) (nu.getD i 0) from by rw [htu, hnu]; rfl]; exact List.Sublist.refl _) (fun _ _ h => h)
  · try simp only [ZZ] at h8
    refine JE (Jl ?_); refine Jl (J0 (hK4 ?_)); refine sQ fun _ hK11 => ?_
    have hi24 : 24 = i := by omega
    subst hi24; refine Ja (LR rfl (Jq (xs := (ju a 24).map uV) (n := 25) rfl (kn 1 rfl) rfl rfl (by rw [List.length_map, (Yc ha 24).1])) (Jz (k := 2) (n := 25) (ys := (ju a 24).map uV) rfl rfl rfl rfl rfl (by rw [List.length_map, (Yc ha 24).1]) rfl (YI _) rfl ?_)); refine nK hK11 (Jb ?_); refine Jv rfl rfl (.cons (J6 (vs := (ju a 24).map uV) rfl (kn 2 rfl) rfl (by rw [List.length_map, (Yc ha 24).1]; rfl)) .nil) (fun w1 hs1 => ?_); exact ⟨rfl, hs1.keep⟩
theorem Jb2 {l : List UInt8} {j : Nat} (h : j < l.length) : (l.map bV)[j]? = some (.int .u8 ((l.getD j 0).toNat : Nat)) := by
  simp [h, bV, List.getD_eq_getElem?_getD]
theorem Jw1 {n : Nat} (hn : n ≤ 1099511627776) : Pure Tryz.prog 237 [.int .i64 (n : Int)].toArray (.tuple #[.string (bs (qR n)), .int .i64 0]) := by
  refine JC Tryz.func237 rfl rfl fun w => ?_
  obtain ⟨k, hk⟩ : ∃ k, k = 135 - n % 136 := ⟨_, rfl⟩
  have hn1 : n % 136 < 136 := Nat.mod_lt _ (by decide)
  obtain ⟨x, hx⟩ : ∃ x : UInt8, x = (1 :: List.replicate k 0 : List UInt8).getD k 0 := ⟨_, rfl⟩
  have hxl := x.toNat_lt
  have hpl : (1 :: List.replicate k 0 : List UInt8).set k (UInt8.ofNat (x.toNat ||| 128)) = qR n := by
    unfold qR
    cases k with
    | zero => rw [if_pos (by omega), hx]; rfl
    | succ k =>
      rw [if_neg (by omega), hx]
      have e1 : (1 :: List.replicate (k + 1) 0 : List UInt8).getD (k + 1) 0 = 0 := by simp [List.getD_eq_getElem?_getD]
      rw [e1, show 134 - n % 136 = k from by omega]; simp only [List.set_cons_succ]
      congr 1
      rw [List.replicate_succ', List.set_append_right _ _ (by simp), List.length_replicate, Nat.sub_self]; rfl
  refine sR fun _ hK1 => LS 2 [] rfl rfl (nK hK1 ?_); refine sQ fun _ hK2 => sR fun _ hK3 => ?_; refine LS 6 [] rfl rfl (nK hK3 ?_); refine Jc rfl (fun h6 => ?_) (fun h6 => ?_)
  try simp only [ZZ] at h6
  refine sR fun _ hK7 => LS 2 [] rfl rfl (nK hK7 ?_); refine Jb (Jd ?_); refine Jv rfl rfl (.cons (J4 rfl) (.cons (J4 rfl) .nil)) (fun w1 hs1 => ?_)
  first | (exact ⟨rfl, hs1.keep⟩) | (exfalso; omega)
  · try simp only [ZZ] at h6
    refine Jf (hK2 ?_); refine sR fun _ hK8 => LS 2 [] rfl rfl ?_; refine Jy (show _ = Value.int .i64 ((n % 136 : Nat) : Int) from congrArg (Value.int .i64) (by rw [Int.tmod_eq_emod_of_nonneg (by omega)]; omega)) ?_; refine JZ rfl ?_; refine Jy (show _ = Value.int .i64 ((k + 1 : Nat) : Int) from congrArg (Value.int .i64) (by rw [wrap_i64 (by omega) (by omega)]; omega)) ?_; refine Wz (n := k + 1) (b := 1) rfl rfl rfl rfl rfl rfl rfl rfl rfl (by omega) (by omega) fun r2 => ?_; refine Ji rfl (nK hK8 ?_); refine sR fun _ hK9 => Ji rfl (LR rfl (Ki (j := 0) (m := 1) (off' := 0) rfl rfl rfl rfl rfl (by omega) rfl) ?_); refine KS (k := 0) (off := 0) (xs := List.replicate (k + 1) (.int .u8 0)) (ys := (1 :: List.replicate k 0 : List UInt8).map bV) rfl rfl rfl rfl rfl rfl (by simp) (by rw [List.replicate_succ]; simp [bV]) rfl ?_; refine nK hK9 (sR fun _ hK10 => ?_); refine LS 2 [] rfl rfl ?_; refine LR rfl (KI rfl rfl) ?_; refine JZ rfl ?_; refine Jy (show _ = Value.int .i64 ((k : Nat) : Int) from congrArg (Value.int .i64) (by rw [wrap_i64 (by omega) (by omega)]; omega)) ?_; refine LR rfl (Ki (j := k) (m := 1) (off' := k) rfl rfl rfl rfl rfl (by omega) (by omega)) ?_; refine LR rfl (KG rfl (kn 0 rfl) rfl (Jb2 (by simp))) ?_; rw [← hx]
    refine LR rfl (vh (op := .or) (b := ((x.toNat ||| 128 : Nat) : Int)) rfl rfl rfl hxl (by decide) rfl) ?_; refine Jy (show _ = bV (UInt8.ofNat (x.toNat ||| 128)) from Jfr (Nat.or_lt_two_pow (n := 8) hxl (by decide))) ?_; refine LR rfl (Ki (j := k) (m := 1) (off' := k) rfl rfl rfl rfl rfl (by omega) (by omega)) ?_; refine KS (k := 0) (off := k) (xs := (1 :: List.replicate k 0 : List UInt8).map bV) (ys := (qR n).map bV) rfl rfl rfl rfl rfl rfl (by simp) (by rw [← hpl, List.map_set]) rfl ?_; refine nK hK10 (sR fun _ hK11 => ?_); refine Ji rfl ?_; refine LR rfl (QH (b := qR n) (row := some (r2, k + 1, [])) (e := 5) (show _ = some (JF (qR n).length (some (r2, k + 1, []))) from by rw [jv, show 136 - n % 136 = k + 1 from by omega]; rfl) ⟨by simp, by simp [jv]; omega⟩ (fun p hp => .inl (by rw [List.mem_singleton.1 hp]; simp)) rfl rfl rfl) ?_; refine LS 2 [] rfl rfl (nK hK11 ?_); refine Jb ?_; refine Jv rfl rfl (.cons (J4 rfl) (.cons (J4 rfl) .nil)) (fun w1 hs1 => ?_)
    first | (exact ⟨rfl, hs1.keep⟩) | (exfalso; omega)
def chL (rb n cap : Nat) (p : Nat × Nat) : Jr := [(p.2, .cells #[.int .i64 136] 3 (0, 0)), (p.1, .cells #[.slice (some ⟨rb, 0, none⟩) n cap] 55 (0, 0))]
theorem Jrd (rb n cap : Nat) : PureE (α := Nat × Nat) Tryz.prog 236 [.slice (some ⟨rb, 0, none⟩) n cap, .int .i64 136].toArray (fun p => .func (.func 257) #[] #[.pointer (some ⟨p.1, 0, none⟩), .pointer (some ⟨p.2, 0, none⟩)]) (chL rb n cap) := by
  refine Vy Tryz.func236 rfl rfl fun w => ?_; refine sR fun _ hK1 => ?_; refine LN rfl fun r1 => ?_; refine LN rfl fun r2 => ?_; refine Ji rfl (nK hK1 ?_); refine sQ fun _ hK2 => sR fun _ hK3 => ?_; refine LS 2 [0] rfl rfl (nK hK3 ?_); refine Jc rfl (fun h4 => ?_) (fun h4 => ?_)
  exact absurd h4 (by decide)
  · try simp only [ZZ] at h4
    refine Jf (hK2 ?_); refine sR fun _ hK5 => ?_; refine LR rfl (Kv rfl rfl) ?_; refine Ji rfl (nK hK5 ?_); refine Jb (pT rfl rfl rfl fun w1 hs1 => ?_); exact ⟨(r1, r2), rfl, hs1⟩
def Jgn (rb j : Nat) : List Value := [.slice (some ⟨rb, 136 * j, none⟩) 136 136]
theorem Jre {rb n cap N : Nat} (hn : n = 136 * N) (hcap : n ≤ cap) (hlim : n ≤ 2199023255552) (p1 p2 : Nat) : zz Tryz.prog 257 [.pointer (some ⟨p1, 0, none⟩), .pointer (some ⟨p2, 0, none⟩)] (chL rb n cap (p1, p2)) 0 (nxN (Jgn rb) N) (Jd3 N) := by
  refine Wp Tryz.func257 rfl rfl fun q xids w2 XI XF hY => ?_; refine sR fun _ hK1 => Ji rfl (nK hK1 ?_); refine Ju (JG (σ := Nat) (fun i => i ≤ N) (fun i => [(0, .func (.yield q) #[] #[]), (1, .pointer (some ⟨p1, 0, none⟩)), (2, .pointer (some ⟨p2, 0, none⟩)), (4, .int .i64 ((136 * i : Nat) : Int))]) (fun _ => []) (fun i => XI i) (fun i => N - i) 0 (Nat.zero_le _) (.cons rfl (.cons rfl (.cons rfl (.cons rfl .nil)))) (List.nil_sublist _) (fun _ _ h => h) ?_); intro i hi; refine sQ fun _ hK2 => sR fun _ hK3 => ?_; refine Ji rfl (LR rfl (Jm rfl (J8 (k := 1) rfl) rfl rfl) (LR rfl (KI rfl rfl) ?_)); refine JZ rfl (nK hK3 ?_); refine Jc rfl (fun h4 => ?_) (fun h4 => ?_)
  · try simp only [ZZ] at h4
    refine Jf (hK2 ?_); refine sB fun _ hK5 => sQ fun _ hK6 => ?_; refine Ka 7 (by kernel_rfl) (by kernel_rfl) ?_; refine Jk rfl rfl rfl (Jm rfl (J8 (k := 0) rfl) rfl rfl) ?_; refine Jk rfl rfl rfl (Jm rfl (J8 (k := 1) rfl) rfl rfl) ?_; refine Jk rfl rfl rfl (Jo rfl) ?_; refine Jk rfl rfl rfl (JR (kl := some (136 * i)) (kh := none) (km := none) (sz := 1) (m := 136 * i) (q := n) (z := cap) rfl rfl rfl ⟨_, rfl⟩ trivial trivial rfl rfl rfl (by omega) hcap (Nat.le_refl _) (fun _ => rfl) rfl) ?_; refine Jk rfl rfl rfl (KI rfl rfl) ?_; refine Jk rfl rfl rfl (Jla (r := 136) rfl rfl (by rw [if_neg (by omega)])) ?_; refine Jk rfl rfl rfl (JN rfl) ?_; refine Kt ?_; refine nK hK6 (sR fun _ hK7 => ?_); refine Ji rfl (LR rfl (Jm rfl (J8 (k := 1) rfl) rfl rfl) (LS 4 [] rfl rfl ?_)); refine Jy (show _ = Value.int .i64 ((136 * i + 136 : Nat) : Int) from congrArg (Value.int .i64) (by rw [wrap_i64 (by omega) (by omega)]; omega)) ?_; refine LS 3 [] rfl rfl ?_; refine Jy (show _ = Value.int .i64 ((136 * i + 136 : Nat) : Int) from congrArg (Value.int .i64) (by rw [wrap_i64 (by omega) (by omega)]; omega)) ?_
    refine LR rfl (JR (kl := some (136 * i)) (kh := some (136 * i + 136)) (km := some (136 * i + 136)) (sz := 1) (m := 136 * i) (q := 136 * i + 136) (z := 136 * i + 136) (off' := 136 * i) rfl rfl rfl ⟨_, rfl⟩ ⟨_, rfl⟩ ⟨_, rfl⟩ rfl rfl rfl (by omega) (Nat.le_refl _) (by omega) (fun h => by cases h) (by rw [if_neg (by omega)]; omega)) ?_; refine Jy (show _ = Value.slice (some ⟨rb, 136 * i, none⟩) 136 136 from by congr 1 <;> omega) ?_; refine W5 (XT := XI (i + 1)) (XF := XF) rfl rfl rfl rfl (hY i (Jgn rb i) (i + 1) ⟨by omega, rfl, rfl⟩) ?_ ?_
    all_goals refine JZ rfl ?_
    all_goals refine Jg ?_
    all_goals (
     refine hK7 ?_; refine Jc rfl (fun h8 => ?_) (fun h8 => ?_)
     · try exact Bool.noConfusion h8
       all_goals try simp only [ZZ] at h8
       all_goals (
        refine Jb (Jn (Jd ?_)); refine Jd (Jn ?_); refine Jv rfl rfl .nil (fun w1 hs1 => ?_)
        obtain ⟨xs1, hx1⟩ := hs1.now
        exact ⟨⟨_, rfl⟩, hs1.keep, .inr ⟨_, hx1⟩⟩
        skip)
     · try exact Bool.noConfusion h8
       all_goals try simp only [ZZ] at h8
       all_goals (
        refine Jf (Jj (hK5 ?_)); refine Ja (Ji rfl (LR rfl (Jm rfl (J8 (k := 0) rfl) rfl rfl) ?_)); refine JZ rfl ?_; refine Jy (show _ = Value.int .i64 ((136 * (i + 1) : Nat) : Int) from congrArg (Value.int .i64) (by rw [wrap_i64 (by omega) (by omega)]; omega)) ?_; refine Ji rfl (Jg (J5 ?_)); exact J1 (i + 1) (by omega) (by omega) (.cons rfl (.cons rfl (.cons rfl (.cons rfl .nil)))) (List.nil_sublist _) (fun _ _ h => h)
        skip)
     skip)
  · try simp only [ZZ] at h4
    refine JE (Jl ?_); refine Jl (J0 ?_); refine Qx rfl rfl .nil (fun w1 hs1 => ?_)
    obtain ⟨xs1, hx1⟩ := hs1.now
    exact ⟨⟨_, rfl⟩, hs1.keep, .inl ⟨i, _, (by show i = N; omega), hx1⟩⟩
theorem Jmi {a : List Nat} {i : Nat} (h : i < 32) : ((jw a i ++ List.replicate (32 - i) 0).map bV).set i (bV (UInt8.ofNat (a.getD (i / 8) 0 / 2 ^ (i % 8 * 8) % 256))) = (jw a (i + 1) ++ List.replicate (32 - (i + 1)) 0).map bV := by
  rw [← List.map_set, List.set_append_right _ _ (by rw [WG]; exact Nat.le_refl _), WG, Nat.sub_self, show 32 - i = (32 - (i + 1)) + 1 from by omega, List.replicate_succ, List.set_cons_zero, jw, List.append_assoc]
  rfl
theorem Jrf {t : List UInt8} {k j i : Nat} (h : 136 * j + i < t.length) : (t.map bV ++ List.replicate k (Value.int .u8 0))[136 * j + i]? = some (.int .u8 (((t.drop (136 * j)).getD i 0).toNat : Nat)) := by
  rw [List.getElem?_append_left (by rw [List.length_map]; exact h), Jb2 h]
  simp [List.getD_eq_getElem?_getD]
theorem Jb3 {s : List UInt8} (hs : s.length ≤ 1099511627776) : Pure Tryz.prog 174 [.string (bs s)].toArray (.string (bs (WM s))) := by
  refine JC Tryz.func174 rfl rfl fun w => ?_
  have hpl := jv s.length
  obtain ⟨t, ht⟩ : ∃ t, t = s ++ qR s.length := ⟨_, rfl⟩
  obtain ⟨N, hN⟩ : ∃ N, N = t.length / 136 := ⟨_, rfl⟩
  have htl : t.length = 136 * N := by have := Jeq s; rw [← ht] at this; omega
  have hlim : t.length ≤ 2199023255552 := by rw [ht, List.length_append]; omega
  have hkec : WM s = jw (Jb1 t N) 32 := by unfold WM; rw [← ht, ← hN]
  refine sR fun _ hK1 => Ji rfl (nK hK1 ?_); refine sR fun _ hK2 => ?_; refine Ji rfl (LR rfl (JT rfl rfl) (JD rfl rfl rfl (enters_of Tryz.func237 (by kernel_rfl) rfl) (Jw1 hs) ?_)); refine LS 5 [] rfl rfl (nK hK2 ?_); refine sR fun _ hK3 => ?_; refine QF (cs := (z25.map uV).toArray) rfl rfl rfl rfl fun r1 => ?_; refine nK hK3 (sQ fun _ hK4 => ?_); refine sR fun _ hK5 => LS 2 [] rfl rfl ?_; refine LR rfl (V1 rfl rfl (by omega)) ?_; rw [← ht]; refine X8 rfl rfl rfl rfl rfl rfl fun rb kb => ?_; refine Vq rfl rfl rfl (enters_of Tryz.func236 (by kernel_rfl) rfl) (Jrd rb t.length (t.length + kb)) fun pp => ?_
  obtain ⟨p1, p2⟩ := pp
  change HL _ _ _ [(p2, _), (p1, _), (rb, _), (r1, _)] _ _ _ _; refine nK hK5 (Ju (Yr [3, 0, 1, 2] (by decide) rfl ?_)); refine XV (τ := Unit) (fun j (s : List Nat) => s = Jb1 t j ∧ j ≤ N) (fun s => [(r1, kO s)]) (fun _ _ => False) (fun _ => []) [(p2, _), (p1, _), (rb, _)] z25 rfl rfl (enters_of Tryz.func257 (by kernel_rfl) rfl) (Jre (rb := rb) (cap := t.length + kb) htl (by omega) hlim p1 p2) (by rintro _ _ _ ⟨_, rfl, _⟩; rfl) rfl (by simp [chL]) rfl ⟨rfl, Nat.zero_le _⟩ ?_ ?_ ?_
  rintro q Xr Xb w3 jj _ _ a ⟨hi, rfl, rfl⟩ ⟨hsa, -⟩ Kr hKr
  have hak : SOk 25 a := by rw [hsa]; exact xu t jj
  obtain ⟨u, hu⟩ : ∃ u, u = t.drop (136 * jj) := ⟨_, rfl⟩
  have habk := xt u hak
  refine Ja (Ji rfl (Jg ?_)); refine hKr _ _ ?_; clear hKr; refine Ju (sQ fun _ hK6 => (sR fun _ hK7 => ?_)); refine Ji rfl (LR rfl (KI rfl rfl) (Ji rfl ?_)); refine nK hK7 ?_; refine Ju (JG (σ := Nat) (fun i => i ≤ 136) (fun i => [(5, .pointer (some ⟨r1, 0, none⟩)), (23, .slice (some ⟨rb, 136 * jj, none⟩) 136 136), (24, .int .i64 136), (25, .int .i64 (i : Int))]) (fun i => [(r1, kO (abS a u i))]) (fun _ => Xb) (fun i => 136 - i) 0 (Nat.zero_le _) (.cons rfl (.cons rfl (.cons rfl (.cons rfl .nil)))) (List.Sublist.refl _) (fun _ _ h => h) ?_); intro i hi; refine sR fun _ hK8 => JZ rfl (nK hK8 ?_); refine sQ fun _ hK9 => ?_; refine Jc rfl (fun h10 => ?_) (fun h10 => ?_)
  try simp only [ZZ] at h10
  refine Jf (hK9 ?_); refine sB fun _ hK11 => sR fun _ hK12 => ?_; refine Ji rfl (LR rfl (Ki (j := i) (m := 1) (off' := 136 * jj + i) rfl rfl rfl rfl rfl (by omega) (by omega)) (LR rfl (KG rfl (J8 (k := 2) rfl) rfl (Jrf (by omega))) ?_)); rw [← hu]; refine LS 2 [] rfl rfl (nK hK12 ?_); refine Ka 12 (by kernel_rfl) (by kernel_rfl) ?_; refine Jk rfl rfl rfl (Jo rfl) ?_; refine Jk rfl rfl rfl (J9 rfl rfl rfl) ?_; refine Qk (show _ = Value.int .i64 ((i / 8 : Nat) : Int) from congrArg (Value.int .i64) (by rw [QM (by omega) (by omega) (by omega)]; omega)) ?_; refine Jk rfl rfl rfl (JQ (j := i / 8) (m := 1) (off' := i / 8) rfl rfl rfl rfl (by omega) (by omega) (by omega)) ?_; refine Jk rfl rfl rfl (KG rfl (kn 0 rfl) rfl (KT (by rw [(habk i).1]; omega))) ?_; refine Jk rfl rfl rfl (Jo rfl) ?_; refine Jk rfl rfl rfl (J9 rfl rfl rfl) ?_; refine Qk (show _ = uV (u.getD i 0).toNat from congrArg (Value.int .u64) (wrap_u64 (z := ((u.getD i 0).toNat : Int)) (by omega) (by have := Vu (u.getD i 0); omega))) ?_; refine Jk rfl rfl rfl (Jo rfl) ?_; refine Jk rfl rfl rfl (J9 rfl rfl rfl) ?_; refine Qk (show _ = Value.int .i64 ((i % 8 : Nat) : Int) from congrArg (Value.int .i64) (by rw [Int.tmod_eq_emod_of_nonneg (by omega)]; omega)) ?_; refine Jk rfl rfl rfl (J9 rfl rfl rfl) ?_; refine Qk (show _ = Value.int .i64 ((i % 8 * 8 : Nat) : Int) from congrArg (Value.int .i64) (by rw [wrap_i64 (by omega) (by omega)]; omega)) ?_; refine Jk rfl rfl rfl (yz (n := i % 8 * 8) rfl rfl rfl (show _ ≤ 64 from by omega) (zO (vQ (Vu _) (by omega)))) ?_; refine Jk rfl rfl rfl (V0 (op := .xor) (b := (((abS a u i).getD (i / 8) 0 ^^^ (u.getD i 0).toNat * 2 ^ (i % 8 * 8) : Nat) : Int)) rfl rfl rfl ((habk i).get _) (vQ (Vu _) (by omega)) rfl) ?_; refine Jk rfl rfl rfl (JQ (j := i / 8) (m := 1) (off' := i / 8) rfl rfl rfl rfl (by omega) (by omega) (by omega)) ?_; refine Kt ?_; refine KS (k := 0) (off := i / 8) (xs := (abS a u i).map uV) (ys := (abS a u (i + 1)).map uV) rfl rfl rfl rfl rfl rfl (by rw [List.length_map, (habk i).1]; omega) (W6 rfl) rfl ?_; refine Jg (Jj (hK11 ?_)); refine Ja (JZ rfl (Jt (by omega) (by omega) ?_)); refine Ji rfl (Jg (J5 ?_)); exact J1 (i + 1) (by omega) (by omega) (.cons rfl (.cons rfl (.cons rfl (.cons rfl .nil)))) (List.Sublist.refl _) (fun _ _ h => h)
  try simp only [ZZ] at h10
  refine JE (Jl ?_); refine Jl (J0 (hK6 ?_))
  have hi136 : 136 = i := by omega
  subst hi136; refine Ja (LR rfl (Jq (xs := (abS a u 136).map uV) (n := 25) rfl (kn 0 rfl) rfl rfl (by rw [List.length_map, (habk 136).1])) (JD rfl rfl rfl (enters_of Tryz.func238 (by kernel_rfl) rfl) (Jit (habk 136)) ?_)); refine Jz (k := 0) (n := 25) (ys := (yK (abS a u 136)).map uV) rfl rfl rfl rfl rfl (by rw [List.length_map, (Jb0 (habk 136)).1]) (by rw [List.size_toArray, List.length_map, (habk 136).1]) (YI _) rfl ?_; refine Jg (Jj (QN (Jb1 t (jj + 1)) ⟨rfl, by omega⟩ ?_)); rw [show Jb1 t (jj + 1) = yK (abS a u 136) from by rw [hu, hsa]; rfl]; rfl
  rintro D jj a hfi ⟨hsa, -⟩
  have hjN : jj = N := hfi
  have hak : SOk 25 a := by rw [hsa]; exact xu t jj
  have hkec2 : WM s = jw a 32 := by rw [hkec, hsa, hjN]
  refine Jj (hK4 ?_); refine sR fun _ hK13 => ?_; refine Wz (n := 32) (b := 1) rfl rfl rfl rfl rfl rfl rfl rfl rfl (by decide) (by decide) fun r2 => ?_; refine Ji rfl (nK hK13 ?_); refine sQ fun _ hK14 => sR fun _ hK15 => ?_; refine Ji rfl (LR rfl (KI rfl rfl) (Ji rfl ?_)); refine nK hK15 ?_; refine Ju (JG (σ := Nat) (fun i => i ≤ 32) (fun i => [(5, .pointer (some ⟨r1, 0, none⟩)), (9, .slice (some ⟨r2, 0, none⟩) 32 32), (47, .int .i64 32), (48, .int .i64 (i : Int))]) (fun i => [(r2, .cells ((jw a i ++ List.replicate (32 - i) 0).map bV).toArray 5 (0, 0)), (D, .deferred (some [])), (r1, kO a)]) (fun _ _ _ => True) (fun i => 32 - i) 0 (Nat.zero_le _) (.cons rfl (.cons rfl (.cons rfl (.cons rfl .nil)))) (.cons_cons _ (.cons_cons _ (.cons_cons _ (List.nil_sublist _)))) (fun _ _ h => h) ?_); intro i hi; refine sR fun _ hK16 => JZ rfl (nK hK16 ?_); refine sQ fun _ hK17 => ?_; refine Jc rfl (fun h18 => ?_) (fun h18 => ?_)
  try simp only [ZZ] at h18
  refine Jf (hK17 ?_); refine sB fun _ hK19 => sR fun _ hK20 => ?_; refine LS 2 [] rfl rfl (nK hK20 ?_); refine Ja (LS 4 [] rfl rfl ?_); refine Jy (show _ = Value.int .i64 ((i / 8 : Nat) : Int) from congrArg (Value.int .i64) (by rw [QM (by omega) (by omega) (by omega)]; omega)) ?_; refine LR rfl (JQ (j := i / 8) (m := 1) (off' := i / 8) rfl rfl rfl rfl (by omega) (by omega) (by omega)) ?_; refine LR rfl (KG rfl (kn 2 rfl) rfl (KT (by rw [hak.1]; omega))) ?_; refine LS 2 [] rfl rfl ?_; refine Jy (show _ = Value.int .i64 ((i % 8 : Nat) : Int) from congrArg (Value.int .i64) (by rw [Int.tmod_eq_emod_of_nonneg (by omega)]; omega)) ?_; refine JZ rfl ?_; refine Jy (show _ = Value.int .i64 ((i % 8 * 8 : Nat) : Int) from congrArg (Value.int .i64) (by rw [wrap_i64 (by omega) (by omega)]; omega)) ?_; refine LR rfl (vL (n := i % 8 * 8) rfl rfl rfl (show _ ≤ 64 from by omega) (by omega) (ve _ _)) ?_; refine JZ rfl (Jy (show _ = bV (UInt8.ofNat (a.getD (i / 8) 0 / 2 ^ (i % 8 * 8) % 256)) from jg _) (LR rfl (Ki (j := i) (m := 1) (off' := i) rfl rfl rfl rfl rfl (by omega) (by omega)) ?_)); refine KS (k := 0) (off := i) (xs := (jw a i ++ List.replicate (32 - i) 0).map bV) (ys := (jw a (i + 1) ++ List.replicate (32 - (i + 1)) 0).map bV) rfl rfl rfl rfl rfl rfl (by simp [WG]; omega) (Jmi (by omega)) rfl ?_; refine Jg (Jj (hK19 ?_)); refine Ja (JZ rfl (Jt (by omega) (by omega) ?_)); refine Ji rfl (Jg (J5 ?_)); exact J1 (i + 1) (by omega) (by omega) (.cons rfl (.cons rfl (.cons rfl (.cons rfl .nil)))) (List.Sublist.refl _) (fun _ _ h => h)
  try simp only [ZZ] at h18
  refine JE (Jl ?_); refine Jl (J0 (hK14 ?_)); refine sQ fun _ hK21 => ?_
  have hi32 : 32 = i := by omega
  subst hi32; refine Ja (Ji rfl ?_); refine LR rfl (QH (b := jw a 32) (row := some (r2, 32, [])) (e := 5) (show _ = some (JF (jw a 32).length (some (r2, 32, []))) from by rw [WG]; rfl) ⟨by simp [WG], by simp [WG]⟩ (fun p hp => .inl (by rw [List.mem_singleton.1 hp]; simp)) rfl rfl rfl) ?_; refine Ji rfl (nK hK21 ?_); refine Jb (QK (k := 1) rfl rfl ?_); refine pT rfl rfl rfl fun w1 hs1 => ?_; exact ⟨by rw [hkec2]; rfl, hs1.keep⟩
  · exact fun _ _ _ h => h.elim
section
variable {c : Cx} {l : Kn} {L : Jr} {X : XP} {d : List Deferred}
variable {i : Nat} {v : Value} {t : TypeId} {ps : String} {af : Array Edge} {gd : Option (Nat × Bool)} {ty t2 : TypeId}
end
def tXY : Nat → Nat × Nat
  | 0 => (1, 0)
  | t + 1 => ((tXY t).2, (2 * (tXY t).1 + 3 * (tXY t).2) % 5)
def tX (t : Nat) : Nat := (tXY t).1
def tY (t : Nat) : Nat := (tXY t).2
def tS (a : List Nat) : Nat → List Nat
  | 0 => a
  | t + 1 => (tS a t).set (tX t + 5 * tY t) (Jbw ((tS a t).getD (tX t + 5 * tY t) 0) ((t + 1) * (t + 2) / 2))
end Go.Proofs.YteceenlfegnigaaGreatDoor
namespace Go.SL
set_option linter.all false
open Go Go.RowKit Go.Shelf
abbrev BS : Type := List UInt8
theorem Yy : ∀ a : BS, Op.bytesLess a a = false
  | [] => rfl
  | x :: a => by simp [Op.bytesLess, Yy a]
theorem VL : ∀ {a b c : BS}, Op.bytesLess a b = true → Op.bytesLess b c = true → Op.bytesLess a c = true
  | _, [], _, h, _ => by simp [Op.bytesLess] at h
  | _, _ :: _, [], _, h => by simp [Op.bytesLess] at h
  | [], y :: b, z :: c, _, _ => rfl
  | x :: a, y :: b, z :: c, h, h2 => by
    simp only [Op.bytesLess, Bool.or_eq_true, decide_eq_true_eq, Bool.and_eq_true, beq_iff_eq] at h h2 ⊢
    rcases h with h | ⟨rfl, h⟩
    · rcases h2 with h2 | ⟨rfl, h2⟩
      · exact .inl (UInt8.lt_trans h h2)
      · exact .inl h
    · rcases h2 with h2 | ⟨rfl, h2⟩
      · exact .inl h2
      · exact .inr ⟨rfl, VL h h2⟩
theorem xx : ∀ a b : BS, a = b ∨ Op.bytesLess a b = true ∨ Op.bytesLess b a = true
  | [], [] => .inl rfl
  | [], _ :: _ => .inr (.inl rfl)
  | _ :: _, [] => .inr (.inr rfl)
  | x :: a, y :: b => by
    simp only [Op.bytesLess, Bool.or_eq_true, decide_eq_true_eq, Bool.and_eq_true, beq_iff_eq]
    by_cases h1 : x < y
    · exact .inr (.inl (.inl h1))
    by_cases h2 : y < x
    · exact .inr (.inr (.inl h2))
    have e : x = y := UInt8.le_antisymm (UInt8.not_lt.1 h2) (UInt8.not_lt.1 h1)
    subst e
    rcases xx a b with rfl | h | h
    · exact .inl rfl
    · exact .inr (.inl (.inr ⟨rfl, h⟩))
    · exact .inr (.inr (.inr ⟨rfl, h⟩))
theorem xy {a b : BS} (h : Op.bytesLess a b = true) : Op.bytesLess b a = false := by
  cases h2 : Op.bytesLess b a
  · rfl
  · have := VL h h2; rw [Yy] at this; cases this
theorem yM {a b : BS} (h : Op.bytesLess a b = true) : a ≠ b := by rintro rfl; rw [Yy] at h; cases h
theorem Jmj {a b : BS} (h : Op.bytesLess a b = false) (hn : a ≠ b) : Op.bytesLess b a = true := by
  rcases xx a b with h1 | h1 | h1
  · exact absurd h1 hn
  · rw [h] at h1; cases h1
  · exact h1
section
variable {α : Type} (kf : α → BS)
def QL : List α → Bool
  | [] => true
  | [_] => true
  | x :: y :: l => Op.bytesLess (kf x) (kf y) && QL (y :: l)
abbrev KE (l : List α) : Prop := l.Pairwise fun x y => Op.bytesLess (kf x) (kf y) = true
theorem qe : ∀ l : List α, QL kf l = true ↔ KE kf l
  | [] => by simp [QL]
  | [_] => by simp [QL]
  | x :: y :: l => by
    rw [QL, Bool.and_eq_true, qe (y :: l)]
    refine Iff.trans ?_ List.pairwise_cons.symm
    constructor
    · rintro ⟨h1, h2⟩
      refine ⟨fun z hz => ?_, h2⟩
      rcases List.mem_cons.1 hz with rfl | hz
      · exact h1
      · exact VL h1 ((List.pairwise_cons.1 h2).1 z hz)
    · rintro ⟨h1, h2⟩
      exact ⟨h1 y List.mem_cons_self, h2⟩
def Vb (k : BS) (l : List α) : Option α := l.find? fun x => kf x == k
def Q0 (x : α) : List α → List α
  | [] => [x]
  | y :: ys => if Op.bytesLess (kf y) (kf x) then y :: Q0 x ys else if kf y = kf x then x :: ys else x :: y :: ys
def qf (k : BS) (l : List α) : List α := l.filter fun y => !(kf y == k)
variable {kf}
theorem Qu {k : BS} {y : α} {l : List α} : Vb kf k (y :: l) = if kf y = k then some y else Vb kf k l := by
  unfold Vb
  rw [List.find?_cons]
  by_cases h : kf y = k
  · simp [h]
  · rw [if_neg h, show (kf y == k) = false from by simpa using h]
theorem yN {k : BS} {y : α} {l : List α} (h : Vb kf k l = some y) : kf y = k ∧ y ∈ l := ⟨by have := List.find?_some h; simpa using this, List.mem_of_find?_eq_some h⟩
theorem Jer {k : BS} {l : List α} (h : ∀ y ∈ l, kf y ≠ k) : Vb kf k l = none := by
  unfold Vb; rw [List.find?_eq_none]; intro x hx; simpa using h x hx
theorem yO {y : α} : ∀ {l : List α}, KE kf l → y ∈ l → Vb kf (kf y) l = some y
  | z :: l, hs, hm => by
    rw [Qu]
    obtain ⟨h1, h2⟩ := List.pairwise_cons.1 hs
    rcases List.mem_cons.1 hm with rfl | hm
    · rw [if_pos rfl]
    · rw [if_neg (yM (h1 y hm)), yO h2 hm]
theorem vm {x y : α} : ∀ {l : List α}, y ∈ Q0 kf x l → y = x ∨ y ∈ l
  | [], h => by simpa [Q0] using h
  | z :: l, h => by
    unfold Q0 at h
    split at h
    · rcases List.mem_cons.1 h with rfl | h
      · exact .inr List.mem_cons_self
      · exact (vm h).elim .inl fun h => .inr (List.mem_cons_of_mem _ h)
    · split at h
      · rcases List.mem_cons.1 h with rfl | h
        · exact .inl rfl
        · exact .inr (List.mem_cons_of_mem _ h)
      · exact List.mem_cons.1 h
theorem wf {x : α} : ∀ {l : List α}, KE kf l → KE kf (Q0 kf x l)
  | [], _ => by simp [Q0]
  | z :: l, h => by
    obtain ⟨h1, h2⟩ := List.pairwise_cons.1 h
    unfold Q0
    split
    · rename_i hz
      refine List.pairwise_cons.2 ⟨fun y hy => ?_, wf h2⟩
      rcases vm hy with rfl | hy
      · exact hz
      · exact h1 y hy
    · rename_i hz
      split
      · rename_i he
        exact List.pairwise_cons.2 ⟨fun y hy => he ▸ h1 y hy, h2⟩
      · rename_i he
        have hx := Jmj (by simpa using hz) he
        refine List.pairwise_cons.2 ⟨fun y hy => ?_, h⟩
        rcases List.mem_cons.1 hy with rfl | hy
        · exact hx
        · exact VL hx (h1 y hy)
theorem Jb4 {x : α} {k : BS} : ∀ {l : List α}, KE kf l → Vb kf k (Q0 kf x l) = if kf x = k then some x else Vb kf k l
  | [], _ => by unfold Q0; rw [Qu]
  | z :: l, h => by
    obtain ⟨h1, h2⟩ := List.pairwise_cons.1 h
    unfold Q0
    split
    · rename_i hz
      rw [Qu, Qu, Jb4 h2]
      by_cases hk : kf z = k
      · subst hk
        rw [if_pos rfl, if_neg (fun e => yM hz e.symm), if_pos rfl]
      · rw [if_neg hk, if_neg hk]
    · split
      · rename_i he
        rw [Qu, Qu, he]
        split <;> rfl
      · rw [Qu]
theorem Jgo {x : α} : ∀ {l : List α}, KE kf l → (Q0 kf x l).length = if (Vb kf (kf x) l).isSome then l.length else l.length + 1
  | [], _ => rfl
  | z :: l, h => by
    obtain ⟨h1, h2⟩ := List.pairwise_cons.1 h
    unfold Q0
    rw [Qu]
    split
    · rename_i hz
      rw [List.length_cons, Jgo h2, if_neg (yM hz)]
      split <;> rfl
    · rename_i hz
      split
      · rename_i he
        rfl
      · rename_i he
        have hx := Jmj (by simpa using hz) he
        rw [Jer (fun y hy e => ?_)]
        · rfl
        · have := VL hx (h1 y hy)
          rw [e, Yy] at this; cases this
theorem Jes {k : BS} {l : List α} (h : KE kf l) : KE kf (qf kf k l) := h.filter _
theorem Jb5 {k j : BS} : ∀ {l : List α}, Vb kf j (qf kf k l) = if k = j then none else Vb kf j l
  | [] => by simp [qf, Vb]
  | z :: l => by
    have ih := Jb5 (k := k) (j := j) (l := l)
    unfold qf at ih ⊢
    rw [List.filter_cons, Qu]
    by_cases hz : kf z = k
    · subst hz
      rw [if_neg (by simp), ih]
      split
      · rfl
      · rfl
    · rw [if_pos (by simpa using hz), Qu, ih]
      by_cases hj : kf z = j
      · subst hj
        rw [if_pos rfl, if_pos rfl, if_neg (fun e => hz e.symm)]
      · rw [if_neg hj, if_neg hj]
theorem Jrg {k : BS} {l : List α} {y : α} (h : y ∈ qf kf k l) : y ∈ l := (List.mem_filter.1 h).1
theorem Jgp {x : α} : ∀ {l : List α}, qf kf (kf x) (Q0 kf x l) = qf kf (kf x) l
  | [] => by simp [qf, Q0]
  | z :: l => by
    have ih := Jgp (x := x) (l := l)
    unfold qf at ih ⊢
    unfold Q0
    split
    · rw [List.filter_cons, ih, List.filter_cons]
    · split
      · rename_i he
        rw [List.filter_cons, List.filter_cons, he]
        simp
      · rw [List.filter_cons]
        simp
theorem Jmk {x : α} : ∀ {p q : List α}, (∀ y ∈ p, Op.bytesLess (kf y) (kf x) = true) → (∀ y ∈ q, Op.bytesLess (kf y) (kf x) = false) →
    Q0 kf x (p ++ q) = match q with
      | [] => p ++ [x]
      | y :: q' => if kf y = kf x then p ++ x :: q' else p ++ x :: y :: q'
  | [], [], _, _ => rfl
  | [], y :: q', _, h => by
    rw [List.nil_append, Q0, h y List.mem_cons_self]
    simp
  | z :: p, q, h1, h2 => by
    rw [List.cons_append, Q0, if_pos (h1 z List.mem_cons_self), Jmk (p := p) (fun y hy => h1 y (List.mem_cons_of_mem _ hy)) h2]
    cases q with
    | nil => rfl
    | cons y q' => dsimp only; split <;> rfl
end
def Vc : BS := List.replicate 32 0
structure W4 : Type where
  a : Nat
  b : Nat
  c : Nat
  d : Nat
deriving DecidableEq
def W4.l (w : W4) : List Nat := [w.a, w.b, w.c, w.d]
def w40 : W4 := ⟨0, 0, 0, 0⟩
def W4.of (l : List Nat) : W4 := ⟨l.getD 0 0, l.getD 1 0, l.getD 2 0, l.getD 3 0⟩
theorem W4.of_l {l : List Nat} (h : l.length = 4) : (W4.of l).l = l := by
  match l, h with
  | [a, b, c, d], _ => rfl
theorem W4.l_inj {x y : W4} (h : x.l = y.l) : x = y := by
  cases x; cases y; simp [W4.l] at h; simp [h]
structure AcE : Type where
  addr : BS
  nonce : Nat
  bal : W4
  code : BS
  slots : List (BS × BS)
deriving DecidableEq
def ac0 : AcE := ⟨[], 0, w40, [], []⟩
def YU (x : BS × BS) : Bool := decide (x.1.length ≠ 32) || decide (x.2.length ≠ 32)
def WP (x : BS × BS) : Bool := decide (x.2 = Vc)
def XE (a : AcE) : Int := if a.addr.length ≠ 20 ∨ a.slots.any YU = true then 2 else if QL Prod.fst a.slots = false then 11 else if a.code.length > 512 ∨ a.slots.length > 16 then 5 else if a.slots.any WP = true then 8 else 0
def Vd (last : Option BS) (a : AcE) : Int := if XE a ≠ 2 ∧ (∃ b, last = some b ∧ Op.bytesLess b a.addr = false) then 11 else XE a
instance (last : Option BS) (a : AcE) : Decidable (∃ b, last = some b ∧ Op.bytesLess b a.addr = false) := match last with
  | none => .isFalse (by simp)
  | some b => if h : Op.bytesLess b a.addr = false then .isTrue ⟨b, rfl, h⟩ else .isFalse (by simpa using h)
def goS : Option BS → List AcE → Int
  | _, [] => 0
  | last, a :: l => if Vd last a ≠ 0 then Vd last a else goS (some a.addr) l
def Qv (s : List AcE) : Int := if s.length > 32 then 5 else goS none s
def VC (s : List AcE) (k : BS) : Option AcE := Vb AcE.addr k s
def Jrh (s : List AcE) (a : AcE) : List AcE × Int := if Qv s ≠ 0 then (s, Qv s) else if XE a ≠ 0 then (s, XE a) else if (Q0 AcE.addr a s).length > 32 then (s, 5) else (Q0 AcE.addr a s, 0)
def KX (a : AcE) (k : BS) : BS := match Vb Prod.fst k a.slots with
  | some x => x.2
  | none => Vc
def Qf (l : List (BS × BS)) (k v : BS) : List (BS × BS) := if v = Vc then qf Prod.fst k l else Q0 Prod.fst (k, v) l
def wg (a : AcE) (k v : BS) : AcE × Int := if XE a ≠ 0 then (a, XE a) else if k.length ≠ 32 ∨ v.length ≠ 32 then (a, 2) else if (Qf a.slots k v).length > 16 then (a, 5) else ({ a with slots := Qf a.slots k v }, 0)
theorem WW {a : AcE} (h : XE a = 0) : a.addr.length = 20 ∧ (∀ x ∈ a.slots, x.1.length = 32 ∧ x.2.length = 32 ∧ x.2 ≠ Vc) ∧ KE Prod.fst a.slots ∧ a.code.length ≤ 512 ∧ a.slots.length ≤ 16 := by
  unfold XE at h
  split at h
  · cases h
  rename_i h1
  split at h
  · cases h
  rename_i h2
  split at h
  · cases h
  rename_i h3
  split at h
  · cases h
  rename_i h4
  simp only [not_or, Decidable.not_not] at h1 h3
  refine ⟨h1.1, fun x hx => ?_, (qe _ _).1 (by simpa using h2), by omega, by omega⟩
  have a1 := h1.2
  simp only [Bool.not_eq_true, List.any_eq_false] at a1 h4
  have := a1 x hx
  have h5 := h4 x hx
  unfold YU at this
  unfold WP at h5
  simp at this h5
  exact ⟨this.1, this.2, h5⟩
theorem Jri {a : AcE} (h1 : a.addr.length = 20) (h2 : ∀ x ∈ a.slots, x.1.length = 32 ∧ x.2.length = 32 ∧ x.2 ≠ Vc) (h3 : KE Prod.fst a.slots) (h4 : a.code.length ≤ 512) (h5 : a.slots.length ≤ 16) : XE a = 0 := by
  unfold XE
  have e1 : ¬ a.slots.any YU = true := by
    simp only [Bool.not_eq_true, List.any_eq_false]
    intro x hx
    obtain ⟨a1, a2, _⟩ := h2 x hx
    simp [YU, a1, a2]
  have e2 : ¬ a.slots.any WP = true := by
    simp only [Bool.not_eq_true, List.any_eq_false]
    intro x hx
    obtain ⟨_, _, a3⟩ := h2 x hx
    simp [WP, a3]
  have e3 := (qe Prod.fst a.slots).2 h3
  rw [if_neg (fun h => h.elim (fun h => h h1) e1), if_neg (by rw [e3]; simp), if_neg (by omega), if_neg e2]
theorem Jiv (a : AcE) : Vd none a = XE a := by unfold Vd; rw [if_neg (by simp)]
theorem Jgq {last : Option BS} {a : AcE} : Vd last a = 0 ↔ XE a = 0 ∧ ∀ b, last = some b → Op.bytesLess b a.addr = true := by
  unfold Vd
  split
  · rename_i h
    obtain ⟨h1, b, h2, h3⟩ := h
    constructor
    · intro h; cases h
    · rintro ⟨_, h⟩; rw [h b h2] at h3; cases h3
  · rename_i h
    constructor
    · intro h0
      refine ⟨h0, fun b hb => ?_⟩
      cases h4 : Op.bytesLess b a.addr
      · exact absurd ⟨by omega, b, hb, h4⟩ h
      · rfl
    · exact fun h => h.1
theorem Jtp : ∀ {last : Option BS} {s : List AcE}, goS last s = 0 ↔ (∀ a ∈ s, XE a = 0) ∧ KE AcE.addr s ∧ (∀ b, last = some b → ∀ a ∈ s, Op.bytesLess b a.addr = true)
  | last, [] => by simp [goS]
  | last, a :: l => by
    rw [goS]
    split
    · rename_i h
      constructor
      · intro h0; exact absurd h0 h
      · rintro ⟨h1, h2, h3⟩
        exact absurd (Jgq.2 ⟨h1 a List.mem_cons_self, fun b hb => h3 b hb a List.mem_cons_self⟩) h
    · rename_i h
      have h := Jgq.1 (Decidable.not_not.1 h)
      rw [Jtp]
      constructor
      · rintro ⟨h1, h2, h3⟩
        refine ⟨fun x hx => ?_, List.pairwise_cons.2 ⟨fun x hx => h3 _ rfl x hx, h2⟩, fun b hb x hx => ?_⟩
        · rcases List.mem_cons.1 hx with rfl | hx
          · exact h.1
          · exact h1 x hx
        · rcases List.mem_cons.1 hx with rfl | hx
          · exact h.2 b hb
          · exact VL (h.2 b hb) (h3 _ rfl x hx)
      · rintro ⟨h1, h2, h3⟩
        obtain ⟨h4, h5⟩ := List.pairwise_cons.1 h2
        exact ⟨fun x hx => h1 x (List.mem_cons_of_mem _ hx), h5, fun b hb x hx => by cases hb; exact h4 x hx⟩
theorem xz {s : List AcE} : Qv s = 0 ↔ s.length ≤ 32 ∧ (∀ a ∈ s, XE a = 0) ∧ KE AcE.addr s := by
  unfold Qv
  split
  · constructor
    · intro h; cases h
    · rintro ⟨h, _⟩; omega
  · rw [Jtp]
    constructor
    · rintro ⟨h1, h2, _⟩; exact ⟨by omega, h1, h2⟩
    · rintro ⟨_, h1, h2⟩; exact ⟨h1, h2, by simp⟩
open Go.Proofs (Enters enters_of)
structure PureT {α : Type} (P : Program) (f : FuncId) (args : Array Value) (V : α → Value) (T : Jr) (LL : α → Jr) (Rl : Jr) : Prop where
  run : ∀ w, jT T w → jT Rl w → (T.Pairwise fun p q => p.1 ≠ q.1) → (∀ p ∈ Rl, ∀ q ∈ T, p.1 ≠ q.1) → Calls P f args w fun e w' => ∃ x, e = .returned (V x) ∧ Keep (T.map (·.1)) w w' ∧ (∀ p ∈ LL x, (p.1 ∈ T.map (·.1) ∨ w.heap.size ≤ p.1) ∧ w'.heap[p.1]? = some p.2) ∧ (LL x).Pairwise fun p q => p.1 ≠ q.1
def cxT (P : Program) (w : World) (T Rl : Jr) (n : Nat) : Cx := ⟨P, none, w, T.map (·.1), [], Rl, n⟩
theorem St.startT {P : Program} {w : World} {n : Nat} {T Rl : Jr} (hT : jT T w) (hR : jT Rl w) (hd : T.Pairwise fun p q => p.1 ≠ q.1) (hne : ∀ p ∈ Rl, ∀ q ∈ T, p.1 ≠ q.1) : St (cxT P w T Rl n) T (fun _ _ => True) w :=
  ⟨Keep.refl _ _, fun p hp => ⟨.inl (List.mem_map.2 ⟨p, hp, rfl⟩), by simp [cxT], hT p hp⟩, hd, fun p hp => ⟨fun h => by obtain ⟨q, hq, e⟩ := List.mem_map.1 h; exact hne p hp q hq e.symm, by simp [cxT], hR p hp⟩, by simp [cxT], ⟨[], by simp, fun _ _ => trivial⟩⟩
theorem JH {α : Type} {P : Program} {f : FuncId} {fn : Func} {code : Code} {vs : List Value} {V : α → Value} {T Rl : Jr} {LL : α → Jr} (hf : P.funcs[f]? = some fn) (hb : fn.body = some code) (hlen : Nat.ble vs.length fn.ntmps = true)
    (h : ∀ w, HC (cxT P w T Rl fn.ntmps) [] (Vg 0 vs) T (fun _ _ => True) code (bodyPostM (FW none) 0 P fn (fun e w' => ∃ x, e = .returned (V x) ∧ St (cxT P w T Rl fn.ntmps) (LL x) (fun _ _ => True) w'))) : PureT P f vs.toArray V T LL Rl := ⟨fun w hT hR hd hne =>
  (QB (cxT P w T Rl fn.ntmps) hf hb rfl rfl rfl hlen (St.startT hT hR hd hne) (h w)).mono fun _ _ ⟨x, he, hs⟩ => ⟨x, he, by have := hs.keep; simpa [cxT] using this, fun p hp => ⟨(hs.own p hp).1, (hs.own p hp).2.2⟩, hs.distinct⟩⟩
section
variable {c : Cx} {l : Kn} {L : Jr} {X : XP} {Q : Exit → Act → World → Prop} {d : List Deferred}
variable {ops : Array Oper} {rest : List Oper} {i : Nat} {v : Value} {t : TypeId} {ps : String} {af : Array Edge} {gd : Option (Nat × Bool)} {ty t2 : TypeId}
theorem St.turnT {T L0 LL : Jr} {w w' : World} (hs : St c (T ++ L0) X w) (hk : Keep (T.map (·.1)) w w') (hL : ∀ p ∈ LL, (p.1 ∈ T.map (·.1) ∨ w.heap.size ≤ p.1) ∧ w'.heap[p.1]? = some p.2) (hd : LL.Pairwise fun p q => p.1 ≠ q.1) : St c (LL ++ L0) X w' := by
  have hT : ∀ p ∈ T, p ∈ T ++ L0 := fun p hp => List.mem_append_left _ hp
  have hle := hs.keep.size
  obtain ⟨hd1, hd2, hd3⟩ := List.pairwise_append.1 hs.distinct
  have hin : ∀ k ∈ T.map (·.1), ∃ p ∈ T, p.1 = k := fun k hk => by obtain ⟨p, hp, e⟩ := List.mem_map.1 hk; exact ⟨p, hp, e⟩
  refine ⟨hs.keep.glue hk ?_, fun p hp => ?_, ?_, hs.ext, hs.xlt, ?_⟩
  · intro k hk
    obtain ⟨p, hp, rfl⟩ := hin k hk
    exact (hs.own p (hT p hp)).1.imp (fun h => List.mem_append_left _ h) id
  · rcases List.mem_append.1 hp with hp | hp
    · obtain ⟨h1, h2⟩ := hL p hp
      rcases h1 with h1 | h1
      · obtain ⟨q, hq, e⟩ := hin _ h1
        obtain ⟨g1, g2, _⟩ := hs.own q (hT q hq)
        rw [e] at g1 g2
        exact ⟨g1, g2, h2⟩
      · exact ⟨.inr (by omega), fun hx => (by have := hs.xlt _ hx; omega), h2⟩
    · obtain ⟨g1, g2, g3⟩ := hs.own p (List.mem_append_right _ hp)
      refine ⟨g1, g2, ?_⟩
      rw [hk.block _ (Js g3) (fun h => by obtain ⟨q, hq, e⟩ := hin _ h; exact hd3 q hq p hp e)]
      exact g3
  · refine List.pairwise_append.2 ⟨hd, hd2, fun p hp q hq => ?_⟩
    rcases (hL p hp).1 with h1 | h1
    · obtain ⟨u, hu, e⟩ := hin _ h1
      rw [← e]; exact hd3 u hu q hq
    · have := Js (hs.own q (List.mem_append_right _ hq)).2.2
      omega
  · obtain ⟨xs, e1, e2⟩ := hs.x
    refine ⟨xs, fun k hkx => ?_, fun w2 hw2 => e2 w2 fun k hkx => (hw2 k hkx).trans (hk.block k (e1 k hkx).2.1 (fun h => by obtain ⟨q, hq, e⟩ := hin _ h; exact (e1 k hkx).2.2 q (hT q hq) e))⟩
    obtain ⟨a1, a2, a3⟩ := e1 k hkx
    refine ⟨a1, Nat.lt_of_lt_of_le a2 hk.size, fun p hp => ?_⟩
    rcases List.mem_append.1 hp with hp | hp
    · rcases (hL p hp).1 with h1 | h1
      · obtain ⟨u, hu, e⟩ := hin _ h1
        rw [← e]; exact a3 u (hT u hu)
      · omega
    · exact a3 p (List.mem_append_right _ hp)
theorem Vn {α : Type} {T L0 Rl : Jr} {f : Operand} {args : Array Operand} {at_ : Array TypeId} {g : FuncId} {vs : List Value} {V : α → Value} {LL : α → Jr}
    (hp : L.Perm (T ++ L0)) (hg : Kj l ops ⟨some i, .call ⟨.value f, args, at_⟩, ty, ps, af, gd⟩ = some true) (hi : Nat.ble (i + 1) c.n = true) (hca : KA l f args = some (g, vs)) (eg : Enters c.P g)
    (hpt : PureT c.P g vs.toArray V T LL Rl) (hR : ∀ p ∈ Rl, known c L0 p.1 p.2) (h : ∀ x, HL c d ((i, V x) :: l) (LL x ++ L0) X ops rest Q) : HL c d l L X ops (⟨some i, .call ⟨.value f, args, at_⟩, ty, ps, af, gd⟩ :: rest) Q :=
  XU (V := V) (L' := fun x => LL x ++ L0) (X' := fun _ => X) hg hi hca eg (fun w hs => by
    have hs := hs.perm hp
    obtain ⟨hd1, _, hd3⟩ := List.pairwise_append.1 hs.distinct
    refine (hpt.run w (fun p hp => (hs.own p (List.mem_append_left _ hp)).2.2) (fun p hp => ?_) hd1 (fun p hp q hq => ?_)).mono fun _ _ ⟨x, he, hk, h1, h2⟩ => ⟨x, he, hs.turnT hk h1 h2⟩
    · exact (hR p hp).elim (fun h => (hs.own _ (List.mem_append_right _ h)).2.2) hs.readR
    · rcases hR p hp with h | h
      · exact fun e => hd3 q hq _ h e.symm
      · rintro e
        obtain ⟨h1, _, h3⟩ := hs.ext _ h
        have h3 := Js h3
        rcases (hs.own q (List.mem_append_left _ hq)).1 with h4 | h4
        · exact h1 (e ▸ h4)
        · simp only at h3 e; omega) h
theorem Qr {α : Type} {Rl : Jr} {f : Operand} {args : Array Operand} {at_ : Array TypeId} {g : FuncId} {vs : List Value} {V : α → Value} {LL : α → Jr}
    (hg : Kj l ops ⟨some i, .call ⟨.value f, args, at_⟩, ty, ps, af, gd⟩ = some true) (hi : Nat.ble (i + 1) c.n = true) (hca : KA l f args = some (g, vs)) (eg : Enters c.P g)
    (hpt : PureT c.P g vs.toArray V [] LL Rl) (hR : ∀ p ∈ Rl, known c L p.1 p.2) (h : ∀ x, HL c d ((i, V x) :: l) (LL x ++ L) X ops rest Q) : HL c d l L X ops (⟨some i, .call ⟨.value f, args, at_⟩, ty, ps, af, gd⟩ :: rest) Q :=
  Vn (T := []) (L0 := L) (List.Perm.refl _) hg hi hca eg hpt hR h
theorem PureR.toT {P : Program} {f : FuncId} {args : Array Value} {v : Value} {Rl : Jr} (h : PureR P f args v Rl) : PureT (α := Unit) P f args (fun _ => v) [] (fun _ => []) Rl :=
  ⟨fun w _ hR _ _ => (h.run w hR).mono fun _ _ ⟨he, hk⟩ => ⟨(), he, hk, by simp, List.Pairwise.nil⟩⟩
theorem PureT.map {α β : Type} {P : Program} {f : FuncId} {args : Array Value} {V : α → Value} {V' : β → Value} {T Rl : Jr} {LL : α → Jr} {LL' : β → Jr} (h : PureT P f args V T LL Rl) (g : α → β) (hv : ∀ x, V x = V' (g x)) (hl : ∀ x, (LL' (g x)).Sublist (LL x)) : PureT P f args V' T LL' Rl :=
  ⟨fun w hT hR hd hne => (h.run w hT hR hd hne).mono fun _ _ ⟨x, he, hk, h1, h2⟩ => ⟨g x, he.trans (by rw [hv]), hk, fun p hp => h1 p ((hl x).subset hp), h2.sublist (hl x)⟩⟩
theorem Jb6 {P : Program} (w : World) (dT sT ty e : TypeId) (inf : TypeInfo) (hu : P.underlying dT = some (.slice e)) (hi : P.info? e = some inf) {r off dl dc r2 off2 sl sc n : Nat} {cs : Array Value} {e1 : TypeId} {vs : List Value}
    (hn : Nat.min sl dl = n) (hb : w.heap[r]? = some (.cells cs e1 (0, 0))) (hl : vs.length = n * inf.size) (hsrc : ∀ j v, vs[j]? = some v → w.cell? ((⟨r2, off2, none⟩ : Addr).add j) = some v) (hfit : off + n * inf.size ≤ cs.size) (h1 : ∀ v ∈ vs, v.oneCell' = true) :
    (Builtin.copy_ #[dT, sT] ty #[.slice (some ⟨r, off, none⟩) dl dc, .slice (some ⟨r2, off2, none⟩) sl sc]).run P w = .ok (.int .i64 n) (w.setRow r (cs.toList.take off ++ vs ++ cs.toList.drop (off + n * inf.size)).toArray) := by
  have hl1 := run_loadCells_list (P := P) w ⟨r2, off2, none⟩ vs hsrc
  rw [hl] at hl1
  have hst := run_storeCells_at (P := P) r off e1 vs 0 cs w hb (by rw [Nat.add_zero, hl]; exact hfit) h1
  rw [Nat.add_zero, hl] at hst
  have hn' : min sl dl = n := hn
  simp [Builtin.copy_, run_underlying hu, Builtin.lenOf, Builtin.firstCells, sizeOf, typeInfo, hi, hn', hl1, hst, Result.andThen, goInt]
theorem XG {x y : Operand} {e sz k r off dl dc r2 off2 sl sc n : Nat} {cs cs2 : Array Value} {e1 e2 : TypeId} {fr2 : Nat × Nat} {vs cs' : List Value} {L' : Jr}
    (hg : Kj l ops ⟨some i, .call ⟨.builtin .copy, #[x, y], #[t, t2]⟩, ty, ps, af, gd⟩ = some true) (hi : Nat.ble (i + 1) c.n = true)
    (hx : Ke l x = some (.slice (some ⟨r, off, none⟩) dl dc)) (hy : Ke l y = some (.slice (some ⟨r2, off2, none⟩) sl sc)) (hk : L[k]? = some (r, .cells cs e1 (0, 0))) (hk2 : known c L r2 (.cells cs2 e2 fr2))
    (ht : Kl c.P t = some e) (hs : KF c.P e = some sz) (hn : Nat.min sl dl = n) (hvs : (cs2.toList.drop off2).take (n * sz) = vs) (hl : vs.length = n * sz) (hone : vs.all QR = true) (hfit : off + n * sz ≤ cs.size)
    (hcs : cs.toList.take off ++ vs ++ cs.toList.drop (off + n * sz) = cs') (hL : L.set k (r, .cells cs'.toArray e1 (0, 0)) = L')
    (h : HL c d ((i, .int .i64 n) :: l) L' X ops rest Q) : HL c d l L X ops (⟨some i, .call ⟨.builtin .copy, #[x, y], #[t, t2]⟩, ty, ps, af, gd⟩ :: rest) Q := by
  obtain ⟨inf, hinf, hs'⟩ : ∃ inf, c.P.info? e = some inf ∧ inf.size = sz := by
    unfold KF at hs
    cases hq : c.P.info? e with
    | none => simp [hq] at hs
    | some inf => simp only [hq, Option.some.injEq] at hs; exact ⟨inf, rfl, hs⟩
  subst hs'
  refine Jke (v := .int .i64 n) (L' := L') hg rfl rfl hi (fun a w hf hst => ⟨w.setRow r cs'.toArray, ?_, ?_⟩) h
  · have hr := Jb6 (P := c.P) w t t2 ty e inf (Kc ht) hinf (dc := dc) (sc := sc) hn (hst.get hk) hl (Xj (hst.known hk2) hvs) hfit (fun u hu => by rw [X7]; exact List.all_eq_true.1 hone u hu)
    rw [hcs] at hr
    have ex := hf.eval hx
    have ey := hf.eval hy
    simp [execOp, resolve, Sem.run_bind, ex, ey, Result.andThen, invoke, builtin, hr]
  · subst hL
    exact hst.set hk (Keep.setRow r cs'.toArray) (setRow_heap _ _ _ _ _ _ (hst.get hk))
theorem Jet (z : Array Value) (n : Nat) : (Builtin.zeroCells z n).toList = (List.range (n * z.size)).map (fun i => z.toList.getD (i % z.size) default) := by
  unfold Builtin.zeroCells
  simp
  intro a _
  rw [getElem!_def]
  cases z[a % z.size]? <;> rfl
theorem Jrj {o : Oper} {L' : Jr} (hg : Kj l ops o = some true) (hn : Kp o.op = true) (hd : o.dst = none)
    (hr : ∀ a w, Fr c.n d l a → St c L X w → ∃ w', (execOp a.eval o).run c.P w = .ok (.value v) w' ∧ St c L' X w') (h : HL c d l L' X ops rest Q) : HL c d l L X ops (o :: rest) Q := fun a w hf hs => by
  obtain ⟨w', h1, h2⟩ := hr a w hf hs
  refine QA (JB hf hg) hn ?_
  rw [h1, Oper.uponIn_value, hd]
  exact h a w' hf h2
theorem Jiw {x : Operand} {e sz k r off n cap : Nat} {z : Value} {cs : Array Value} {e1 : TypeId} {cs' : List Value} {L' : Jr}
    (hg : Kj l ops ⟨none, .call ⟨.builtin .clear, #[x], #[t]⟩, ty, ps, af, gd⟩ = some true)
    (hx : Ke l x = some (.slice (some ⟨r, off, none⟩) n cap)) (hk : L[k]? = some (r, .cells cs e1 (0, 0))) (ht : Kl c.P t = some e) (hz : QE c.P e = some z) (hs : z.cells.size = sz) (hone : z.cells.toList.all QR = true) (hsz : 0 < sz) (hfit : off + n * sz ≤ cs.size)
    (hcs : cs.toList.take off ++ (Builtin.zeroCells z.cells n).toList ++ cs.toList.drop (off + n * sz) = cs') (hL : L.set k (r, .cells cs'.toArray e1 (0, 0)) = L')
    (h : HL c d l L' X ops rest Q) : HL c d l L X ops (⟨none, .call ⟨.builtin .clear, #[x], #[t]⟩, ty, ps, af, gd⟩ :: rest) Q := by
  have hlen : (Builtin.zeroCells z.cells n).toList.length = n * sz := by rw [Array.length_toList, size_zeroCells, hs]
  have hone' : ∀ u ∈ (Builtin.zeroCells z.cells n).toList, u.oneCell' = true := fun u hu => by
    rw [Jet] at hu
    obtain ⟨j, hj, rfl⟩ := List.mem_map.1 hu
    rw [X7]
    have hj2 : j % z.cells.size < z.cells.toList.length := by rw [Array.length_toList]; exact Nat.mod_lt _ (by omega)
    rw [List.getD_eq_getElem?_getD, List.getElem?_eq_getElem hj2]
    exact List.all_eq_true.1 hone _ (List.getElem_mem _)
  refine Jrj (v := .tuple #[]) (L' := L') hg rfl rfl (fun a w hf hst => ?_) h
  have ex := hf.eval hx
  have hst2 := run_storeCells_at (P := c.P) r off e1 (Builtin.zeroCells z.cells n).toList 0 cs w (hst.get hk) (by rw [Nat.add_zero, hlen]; exact hfit) hone'
  rw [Nat.add_zero, hlen, hcs] at hst2
  cases n with
  | zero =>
    refine ⟨w, ?_, ?_⟩
    · simp [execOp, resolve, Sem.run_bind, ex, Result.andThen, invoke, builtin, Builtin.clear_, Qd (Kc ht)]
    · have : cs' = cs.toList := by
        rw [← hcs]
        have : (Builtin.zeroCells z.cells 0).toList = [] := List.length_eq_zero_iff.1 (by rw [hlen, Nat.zero_mul])
        rw [this, List.append_nil, Nat.zero_mul, Nat.add_zero, List.take_append_drop]
      rw [this] at hL
      have e2 : L.set k (r, .cells cs.toList.toArray e1 (0, 0)) = L := by
        obtain ⟨h1, h2⟩ := List.getElem?_eq_some_iff.1 hk
        rw [Array.toArray_toList, ← h2, List.set_getElem_self]
      rw [e2] at hL
      exact hL ▸ hst
  | succ n =>
    refine ⟨w.setRow r cs'.toArray, ?_, hL ▸ hst.set hk (Keep.setRow r cs'.toArray) (setRow_heap _ _ _ _ _ _ (hst.get hk))⟩
    simp [execOp, resolve, Sem.run_bind, ex, Result.andThen, invoke, builtin, Builtin.clear_, Qd (Kc ht), Xh hz, hst2]
theorem wh {x y : Operand} {e tn sz b r off n cap m : Nat} {kk : IntKind} {z : Value} {cs : Array Value} {e1 : TypeId} {fr : Nat × Nat} {xs : List Value} {kn : IntKind}
    (hg : Kj l ops ⟨some i, .call ⟨.builtin .append, #[x, y], #[t, tn]⟩, ty, ps, af, gd⟩ = some true) (hi : Nat.ble (i + 1) c.n = true)
    (hx : Ke l x = some (.slice (some ⟨r, off, none⟩) n cap)) (hy : Ke l y = some (.int kk (m : Int))) (hk : known c L r (.cells cs e1 fr)) (ht : Kl c.P t = some e) (htn : c.P.underlying tn = some (.int kn)) (hz : QE c.P e = some z) (hs : KF c.P e = some sz) (hb : Jaz c.P e = some b) (hzs : z.cells.size = sz) (hsz : 0 < sz)
    (hxs : (cs.toList.drop off).take (n * sz) = xs) (hl : xs.length = n * sz) (hm : 0 < m) (hno : cap < n + m) (hcap : n ≤ cap) (h63 : n + m ≤ 9223372036854775807) (h47 : (n + m) * b ≤ 140737488355328)
    (h : ∀ r' cap' (Z spare : List Value), Z.length = m * sz → (n + m) * sz + spare.length = cap' * sz → HL c d ((i, .slice (some ⟨r', 0, none⟩) (n + m) cap') :: l) ((r', .cells (xs ++ Z ++ spare).toArray e (0, 0)) :: L) X ops rest Q) :
    HL c d l L X ops (⟨some i, .call ⟨.builtin .append, #[x, y], #[t, tn]⟩, ty, ps, af, gd⟩ :: rest) Q := by
  obtain ⟨inf, hinf, hz', hs', hb'⟩ := qZ hz hs hb
  subst hs' hb'
  refine Wa (α := { p : Nat × Nat × List Value // (n + m) * inf.size + p.2.2.length = p.2.1 * inf.size }) (V := fun p => .slice (some ⟨p.1.1, 0, none⟩) (n + m) p.1.2.1)
    (L' := fun p => (p.1.1, .cells (xs ++ (Builtin.zeroCells z.cells m).toList ++ p.1.2.2).toArray e (0, 0)) :: L) (X' := fun _ => X) hg rfl rfl hi (fun a w hf hst => ?_) (fun p => h p.1.1 p.1.2.1 _ p.1.2.2 (by rw [Array.length_toList, size_zeroCells, hzs]) p.2)
  have ex := hf.eval hx
  have ey := hf.eval hy
  have hold : (Builtin.firstCells inf.size n (.slice (some ⟨r, off, none⟩) n cap)).run c.P w.drew = .ok xs.toArray w.drew :=
    run_firstCells_some (P := c.P) w.drew inf.size n ⟨r, off, none⟩ n cap xs hl (fun j u hj => Xj (hst.drew.known hk) hxs j u hj)
  have hmb : m * inf.bytes ≤ 281474976710656 := Nat.le_trans (Nat.mul_le_mul_right _ (Nat.le_add_left m n)) (by omega)
  have hr := Lib.run_append_grow_zeros (P := c.P) w t tn ty e inf z kk kn (Kc ht) htn hinf hz' (some ⟨r, off, none⟩) n cap xs hold m hm hsz hno (by omega) hmb (growslice_fits (by omega) h47)
  have hge := grownCap_ge w (n + m) cap e
  have e1 : (xs.toArray ++ Builtin.zeroCells z.cells m ++ Builtin.zeroCells z.cells (grownCap w (n + m) cap e - (n + m))) = (xs ++ (Builtin.zeroCells z.cells m).toList ++ (Builtin.zeroCells z.cells (grownCap w (n + m) cap e - (n + m))).toList).toArray := by
    apply Array.toList_inj.1; simp
  refine ⟨⟨(w.heap.size, grownCap w (n + m) cap e, (Builtin.zeroCells z.cells (grownCap w (n + m) cap e - (n + m))).toList), ?_⟩, w.drew.alloc (.cells (xs ++ (Builtin.zeroCells z.cells m).toList ++ (Builtin.zeroCells z.cells (grownCap w (n + m) cap e - (n + m))).toList).toArray e (0, 0)), ?_, hst.drew.alloc _⟩
  · simp only
    rw [Array.length_toList, size_zeroCells, hzs, ← Nat.add_mul]
    congr 1; omega
  · rw [e1] at hr
    simp [execOp, resolve, Sem.run_bind, ex, ey, Result.andThen, invoke, builtin, hr]
theorem Jeu {x y f : Operand} {e sz r1 r2 o1 o2 n1 c1 n2 c2 : Nat} {fn : Func} {g : FuncId} {at_ : Array TypeId} {cs1 cs2 : Array Value} {e1 e2 tR : TypeId}
    (hf : Ke l f = some (.func (.func g) #[] #[])) (hx : Ke l x = some (.slice (some ⟨r1, o1, none⟩) n1 c1)) (hy : Ke l y = some (.slice (some ⟨r2, o2, none⟩) n2 c2)) (hne : r1 ≠ r2) (hk1 : known c L r1 (.cells cs1 e1 (0, 0))) (hk2 : known c L r2 (.cells cs2 e2 (0, 0)))
    (ht : Kl c.P t = some e) (hs : KF c.P e = some sz) (h0 : 0 < cs2.size) (hF : c.P.funcs[g]? = some fn) (hn1 : (fn.name == "runtime.NumGoroutine") = false) (hb : fn.body.isNone = true) (hn2 : Extern.findNext fn = none) (he : Extern.find fn = some (Extern.SlicesOverlaps.overlaps #[t, t] #[tR])) :
    J7 c d l L X ⟨some i, .call ⟨.value f, #[x, y], at_⟩, ty, ps, af, gd⟩ (.bool false) := fun a w hfr hst => by
  have ef := hfr.eval hf
  have ex := hfr.eval hx
  have ey := hfr.eval hy
  have h1 := hst.known hk1
  have h2 := hst.known hk2
  have hov := Lib.run_overlaps_apart (P := c.P) w t tR e (Kc ht) sz (fun w => Vw hs w) ⟨r1, o1, none⟩ ⟨r2, o2, none⟩ n1 c1 n2 c2 hne e1 e2 cs1.size cs2.size (by simp [World.shape?, h1]) (by simp [World.shape?, h2]) (by omega) (by simp [World.frozen?, h1]) (by simp [World.frozen?, h1])
  have hcf : (callFunc g #[.slice (some ⟨r1, o1, none⟩) n1 c1, .slice (some ⟨r2, o2, none⟩) n2 c2]).run c.P w = .ok (.value (.bool false)) w := by
    rw [run_callFunc_extern hF hn1 hb hn2 he, hov]; rfl
  simp [execOp, resolve, Sem.run_bind, ef, ex, ey, Deferred.ofValue, Result.andThen, invoke, hcf]
end
open Go Go.RowKit Go.Shelf Go.ChangeShapes Go.WideShapes
section
variable {H : Type} {enc : TypeId × Value → H} {P : Program} {w : World} {base : Nat} {sp : Nat → Bool} {held : Bool}
theorem yP {a : Addr} {m : Nat} {cs : List Value} (h : w.cells? base a m = some cs) : cs.length = m ∧ ∀ i, i < m → w.cell? (a.add i) = cs[i]? := by
  unfold World.cells? at h
  split at h
  · exact ⟨by simpa using mapM_some_length h, fun i hi => mapM_some_get h i i (by simp [hi])⟩
  · cases h
theorem Jev {a : Addr} {v : Value} (h : w.cell? a = some v) : a.spot = none ∧ ∃ all e fr, w.heap[a.block]? = some (.cells all e fr) ∧ all[a.off]? = some v := by
  unfold World.cell? at h
  split at h
  · rename_i c e fr hc
    split at h
    · cases h
    · rename_i hs
      exact ⟨by simpa using hs, c, e, fr, hc, h⟩
  · cases h
theorem Jew {b o m : Nat} {cs : List Value} {all : Array Value} {e : TypeId} {fr : Nat × Nat} (h : w.cells? base ⟨b, o, none⟩ m = some cs) (hb : w.heap[b]? = some (.cells all e fr)) : (all.toList.drop o).take m = cs := by
  obtain ⟨hl, hg⟩ := yP h
  apply List.ext_getElem?
  intro i
  rw [List.getElem?_take]
  split
  · rename_i hi
    rw [← hg i hi, Xi, List.getElem?_drop, Array.getElem?_toList]
    simp only [World.cell?, hb]
    rfl
  · rename_i hi
    rw [List.getElem?_eq_none (by omega)]
theorem Jb7 {α : Type} {f : α → List Value} {m b : Nat} {all : Array Value} {e : TypeId} {fr : Nat × Nat} (hb : w.heap[b]? = some (.cells all e fr)) :
    ∀ (l : List α) (o : Nat), (∀ i x, l[i]? = some x → w.cells? base ⟨b, o + i * m, none⟩ m = some (f x)) → (all.toList.drop o).take (l.length * m) = l.flatMap f
  | [], o, _ => by simp
  | y :: l, o, h => by
    have h0 := Jew (h 0 y rfl) hb
    have hr := Jb7 hb l (o + m) (fun i x hx => by
      have := h (i + 1) x hx
      rwa [Nat.succ_mul, Nat.add_comm (i * m) m, ← Nat.add_assoc] at this)
    rw [Nat.zero_mul, Nat.add_zero] at h0
    rw [List.length_cons, Nat.succ_mul, Nat.add_comm, List.take_add, h0, List.drop_drop, hr, List.flatMap_cons]
theorem xA {α : Type} {f : α → List Value} {m : Nat} (hm : 0 < m) (hf : ∀ x, (f x).length = m) {l : List α} {a : Addr} {cap : Nat} (hle : l.length ≤ cap) (h : ∀ i x, l[i]? = some x → w.cells? base (a.add (i * m)) m = some (f x)) :
    Seg (Jeb w) l.length (l.flatMap f) (some (a, cap)) := by
  refine ⟨hle, fun h0 => ?_⟩
  obtain ⟨y, hy⟩ : ∃ y, l[0]? = some y := ⟨_, List.getElem?_eq_getElem h0⟩
  have h1 := h 0 y hy
  rw [Nat.zero_mul] at h1
  have e0 : a.add 0 = a := by simp [Addr.add]
  rw [e0] at h1
  obtain ⟨hl, hg⟩ := yP h1
  have h2 := hg 0 hm
  rw [e0] at h2
  obtain ⟨v, hv⟩ : ∃ v, (f y)[0]? = some v := ⟨_, List.getElem?_eq_getElem (by omega)⟩
  rw [hv] at h2
  obtain ⟨hs, all, e, fr, hb, _⟩ := Jev h2
  refine ⟨hs, all, e, fr, Jlc hb, ?_⟩
  rw [KU hf]
  refine Jb7 (base := base) hb l a.off fun i x hx => ?_
  have := h i x hx
  have e1 : a.add (i * m) = ⟨a.block, a.off + i * m, none⟩ := by
    obtain ⟨b, o, s⟩ := a
    have : s = none := hs
    subst this
    exact Xi _ _ _
  rwa [e1] at this
theorem qB {α : Type} {Q : Nat → α → Prop} : ∀ (n : Nat), (∀ i, i < n → ∃ x, Q i x) → ∃ l : List α, l.length = n ∧ ∀ i x, l[i]? = some x → Q i x
  | 0, _ => ⟨[], rfl, fun i x h => by simp at h⟩
  | n + 1, h => by
    obtain ⟨l, hl, hq⟩ := qB n (fun i hi => h i (by omega))
    obtain ⟨x, hx⟩ := h n (by omega)
    refine ⟨l ++ [x], by simp [hl], fun i y hy => ?_⟩
    rw [List.getElem?_append] at hy
    split at hy
    · exact hq i y hy
    · rename_i hi
      have hn : i = n := by
        have := (List.getElem?_eq_some_iff.1 hy).1
        simp at this; omega
      subst hn
      rw [hl, Nat.sub_self] at hy
      obtain rfl : x = y := by simpa using hy
      exact hx
theorem qC {α : Type} {f : α → List Value} {ok : α → Prop} {m t e fuel : Nat} {cs : List Value} {x : DataW H × List MemPlace} (hm : 0 < m) (hf : ∀ x, (f x).length = m) (ht : P.underlying t = some (.slice e)) (hc : P.cellsOf e = m)
    (hE : ∀ n, n < fuel → ∀ cs x, DataW.trod enc P w base sp held n e cs = some x → ∃ y, cs = f y ∧ ok y)
    (h : DataW.trod enc P w base sp held fuel t cs = some x) : ∃ (l : List α) (p : Pl), cs = [KM l.length p] ∧ Seg (Jeb w) l.length (l.flatMap f) p ∧ l.length ≤ 9223372036854775807 ∧ ∀ y ∈ l, ok y := by
  rcases DataW.trod_slice ht h with ⟨rfl, _⟩ | ⟨a, len, cap, elems, rest, n, hn, rfl, _, _, hlc, hcm, hlen, hel, _⟩
  · exact ⟨[], none, rfl, rfl, by simp, fun y hy => by simp at hy⟩
  · have hex : ∀ i, i < len → ∃ y, w.cells? base (a.add (i * m)) m = some (f y) ∧ ok y := by
      intro i hi
      have h1 := hel i hi
      rw [hc] at h1
      obtain ⟨z, hz⟩ : ∃ z, elems[i]? = some z := ⟨_, List.getElem?_eq_getElem (by omega)⟩
      rw [hz, Option.bind_eq_some_iff] at h1
      obtain ⟨cs1, h2, h3⟩ := h1
      obtain ⟨y, rfl, hy⟩ := hE n (by omega) _ _ h3
      exact ⟨y, h2, hy⟩
    obtain ⟨l, rfl, hq⟩ := qB len hex
    have hcap : cap ≤ 9223372036854775807 := by simpa [maxLen] using hcm
    refine ⟨l, some (a, cap), rfl, xA hm hf hlc (fun i y hy => (hq i y hy).1), by omega, fun y hy => ?_⟩
    obtain ⟨i, hi, rfl⟩ := List.mem_iff_getElem.1 hy
    exact (hq i _ (List.getElem?_eq_getElem hi)).2
theorem V3 {t tf off m fuel i : Nat} {fs : Array Field} {cs : List Value} {x : DataW H × List MemPlace} (ht : P.underlying t = some (.struct fs)) (hi : (fs[i]?).map (fun f => (f.type, f.offset)) = some (tf, off)) (hm : P.cellsOf tf = m)
    (h : DataW.trod enc P w base sp held fuel t cs = some x) : ∃ n y, n < fuel ∧ DataW.trod enc P w base sp held n tf ((cs.drop off).take m) = some y := by
  obtain ⟨xs, n, rfl, _, _, hl, hg⟩ := DataW.trod_struct ht h
  obtain ⟨f, hf, he⟩ := Option.map_eq_some_iff.1 hi
  obtain ⟨rfl, rfl⟩ := Prod.mk.inj he
  have hi2 : i < xs.length := by rw [hl]; exact (Array.getElem?_eq_some_iff.1 hf).1
  subst hm
  exact ⟨n, xs[i], by omega, by rw [hg i f hf]; exact List.getElem?_eq_getElem hi2⟩
theorem qg {t m fuel : Nat} {fs : Array Field} {cs : List Value} {x : DataW H × List MemPlace} (ht : P.underlying t = some (.struct fs)) (hm : P.cellsOf t = m) (h : DataW.trod enc P w base sp held fuel t cs = some x) : cs.length = m := by
  obtain ⟨xs, n, rfl, _, hl, _, _⟩ := DataW.trod_struct ht h
  rw [hl, hm]
theorem Jml {t fuel : Nat} {cs : List Value} {x : DataW H × List MemPlace} (ht : P.underlying t = some (.int .u64)) (h : DataW.trod enc P w base sp held fuel t cs = some x) : ∃ n : Nat, cs = [uV n] ∧ X5 n := by
  obtain ⟨n, rfl, _, hw⟩ := DataW.trod_int ht h
  have := bounds_u64 hw
  exact ⟨n.toNat, by unfold uV; congr 2; omega, by unfold X5; omega⟩
theorem Jrk {t e fuel : Nat} {cs : List Value} {x : DataW H × List MemPlace} (ht : P.underlying t = some (.array 4 e)) (hc : P.cellsOf t = 4) (he : P.cellsOf e = 1) (hu : P.underlying e = some (.int .u64)) (h : DataW.trod enc P w base sp held fuel t cs = some x) :
    ∃ a b c d : Nat, cs = [uV a, uV b, uV c, uV d] ∧ X5 a ∧ X5 b ∧ X5 c ∧ X5 d := by
  cases fuel with
  | zero => simp [DataW.trod] at h
  | succ fuel =>
    obtain ⟨hl, xs, h1, _⟩ := (Jk9 ht hc he).1 h
    obtain ⟨zs, rfl, _, hz⟩ := yB (V := uV) (D := fun n : Nat => .lit (.int .u64 (n : Int))) (ok := X5) (fun c x hx => by
      obtain ⟨n, h2, h3, h4⟩ := DataW.trod_int hu hx
      have h5 := bounds_u64 h4
      refine ⟨n.toNat, ?_, ?_, by unfold X5; omega⟩
      · rw [List.singleton_inj.1 h2]; unfold uV; congr 1; omega
      · rw [h3]; congr 3; omega) _ _ h1
    rw [List.length_map] at hl
    match zs, hl, hz with
    | [a, b, c, d], _, hz => exact ⟨a, b, c, d, rfl, hz a (by simp), hz b (by simp), hz c (by simp), hz d (by simp)⟩
theorem Jb8 {t : Nat} {fs : Array Field} {r : Reach} {b0 : Nat} {v : Value} (ht : P.underlying t = some (.struct fs)) (h : Value.okWide P w r b0 t v) {cs : List Value} (hc : v.cells.toList = cs) : v = .agg cs.toArray := by
  obtain ⟨c1, rfl, _⟩ := okWide_struct ht h
  subst hc
  simp [Value.cells]
end
abbrev J2 (s : BS) : Value := .string (bs s)
structure W4.ok (w : W4) : Prop where
  a : X5 w.a
  b : X5 w.b
  c : X5 w.c
  d : X5 w.d
theorem W4.ok.wok {w : W4} (h : w.ok) : WOk w.l := ⟨rfl, fun x hx => by
  unfold W4.l at hx
  simp only [List.mem_cons, List.not_mem_nil, or_false] at hx
  rcases hx with rfl | rfl | rfl | rfl
  · exact h.a
  · exact h.b
  · exact h.c
  · exact h.d⟩
theorem Wk : X5 0 := by unfold X5; decide
theorem Ju5 : w40.ok := ⟨Wk, Wk, Wk, Wk⟩
structure Rec : Type where
  number : Nat
  time : Nat
  base : W4
  blob : W4
  overhead : W4
  scalar : Nat
  extra : Nat
  operator : Nat
deriving DecidableEq
def Ju6 : Rec := ⟨0, 0, w40, w40, w40, 0, 0, 0⟩
def Rec.nats (r : Rec) : List Nat := [r.number, r.time, r.base.a, r.base.b, r.base.c, r.base.d, r.blob.a, r.blob.b, r.blob.c, r.blob.d, r.overhead.a, r.overhead.b, r.overhead.c, r.overhead.d, r.scalar, r.extra, r.operator]
def Rec.cells (r : Rec) : List Value := r.nats.map uV
def Rec.val (r : Rec) : Value := .agg r.cells.toArray
theorem Rec.len (r : Rec) : r.cells.length = 17 := rfl
theorem Rec.one (r : Rec) : r.cells.all QR = true := rfl
structure Rec.ok (r : Rec) : Prop where
  number : X5 r.number
  time : X5 r.time
  base : r.base.ok
  blob : r.blob.ok
  overhead : r.overhead.ok
  scalar : X5 r.scalar
  extra : X5 r.extra
  operator : X5 r.operator
def QU (x : BS × BS) : List Value := [J2 x.1, J2 x.2]
theorem JU (x : BS × BS) : (QU x).length = 2 := rfl
theorem jx (x : BS × BS) : (QU x).all QR = true := rfl
def wi (l : List (BS × BS)) : List Value := l.flatMap QU
abbrev WH : Nat := 9223372036854775807
structure AcL : Type where
  addr : BS
  nonce : Nat
  bal : W4
  code : BS
  slots : List (BS × BS)
  p : Pl
def AcL.cells (a : AcL) : List Value := [J2 a.addr, uV a.nonce, uV a.bal.a, uV a.bal.b, uV a.bal.c, uV a.bal.d, J2 a.code, KM a.slots.length a.p]
def AcL.val (a : AcL) : Value := .agg a.cells.toArray
def AcL.er (a : AcL) : AcE := ⟨a.addr, a.nonce, a.bal, a.code, a.slots⟩
theorem AcL.len (a : AcL) : a.cells.length = 8 := rfl
theorem AcL.one (a : AcL) : a.cells.all QR = true := rfl
structure AcL.In (R : Jr) (a : AcL) : Prop where
  addr : a.addr.length ≤ WH
  nonce : X5 a.nonce
  bal : a.bal.ok
  code : a.code.length ≤ WH
  len : a.slots.length ≤ WH
  seg : Seg R a.slots.length (wi a.slots) a.p
  slots : ∀ x ∈ a.slots, x.1.length ≤ WH ∧ x.2.length ≤ WH
theorem AcL.In.mono {R R' : Jr} {a : AcL} (h : a.In R) (hs : ∀ q ∈ R, q ∈ R') : a.In R' := ⟨h.addr, h.nonce, h.bal, h.code, h.len, h.seg.mono hs, h.slots⟩
def ac0L : AcL := ⟨[], 0, w40, [], [], none⟩
theorem Jmm {R : Jr} : ac0L.In R := ⟨Nat.zero_le _, Wk, Ju5, Nat.zero_le _, Nat.zero_le _, rfl, by simp [ac0L]⟩
def jy (l : List AcL) : List Value := l.flatMap AcL.cells
structure StL : Type where
  accts : List AcL
  p : Pl
def StL.cells (s : StL) : List Value := [KM s.accts.length s.p]
def StL.val (s : StL) : Value := .agg s.cells.toArray
def StL.er (s : StL) : List AcE := s.accts.map AcL.er
theorem StL.er_len (s : StL) : s.er.length = s.accts.length := by simp [StL.er]
structure StL.In (R : Jr) (s : StL) : Prop where
  len : s.accts.length ≤ WH
  seg : Seg R s.accts.length (jy s.accts) s.p
  accts : ∀ a ∈ s.accts, a.In R
theorem StL.In.mono {R R' : Jr} {s : StL} (h : s.In R) (hs : ∀ q ∈ R, q ∈ R') : s.In R' := ⟨h.len, h.seg.mono hs, fun a ha => (h.accts a ha).mono hs⟩
def st0L : StL := ⟨[], none⟩
theorem wj {R : Jr} : st0L.In R := ⟨Nat.zero_le _, rfl, by simp [st0L]⟩
theorem Jmn {α : Type} {f : α → List Value} {m : Nat} (hf : ∀ x, (f x).length = m) {l : List α} {j k : Nat} {x : α} {v : Value} (h : l[j]? = some x) (hk : (f x)[k]? = some v) : (l.flatMap f)[j * m + k]? = some v := by
  have h1 := X9 hf h
  have hlt : k < m := by have := (List.getElem?_eq_some_iff.1 hk).1; rwa [hf] at this
  rw [← h1, List.getElem?_take, if_pos hlt, List.getElem?_drop] at hk
  exact hk
section
variable {c : Cx} {l : Kn} {L : Jr} {X : XP} {d : List Deferred} {i : Nat} {t : TypeId} {ps : String} {af : Array Edge} {gd : Option (Nat × Bool)} {ty : TypeId}
theorem Ku {α : Type} {f : α → List Value} {m : Nat} (hf : ∀ x, (f x).length = m) {x : Operand} {p : Pl} {R : Jr} {xs : List α} {j : Nat} {y : α} (hR : ∀ q ∈ R, known c L q.1 q.2) (hx : Ke l x = some (.pointer (some ⟨plB p, XS p + j * m, none⟩))) (hs : Seg R xs.length (xs.flatMap f) p) (hy : xs[j]? = some y) (ht : VX c.P t = some true) (hm : KF c.P t = some m) :
    J7 c d l L X ⟨some i, .load t x, ty, ps, af, gd⟩ (.agg (f y).toArray) :=
  WZ hR hx hs (jl hy) ht hm (X9 hf hy) (hf y)
theorem QX {α : Type} {f : α → List Value} {m k : Nat} (hf : ∀ x, (f x).length = m) {x : Operand} {p : Pl} {R : Jr} {xs : List α} {j : Nat} {y : α} {v : Value} (hR : ∀ q ∈ R, known c L q.1 q.2) (hx : Ke l x = some (.pointer (some ⟨plB p, XS p + (j * m + k), none⟩))) (hs : Seg R xs.length (xs.flatMap f) p) (hy : xs[j]? = some y) (hv : (f y)[k]? = some v) (ht : VX c.P t = some false) :
    J7 c d l L X ⟨some i, .load t x, ty, ps, af, gd⟩ v :=
  jk hR hx hs (jl hy) ht (Jmn hf hy hv)
end
section
variable {H : Type} {enc : TypeId × Value → H} {P : Program} {w : World} {base : Nat} {sp : Nat → Bool} {held : Bool}
theorem jz {t fuel : Nat} {cs : List Value} {x : DataW H × List MemPlace} (ht : P.underlying t = some .string) (h : DataW.trod enc P w base sp held fuel t cs = some x) : ∃ s : BS, cs = [J2 s] ∧ s.length ≤ WH := by
  obtain ⟨s, rfl, _, hl⟩ := DataW.trod_string ht h
  exact ⟨s.data.toList, by unfold J2; rw [bs_data], by rw [Array.length_toList]; exact hl⟩
theorem Jrl {tT tS fuel : Nat} {fs : Array Field} (ht : P.underlying tT = some (.struct fs)) (hT : P.cellsOf tT = 2) (h0 : (fs[0]?).map (fun f => (f.type, f.offset)) = some (tS, 0)) (h1 : (fs[1]?).map (fun f => (f.type, f.offset)) = some (tS, 1)) (hS : P.underlying tS = some .string) (hSc : P.cellsOf tS = 1)
    {cs : List Value} {x : DataW H × List MemPlace} (h : DataW.trod enc P w base sp held fuel tT cs = some x) : ∃ y : BS × BS, cs = QU y ∧ (y.1.length ≤ WH ∧ y.2.length ≤ WH) := by
  have hl := qg ht hT h
  match cs, hl with
  | [a, b], _ =>
    obtain ⟨n0, y0, _, e0⟩ := V3 ht h0 hSc h
    obtain ⟨n1, y1, _, e1⟩ := V3 ht h1 hSc h
    obtain ⟨k, ek, hk⟩ := jz hS e0
    obtain ⟨v, ev, hv⟩ := jz hS e1
    obtain rfl : a = J2 k := by simpa using ek
    obtain rfl : b = J2 v := by simpa using ev
    exact ⟨(k, v), rfl, hk, hv⟩
theorem Jrm {tA tT tS tL tW tu tI fuel : Nat} {fs fa : Array Field} (ht : P.underlying tT = some (.struct fs)) (hT : P.cellsOf tT = 2) (h0 : (fs[0]?).map (fun f => (f.type, f.offset)) = some (tS, 0)) (h1 : (fs[1]?).map (fun f => (f.type, f.offset)) = some (tS, 1)) (hS : P.underlying tS = some .string) (hSc : P.cellsOf tS = 1)
    (ha : P.underlying tA = some (.struct fa)) (hA : P.cellsOf tA = 8) (a0 : (fa[0]?).map (fun f => (f.type, f.offset)) = some (tS, 0)) (a1 : (fa[1]?).map (fun f => (f.type, f.offset)) = some (tI, 1)) (a2 : (fa[2]?).map (fun f => (f.type, f.offset)) = some (tW, 2)) (a3 : (fa[3]?).map (fun f => (f.type, f.offset)) = some (tS, 6)) (a4 : (fa[4]?).map (fun f => (f.type, f.offset)) = some (tL, 7))
    (hI : P.underlying tI = some (.int .u64)) (hIc : P.cellsOf tI = 1) (hW : P.underlying tW = some (.array 4 tu)) (hWc : P.cellsOf tW = 4) (hu : P.underlying tu = some (.int .u64)) (huc : P.cellsOf tu = 1) (hL : P.underlying tL = some (.slice tT)) (hLc : P.cellsOf tL = 1)
    {cs : List Value} {x : DataW H × List MemPlace} (h : DataW.trod enc P w base sp held fuel tA cs = some x) : ∃ a : AcL, cs = a.cells ∧ a.In (Jeb w) := by
  have hl := qg ha hA h
  match cs, hl with
  | [c0, c1, c2, c3, c4, c5, c6, c7], _ =>
    obtain ⟨n0, y0, _, e0⟩ := V3 ha a0 hSc h
    obtain ⟨n1, y1, _, e1⟩ := V3 ha a1 hIc h
    obtain ⟨n2, y2, _, e2⟩ := V3 ha a2 hWc h
    obtain ⟨n3, y3, _, e3⟩ := V3 ha a3 hSc h
    obtain ⟨n4, y4, _, e4⟩ := V3 ha a4 hLc h
    obtain ⟨s, es, hs⟩ := jz hS e0
    obtain ⟨n, en, hn⟩ := Jml hI e1
    obtain ⟨w0, w1, w2, w3, ew, k0, k1, k2, k3⟩ := Jrk hW hWc huc hu e2
    obtain ⟨cd, ec, hc⟩ := jz hS e3
    obtain ⟨l, p, ep, hsg, hlen, hok⟩ := qC (f := QU) (ok := fun y => y.1.length ≤ WH ∧ y.2.length ≤ WH) (by decide) JU hL hT (fun m hm cs x hx => Jrl ht hT h0 h1 hS hSc hx) e4
    obtain rfl : c0 = J2 s := by simpa using es
    obtain rfl : c1 = uV n := by simpa using en
    obtain ⟨rfl, rfl, rfl, rfl⟩ : c2 = uV w0 ∧ c3 = uV w1 ∧ c4 = uV w2 ∧ c5 = uV w3 := by simpa using ew
    obtain rfl : c6 = J2 cd := by simpa using ec
    obtain rfl : c7 = KM l.length p := by simpa using ep
    exact ⟨⟨s, n, ⟨w0, w1, w2, w3⟩, cd, l, p⟩, rfl, ⟨hs, hn, ⟨k0, k1, k2, k3⟩, hc, hlen, hsg, hok⟩⟩
theorem open_st {tP tX tA tT tS tL tW tu tI : Nat} {fs fa fp : Array Field} (ht : P.underlying tT = some (.struct fs)) (hT : P.cellsOf tT = 2) (h0 : (fs[0]?).map (fun f => (f.type, f.offset)) = some (tS, 0)) (h1 : (fs[1]?).map (fun f => (f.type, f.offset)) = some (tS, 1)) (hS : P.underlying tS = some .string) (hSc : P.cellsOf tS = 1)
    (ha : P.underlying tA = some (.struct fa)) (hA : P.cellsOf tA = 8) (a0 : (fa[0]?).map (fun f => (f.type, f.offset)) = some (tS, 0)) (a1 : (fa[1]?).map (fun f => (f.type, f.offset)) = some (tI, 1)) (a2 : (fa[2]?).map (fun f => (f.type, f.offset)) = some (tW, 2)) (a3 : (fa[3]?).map (fun f => (f.type, f.offset)) = some (tS, 6)) (a4 : (fa[4]?).map (fun f => (f.type, f.offset)) = some (tL, 7))
    (hI : P.underlying tI = some (.int .u64)) (hIc : P.cellsOf tI = 1) (hW : P.underlying tW = some (.array 4 tu)) (hWc : P.cellsOf tW = 4) (hu : P.underlying tu = some (.int .u64)) (huc : P.cellsOf tu = 1) (hL : P.underlying tL = some (.slice tT)) (hLc : P.cellsOf tL = 1)
    (hp : P.underlying tP = some (.struct fp)) (hPc : P.cellsOf tP = 1) (p0 : (fp[0]?).map (fun f => (f.type, f.offset)) = some (tX, 0)) (hX : P.underlying tX = some (.slice tA)) (hXc : P.cellsOf tX = 1)
    {r : Reach} {b0 : Nat} {v : Value} {d : DataW H} {ps : List MemPlace} (hval : Value.okWide P w r b0 tP v) (hd : DataW.Trod enc P w base sp held tP v d ps) : ∃ s : StL, v = s.val ∧ s.In (Jeb w) := by
  obtain ⟨fuel, h⟩ := hd
  have hl := qg hp hPc h
  generalize hcs : v.cells.toList = cs at h hl
  match cs, hl with
  | [c0], _ =>
    obtain ⟨n0, y0, _, e0⟩ := V3 hp p0 hXc h
    obtain ⟨l, p, ep, hsg, hlen, hok⟩ := qC (f := AcL.cells) (ok := AcL.In (Jeb w)) (by decide) AcL.len hX hA (fun m hm cs x hx => Jrm ht hT h0 h1 hS hSc ha hA a0 a1 a2 a3 a4 hI hIc hW hWc hu huc hL hLc hx) e0
    obtain rfl : c0 = KM l.length p := by simpa using ep
    exact ⟨⟨l, p⟩, Jb8 hp hval hcs, ⟨hlen, hsg, hok⟩⟩
end
theorem Ju7 {l : List Nat} (hl : WOk l) : yn (Zm l 32) = l := by
  have : yn (Zm l 32) = ZT (dg l) 32 := Jif fun i hi => by
    have h := zN l (n := 32) (m := 31 - i) (by omega)
    have e : 32 - 1 - (31 - i) = i := by omega
    rw [e] at h
    rw [List.getD_eq_getElem?_getD, h, Option.getD_some, UInt8.toNat_ofNat', Nat.mod_eq_of_lt (Jkz l i)]
  rw [this, Jtj hl]
def bW (w : W4) : BS := Zm w.l 32
def uW (s : BS) : W4 := W4.of (qP s).1
theorem Jmo (s : BS) : WOk (qP s).1 := by
  unfold qP; split
  · exact Jfy _
  · exact Jwr
theorem Jye (s : BS) : (uW s).l = (qP s).1 := W4.of_l (Jmo s).1
theorem Jyf {w : W4} (h : w.ok) : uW (bW w) = w := by
  apply W4.l_inj
  rw [Jye]
  unfold qP bW
  rw [if_pos (VO _ _)]
  exact Ju7 h.wok
def wN1 (n : Nat) : W4 := ⟨n, 0, 0, 0⟩
def Jix (n : Nat) : BS := bW (wN1 n)
def Jiy : Nat → Nat
  | 0 => 0
  | 1 => 1
  | 2 => 5
  | 3 => 6
  | 4 => 3
  | 5 => 7
  | _ => 8
def Jex (f : Int) : Nat → Bool
  | 0 => true
  | 1 => true
  | 2 => decide (f ≤ 2)
  | 3 => decide (f ≤ 2)
  | 4 => decide (f ≥ 3)
  | 5 => decide (f ≥ 3)
  | _ => decide (f = 5)
def wk (r : Rec) : Nat → W4
  | 0 => ⟨r.number, r.time, 0, 0⟩
  | 1 => r.base
  | 2 => r.overhead
  | 3 => ⟨r.scalar, 0, 0, 0⟩
  | 4 => ⟨r.scalar, r.extra, 0, 0⟩
  | 5 => r.blob
  | _ => ⟨r.operator, 0, 0, 0⟩
def Jgr (r : Rec) (w : W4) : Nat → Rec
  | 0 => { r with number := w.a, time := w.b }
  | 1 => { r with base := w }
  | 2 => { r with overhead := w }
  | 3 => { r with scalar := w.a }
  | 4 => { r with scalar := w.a, extra := w.b }
  | 5 => { r with blob := w }
  | _ => { r with operator := w.a }
theorem Jmp {r : Rec} (h : r.ok) (i : Nat) : (wk r i).ok := by
  unfold wk
  split
  · exact ⟨h.number, h.time, Wk, Wk⟩
  · exact h.base
  · exact h.overhead
  · exact ⟨h.scalar, Wk, Wk, Wk⟩
  · exact ⟨h.scalar, h.extra, Wk, Wk⟩
  · exact h.blob
  · exact ⟨h.operator, Wk, Wk, Wk⟩
def wl (f : Int) (g : Nat → W4) : List Nat → Rec → Rec
  | [], out => out
  | i :: l, out => wl f g l (if Jex f i then Jgr out (g i) i else out)
def tab : List Nat := [0, 1, 2, 3, 4, 5, 6]
def Jmq (f : Int) (r : Rec) : Rec := wl f (wk r) tab Ju6
def Jgs (f : Int) (a : AcE) : Rec := wl f (fun i => uW (KX a (Jix (Jiy i)))) tab Ju6
def ZJ (f : Int) : Prop := 0 ≤ f ∧ f ≤ 5
instance (f : Int) : Decidable (ZJ f) := inferInstanceAs (Decidable (_ ∧ _))
theorem xB {f : Int} (h : ZJ f) : f = 0 ∨ f = 1 ∨ f = 2 ∨ f = 3 ∨ f = 4 ∨ f = 5 := by unfold ZJ at h; omega
def Jgt (f : Int) (r : Rec) : Bool := !((decide (f ≥ 3) && decide (r.overhead ≠ w40)) || (decide (f < 3) && (decide (r.extra ≠ 0) || decide (r.blob ≠ w40))) || (decide (f < 5) && decide (r.operator ≠ 0)))
theorem Jmr {f : Int} {r : Rec} (h : ZJ f) : Jmq f r = r ↔ Jgt f r = true := by
  obtain ⟨n, t, b, l, o, s, e, p⟩ := r
  rcases xB h with rfl | rfl | rfl | rfl | rfl | rfl <;>
    (simp [Jmq, wl, tab, Jex, Jgr, wk, Jgt, Ju6]; try (constructor <;> (intro h; simp_all <;> omega)))
def Jb9 (which : Int) : BS := if which < 0 ∨ which > 1 then [] else 66 :: (List.replicate 18 0 ++ [UInt8.ofNat (1 + which).toNat])
def Jyg : BS := [111, 110, 101]
def Jyh : BS := [116, 119, 111]
def Ju8 : BS := [116, 104, 114, 101, 101]
def Jw4 : BS := [102, 105, 118, 101]
def Jyi : BS := [102, 101, 101]
def yQ (f which : Int) : BS × Bool := if which = 1 then (if f ≥ 2 then (Jyi, true) else ([], false)) else if f = 0 then (Jyg, true) else if f ≤ 2 then (Jyh, true) else if f ≤ 4 then (Ju8, true) else (Jw4, true)
def A0 : BS := Jb9 0
def A1 : BS := Jb9 1
theorem qD {l : List (BS × BS)} {k v : BS} (h : KE Prod.fst l) : KE Prod.fst (Qf l k v) := by
  unfold Qf; split
  · exact Jes h
  · exact wf h
theorem Jiz {l : List (BS × BS)} {k v j : BS} (h : KE Prod.fst l) : Vb Prod.fst j (Qf l k v) = if k = j then (if v = Vc then none else some (k, v)) else Vb Prod.fst j l := by
  unfold Qf
  by_cases hv : v = Vc
  · rw [if_pos hv, if_pos hv, Jb5]
  · rw [if_neg hv, if_neg hv, Jb4 h]
theorem wm {l : List (BS × BS)} {k v : BS} {x : BS × BS} (h : x ∈ Qf l k v) : (x = (k, v) ∧ v ≠ Vc) ∨ x ∈ l := by
  unfold Qf at h
  split at h
  · exact .inr (Jrg h)
  · rename_i hv; exact (vm h).imp (fun h => ⟨h, hv⟩) id
theorem Ju9 {a : AcE} {k v : BS} (h1 : XE a = 0) (h2 : k.length = 32) (h3 : v.length = 32) (h4 : (Qf a.slots k v).length ≤ 16) : wg a k v = ({ a with slots := Qf a.slots k v }, 0) := by
  unfold wg
  rw [if_neg (by omega), if_neg (by omega), if_neg (by omega)]
theorem Jrn {a : AcE} {k v : BS} (h1 : XE a = 0) (h2 : k.length = 32) (h3 : v.length = 32) (h4 : (Qf a.slots k v).length ≤ 16) : XE { a with slots := Qf a.slots k v } = 0 := by
  obtain ⟨g1, g2, g3, g4, g5⟩ := WW h1
  refine Jri g1 (fun x hx => ?_) (qD g3) g4 h4
  rcases wm hx with ⟨rfl, hv⟩ | hx
  · exact ⟨h2, h3, hv⟩
  · exact g2 x hx
theorem Ji0 {a : AcE} {k v j : BS} (h : KE Prod.fst a.slots) : KX { a with slots := Qf a.slots k v } j = if k = j then v else KX a j := by
  unfold KX
  simp only
  rw [Jiz h]
  by_cases hk : k = j
  · rw [if_pos hk, if_pos hk]
    by_cases hv : v = Vc
    · rw [if_pos hv]; exact hv.symm
    · rw [if_neg hv]
  · rw [if_neg hk, if_neg hk]
def xC : AcE → List (BS × BS) → AcE × Int
  | a, [] => (a, 0)
  | a, x :: l => if (wg a x.1 x.2).2 ≠ 0 then wg a x.1 x.2 else xC (wg a x.1 x.2).1 l
structure RowsOk (a b : AcE) (l : List (BS × BS)) : Prop where
  lk : XE b = 0
  addr : b.addr = a.addr
  nonce : b.nonce = a.nonce
  bal : b.bal = a.bal
  code : b.code = a.code
  at_ : ∀ x ∈ l, KX b x.1 = x.2
  off : ∀ k, (∀ x ∈ l, x.1 ≠ k) → KX b k = KX a k
theorem Jms {a : AcE} (h : XE a = 0) {x : BS × BS} (hx : x ∈ a.slots) : KX a x.1 = x.2 ∧ x.2 ≠ Vc := by
  obtain ⟨_, g2, g3, _⟩ := WW h
  unfold KX
  rw [yO g3 hx]
  exact ⟨rfl, (g2 x hx).2.2⟩
theorem Jmt {a : AcE} {k : BS} (h : KX a k ≠ Vc) : (k, KX a k) ∈ a.slots := by
  unfold KX at h ⊢
  cases hl : Vb Prod.fst k a.slots with
  | none => rw [hl] at h; exact absurd rfl h
  | some x =>
    obtain ⟨h1, h2⟩ := yN hl
    simp only
    rw [← h1]; exact h2
theorem xD {α : Type} {kf : α → BS} : ∀ {m l : List α}, KE kf m → KE kf l → (∀ y ∈ l, y ∈ m) → l.length ≤ m.length
  | [], [], _, _, _ => Nat.le_refl _
  | [], y :: l, _, _, h => absurd (h y List.mem_cons_self) (by simp)
  | z :: m, [], _, _, _ => Nat.zero_le _
  | z :: m, y :: l, hm, hl, h => by
    obtain ⟨m1, m2⟩ := List.pairwise_cons.1 hm
    obtain ⟨l1, l2⟩ := List.pairwise_cons.1 hl
    rcases List.mem_cons.1 (h y List.mem_cons_self) with e | hy
    · rw [e] at l1
      have := xD (m := m) (l := l) m2 l2 fun x hx => by
        rcases List.mem_cons.1 (h x (List.mem_cons_of_mem _ hx)) with rfl | hx2
        · have := l1 _ hx; rw [Yy] at this; cases this
        · exact hx2
      simp only [List.length_cons]; omega
    · have := xD (m := m) (l := y :: l) m2 hl fun x hx => by
        rcases List.mem_cons.1 (h x hx) with rfl | hx2
        · have a1 := m1 y hy
          rcases List.mem_cons.1 hx with rfl | hx3
          · rw [Yy] at a1; cases a1
          · have := VL a1 (l1 _ hx3); rw [Yy] at this; cases this
        · exact hx2
      simp only [List.length_cons] at this ⊢; omega
theorem fill {a : AcE} (ha : XE a = 0) : ∀ (l : List (BS × BS)) (x : AcE), XE x = 0 → (∀ k, KX x k = KX a k ∨ KX x k = Vc) → (∀ p ∈ l, p.1.length = 32 ∧ p.2.length = 32 ∧ (p.2 = KX a p.1 ∨ p.2 = Vc)) → (xC x l).2 = 0
  | [], _, _, _, _ => rfl
  | p :: l, x, hx, hs, hp => by
    obtain ⟨p1, p2, p3⟩ := hp p List.mem_cons_self
    have hsx := (WW hx).2.2.1
    have hlen : (Qf x.slots p.1 p.2).length ≤ 16 := by
      refine Nat.le_trans (xD (kf := Prod.fst) (WW ha).2.2.1 (qD hsx) fun y hy => ?_) (WW ha).2.2.2.2
      have hne : y.2 ≠ Vc ∧ y.2 = KX a y.1 := by
        rcases wm hy with ⟨rfl, hv⟩ | hy
        · exact ⟨hv, p3.resolve_right hv⟩
        · obtain ⟨e1, e2⟩ := Jms hx hy
          refine ⟨e2, ?_⟩
          rcases hs y.1 with h | h
          · rw [← e1, h]
          · rw [← e1] at e2; exact absurd h e2
      have h3 := Jmt (a := a) (k := y.1) (by rw [← hne.2]; exact hne.1)
      rw [← hne.2] at h3
      exact h3
    unfold xC
    rw [Ju9 hx p1 p2 hlen, if_neg (by simp)]
    refine fill ha l _ (Jrn hx p1 p2 hlen) (fun k => ?_) fun q hq => hp q (List.mem_cons_of_mem _ hq)
    rw [Ji0 hsx]
    split
    · rename_i e; subst e; exact p3
    · exact hs k
theorem xE {s : List AcE} (hs : Qv s = 0) {k : BS} {a : AcE} (h : VC s k = some a) : a.addr = k ∧ XE a = 0 := by
  obtain ⟨h1, h2⟩ := yN h
  exact ⟨h1, (xz.1 hs).2.1 a h2⟩
def Jro (f : Int) (r : Rec) (i : Nat) : BS × BS := (Jix (Jiy i), if Jex f i then bW (wk r i) else Vc)
def Jey (k : BS) : Prop := ∃ i ∈ tab, Jix (Jiy i) = k
def Jez (t : List AcE) (which : Int) : AcE := { (VC t (Jb9 which)).getD ac0 with addr := Jb9 which }
theorem Jmu {s : List AcE} (hs : Qv s = 0) {w : Int} {a : AcE} (h : VC s (Jb9 w) = some a) : Jez s w = a := by
  unfold Jez
  rw [h]
  obtain ⟨h1, _⟩ := xE hs h
  cases a
  simp only at h1
  simp [h1]
structure Wrote (f : Int) (s t : List AcE) (r : Rec) : Prop where
  forked : ZJ f
  fits : Jgt f r = true
  old : Qv s = 0
  new : Qv t = 0
  acct : ∃ b0, VC t A0 = some b0 ∧ XE b0 = 0 ∧ b0.addr = A0 ∧ b0.nonce = (Jez s 0).nonce ∧ b0.bal = (Jez s 0).bal ∧ b0.code = (yQ f 0).1 ∧ (∀ i ∈ tab, KX b0 (Jix (Jiy i)) = (Jro f r i).2) ∧ ∀ k, ¬ Jey k → KX b0 k = KX (Jez s 0) k
  others : ∀ k, k ≠ A0 → k ≠ A1 → VC t k = VC s k
  fee : if (yQ f 1).2 = true then VC t A1 = some { Jez s 1 with code := (yQ f 1).1 } else VC t A1 = VC s A1
def yR (s : List AcE) (k : BS) : AcE := (VC s k).getD ac0
theorem wn {f : Int} {g g' : Nat → W4} : ∀ {l : List Nat} {out : Rec}, (∀ i ∈ l, Jex f i = true → g i = g' i) → wl f g l out = wl f g' l out
  | [], _, _ => rfl
  | i :: l, out, h => by
    unfold wl
    have e : (if Jex f i then Jgr out (g i) i else out) = if Jex f i then Jgr out (g' i) i else out := by
      by_cases hi : Jex f i = true
      · rw [if_pos hi, if_pos hi, h i List.mem_cons_self hi]
      · rw [if_neg hi, if_neg hi]
    rw [e]
    exact wn fun j hj => h j (List.mem_cons_of_mem _ hj)
theorem Ji1 {f : Int} {a : AcE} {r : Rec} (hf : ZJ f) (hr : r.ok) (hb : Jgt f r = true) (h : ∀ i ∈ tab, KX a (Jix (Jiy i)) = (Jro f r i).2) : Jgs f a = r := by
  have e : Jgs f a = Jmq f r := wn fun i hi hh => by
    rw [h i hi]
    unfold Jro
    simp only
    rw [if_pos hh]
    exact Jyf (Jmp hr i)
  rw [e]
  exact (Jmr hf).2 hb
structure Checked (f : Int) (s : List AcE) (a : AcE) : Prop where
  forked : ZJ f
  st : Qv s = 0
  at0 : VC s A0 = some a
  code : a.code = (yQ f 0).1
  rows : ∀ i ∈ tab, KX a (Jix (Jiy i)) = (Jro f (Jgs f a) i).2
  fee : (yQ f 1).2 = true → ∃ b, VC s A1 = some b ∧ b.code = (yQ f 1).1
theorem Wrote.checked {f : Int} {s t : List AcE} {r : Rec} (h : Wrote f s t r) (hr : r.ok) : ∃ a, Checked f t a ∧ Jgs f a = r := by
  obtain ⟨h1, h2, h3, h4, ⟨b0, c1, c2, c3, c4, c5, c6, c7, c8⟩, h6, h7⟩ := h
  have e := Ji1 h1 hr h2 c7
  refine ⟨b0, ⟨h1, h4, c1, c6, by rw [e]; exact c7, fun hf => ?_⟩, e⟩
  rw [if_pos hf] at h7
  exact ⟨_, h7, rfl⟩
theorem Checked.lk {f : Int} {s : List AcE} {a : AcE} (h : Checked f s a) : XE a = 0 := (xE h.st h.at0).2
theorem Checked.addr {f : Int} {s : List AcE} {a : AcE} (h : Checked f s a) : a.addr = A0 := (xE h.st h.at0).1
theorem Checked.old {f : Int} {s : List AcE} {a : AcE} (h : Checked f s a) : Jez s 0 = a := Jmu h.st h.at0
structure Kept (s t : List AcE) : Prop where
  others : ∀ k, k ≠ A0 → k ≠ A1 → VC t k = VC s k
  there : ∀ k, (VC s k).isSome = true → (VC t k).isSome = true
  nonce : ∀ k, (yR t k).nonce = (yR s k).nonce
  bal : ∀ k, (yR t k).bal = (yR s k).bal
  slot : ∀ k j, (k = A0 → ¬ Jey j) → KX (yR t k) j = KX (yR s k) j
theorem Kept.refl (s : List AcE) : Kept s s := ⟨fun _ _ _ => rfl, fun _ h => h, fun _ => rfl, fun _ => rfl, fun _ _ _ => rfl⟩
theorem Kept.trans {s t u : List AcE} (h : Kept s t) (k : Kept t u) : Kept s u :=
  ⟨fun x a b => (k.others x a b).trans (h.others x a b), fun x hx => k.there x (h.there x hx), fun x => (k.nonce x).trans (h.nonce x), fun x => (k.bal x).trans (h.bal x), fun x j hj => (k.slot x j hj).trans (h.slot x j hj)⟩
def Way (f g : Int) : Prop := 0 ≤ f ∧ f ≤ g ∧ g ≤ 5
instance (f g : Int) : Decidable (Way f g) := inferInstanceAs (Decidable (_ ∧ _))
def plS (sz a : Nat) : Pl → Pl
  | none => none
  | some (⟨b, o, s⟩, cap) => some (⟨b, if cap = a then o else o + a * sz, s⟩, cap - a)
theorem Seg.slice {R : Jr} {n sz a b : Nat} {cs : List Value} {p : Pl} (h : Seg R n cs p) (hl : cs.length = n * sz) (hab : a < b) (hb : b ≤ n) : Seg R (b - a) ((cs.drop (a * sz)).take ((b - a) * sz)) (plS sz a p) := by
  cases p with
  | none => have h : n = 0 := h; omega
  | some q =>
    obtain ⟨⟨r, o, s⟩, cap⟩ := q
    obtain ⟨h1, h2⟩ := h
    obtain ⟨h3, all, e, fr, h4, h5⟩ := h2 (by omega)
    have hne : ¬ cap = a := by omega
    simp only [plS, if_neg hne]
    have hlen : ((cs.drop (a * sz)).take ((b - a) * sz)).length = (b - a) * sz := by
      rw [List.length_take, List.length_drop, hl, ← Nat.sub_mul]
      exact Nat.min_eq_left (Nat.mul_le_mul_right _ (by omega))
    refine ⟨by omega, fun _ => ⟨h3, all, e, fr, h4, ?_⟩⟩
    rw [hlen]
    exact Jbc h5 rfl hlen
section
variable {c : Cx} {l : Kn} {L : Jr} {X : XP} {Q : Exit → Act → World → Prop} {d : List Deferred}
variable {ops : Array Oper} {rest : List Oper} {i : Nat} {v : Value} {t : TypeId} {ps : String} {af : Array Edge} {gd : Option (Nat × Bool)} {ty t2 : TypeId}
theorem Ji2 {x lo hi : Operand} {p : Pl} {R : Jr} {cs : List Value} {n e sz a b : Nat} {ka kb : IntKind} {za zb : Int} (hx : Ke l x = some (KM n p)) (hs : Seg R n cs p) (hlo : Ke l lo = some (.int ka za)) (hhi : Ke l hi = some (.int kb zb)) (ea : za = (a : Int)) (eb : zb = (b : Int)) (ht : Kl c.P t = some e) (hz : KF c.P e = some sz) (hab : a < b) (hb : b ≤ n) {m : Nat} (hm : b - a = m) :
    J7 c d l L X ⟨some i, .slice t x (some lo) (some hi) none, ty, ps, af, gd⟩ (KM m (plS sz a p)) := by
  subst ea eb hm
  cases p with
  | none => have h : n = 0 := hs; omega
  | some q =>
    obtain ⟨⟨r, o, s⟩, cap⟩ := q
    obtain ⟨h1, h2⟩ := hs
    have h3 : s = none := (h2 (by omega)).1
    subst h3
    exact JR (kl := some a) (kh := some b) (km := none) hx ht hz ⟨_, hlo⟩ ⟨_, hhi⟩ trivial rfl rfl rfl (by omega) (by show b ≤ cap; omega) (Nat.le_refl _) (fun h => by cases h) rfl
theorem Jgu {x y : Operand} {a b : List UInt8} (hx : Ke l x = some (.string (bs a))) (hy : Ke l y = some (.string (bs b))) :
    J7 c d l L X ⟨some i, .binOp .geq t x y t2, ty, ps, af, gd⟩ (.bool (!Op.bytesLess a b)) := fun a' w hf _ => by
  simp only [execOp]
  rw [hf.eval hx, hf.eval hy]
  simp only [binOp, eqGuard, Op.stringOp, Sem.run_bind, XX]
  rfl
theorem xF {x y : Operand} {a b : List UInt8} (hx : Ke l x = some (.string (bs a))) (hy : Ke l y = some (.string (bs b))) :
    J7 c d l L X ⟨some i, .binOp .gtr t x y t2, ty, ps, af, gd⟩ (.bool (Op.bytesLess b a)) := fun a' w hf _ => by
  simp only [execOp]
  rw [hf.eval hx, hf.eval hy]
  have e : (!(Op.bytesLess a b || decide (a = b))) = Op.bytesLess b a := by
    rcases xx a b with h | h | h
    · subst h; rw [Yy]; simp
    · rw [h, xy h]; simp
    · rw [h, xy h]; simp [(yM h).symm]
  rw [← e]
  have e2 : (a == b) = decide (a = b) := by by_cases h : a = b <;> simp [h]
  rw [← e2]
  simp only [binOp, eqGuard, Op.stringOp, Sem.run_bind, XX]
  rfl
theorem Je0 {x y : Operand} {e sz n cap : Nat} {a : Option Addr} {r2 : Option Addr} {c2 : Nat} (hg : Kj l ops ⟨some i, .call ⟨.builtin .append, #[x, y], #[t, t]⟩, ty, ps, af, gd⟩ = some true) (hi : Nat.ble (i + 1) c.n = true)
    (hx : Ke l x = some (.slice a n cap)) (hy : Ke l y = some (.slice r2 0 c2)) (ht : Kl c.P t = some e) (hs : KF c.P e = some sz) (hle : n ≤ cap)
    (h : HL c d ((i, .slice a n cap) :: l) L X ops rest Q) : HL c d l L X ops (⟨some i, .call ⟨.builtin .append, #[x, y], #[t, t]⟩, ty, ps, af, gd⟩ :: rest) Q := by
  obtain ⟨inf, hinf, hs'⟩ : ∃ inf, c.P.info? e = some inf ∧ inf.size = sz := by
    unfold KF at hs
    cases hq : c.P.info? e with
    | none => simp [hq] at hs
    | some inf => simp only [hq, Option.some.injEq] at hs; exact ⟨inf, rfl, hs⟩
  refine ZW hg rfl rfl hi (fun a' w hf _ => ?_) h
  have ex := hf.eval hx
  have ey := hf.eval hy
  have hl : ∀ (q : Addr), (loadCells q 0).run c.P w = .ok #[] w := fun q => by simpa using run_loadCells_list (P := c.P) w q [] (by simp)
  cases r2 <;> cases a <;> simp [execOp, resolve, Sem.run_bind, ex, ey, Result.andThen, invoke, builtin, Builtin.append_, Qd (Kc ht), sizeOf, typeInfo, hinf, Builtin.lenOf, hle, Builtin.firstCells, hl, storeCells]
theorem Jgv {x : Operand} {p : Option Addr} {n cap : Nat} {e : TypeId} (hx : Ke l x = some (.slice p n cap)) (ht : Kl c.P t = some e) :
    J7 c d l L X ⟨some i, .call ⟨.builtin .cap, #[x], #[t]⟩, ty, ps, af, gd⟩ (.int .i64 cap) := fun a w hf _ => by
  have ex := hf.eval hx
  simp [execOp, resolve, Sem.run_bind, ex, Result.andThen, invoke, builtin, Builtin.cap_, Qd (Kc ht), goInt]
theorem qE {x y f : Operand} {e sz k r1 r2 o1 o2 n1 c1 n2 c2 : Nat} {fn : Func} {g : FuncId} {at_ : Array TypeId} {cs1 cs2 : Array Value} {e1 e2 tR : TypeId}
    (hf : Ke l f = some (.func (.func g) #[] #[])) (hx : Ke l x = some (.slice (some ⟨r1, o1, none⟩) n1 c1)) (hy : Ke l y = some (.slice (some ⟨r2, o2, none⟩) n2 c2)) (hk1 : (r1, Obj.cells cs1 e1 (0, 0)) ∈ c.R) (hk2 : L[k]? = some (r2, .cells cs2 e2 (0, 0)))
    (ht : Kl c.P t = some e) (hs : KF c.P e = some sz) (h0 : 0 < cs2.size) (hF : c.P.funcs[g]? = some fn) (hn1 : (fn.name == "runtime.NumGoroutine") = false) (hb : fn.body.isNone = true) (hn2 : Extern.findNext fn = none) (he : Extern.find fn = some (Extern.SlicesOverlaps.overlaps #[t, t] #[tR])) :
    J7 c d l L X ⟨some i, .call ⟨.value f, #[x, y], at_⟩, ty, ps, af, gd⟩ (.bool false) := fun a w hfr hst =>
  Jeu hf hx hy (hst.apart hk2 _ hk1) (Or.inr hk1) (qV hk2) ht hs h0 hF hn1 hb hn2 he a w hfr hst
theorem Xq {e sz : Nat} (hg : Kj l ops ⟨some i, .buildSlice t 0 #[], ty, ps, af, gd⟩ = some true) (hi : Nat.ble (i + 1) c.n = true) (ht : Kl c.P t = some e) (hs : KF c.P e = some sz)
    (h : ∀ q, HL c d ((i, .slice (some ⟨q, 0, none⟩) 0 0) :: l) ((q, .cells #[] e (0, 0)) :: L) X ops rest Q) : HL c d l L X ops (⟨some i, .buildSlice t 0 #[], ty, ps, af, gd⟩ :: rest) Q := by
  refine Wa (V := fun q => .slice (some ⟨q, 0, none⟩) 0 0) (L' := fun q => (q, .cells #[] e (0, 0)) :: L) (X' := fun _ => X) hg rfl rfl hi (fun a w hfr hst => ⟨w.heap.size, w.alloc (.cells #[] e), ?_, hst.alloc _⟩) h
  simp [execOp, Instr.buildSlice, Sem.run_bind, Qd (Kc ht), Vw hs, Result.andThen, Instr.fill, newRow]
  rw [show Array.range 0 = (#[] : Array Nat) from by decide]
  simp
theorem wo {x y : Operand} {k r e sz b n : Nat} {z : Value} {q : Addr × Nat} {cs : List Value} {R L0 : Jr}
    (hg : Kj l ops ⟨some i, .call ⟨.builtin .append, #[x, y], #[t, t]⟩, ty, ps, af, gd⟩ = some true) (hi : Nat.ble (i + 1) c.n = true) (hx : Ke l x = some (.slice (some ⟨r, 0, none⟩) 0 0)) (hk : L[k]? = some (r, .cells #[] e (0, 0))) (hL : L.eraseIdx k = L0)
    (hy : Ke l y = some (KM n (some q))) (hs : Seg R n cs (some q)) (hR : ∀ q ∈ R, known c L q.1 q.2) (ht : Kl c.P t = some e) (hz : QE c.P e = some z) (hsz : KF c.P e = some sz) (hb : Jaz c.P e = some b) (hzs : z.cells.size = sz) (h0 : 0 < sz)
    (hcs : cs.length = n * sz) (hone : cs.all QR = true) (h63 : n ≤ 9223372036854775807) (h47 : n * b ≤ 140737488355328)
    (h : ∀ row, rowOk sz n cs row → HL c d ((i, JF n row) :: l) (JY e cs row ++ L0) X ops rest Q) : HL c d l L X ops (⟨some i, .call ⟨.builtin .append, #[x, y], #[t, t]⟩, ty, ps, af, gd⟩ :: rest) Q := by
  obtain ⟨⟨r2, o2, s2⟩, cap⟩ := q
  obtain ⟨hs1, hs2⟩ := hs
  by_cases hn : n = 0
  · subst hn
    have hc0 : cs = [] := List.length_eq_zero_iff.1 (by rw [hcs, Nat.zero_mul])
    subst hc0
    refine Je0 hg hi hx hy ht hsz (Nat.le_refl _) ?_
    refine KH ?_ (h (some (r, 0, [])) ⟨by simp, by simp⟩)
    have h1 := (List.getElem?_eq_some_iff.1 hk)
    have := vH h1.1 (r, Obj.cells #[] e (0, 0))
    rw [hL, ← h1.2, List.set_getElem_self, h1.2] at this
    exact this
  · obtain ⟨h3, all, e', fr, h4, h5⟩ := hs2 (by omega)
    have h3 : s2 = none := h3
    subst h3
    rw [hcs] at h5
    refine Wo hg hi hx hy (hR _ h4) ht hz hsz hb hzs h0 h5 hcs hone (by omega) (SlOwn.own (n := 0) (cap := 0) (xs := []) hk (by simp) (by simp) (by simp) hL) (by omega) (by rw [Nat.zero_add]; exact h47) fun r' cap' spare hsp => ?_
    have := h (some (r', cap', spare)) ⟨hcs, by rw [Nat.zero_add] at hsp; exact hsp⟩
    simpa [JF, JY] using this
end
def Yz {α : Type} (pr : α → Bool) (xs : List α) : Int := match xs.findIdx? pr with
  | some i => (i : Int)
  | none => -1
theorem Jca {α : Type} {pr : α → Bool} {xs : List α} (h : ∀ (j : Nat) x, xs[j]? = some x → pr x = false) : Yz pr xs = -1 := by
  unfold Yz
  have : xs.findIdx? pr = none := by
    rw [List.findIdx?_eq_none_iff]
    intro x hx
    obtain ⟨j, hj, rfl⟩ := List.mem_iff_getElem.1 hx
    simpa using h j _ (List.getElem?_eq_getElem hj)
  rw [this]
theorem Jcb {α : Type} {pr : α → Bool} {xs : List α} {i : Nat} {x : α} (hx : xs[i]? = some x) (hp : pr x = true) (h : ∀ j, j < i → ∀ y, xs[j]? = some y → pr y = false) : Yz pr xs = (i : Int) := by
  unfold Yz
  obtain ⟨h1, h2⟩ := List.getElem?_eq_some_iff.1 hx
  have : xs.findIdx? pr = some i := by
    rw [List.findIdx?_eq_some_iff_getElem]
    exact ⟨h1, by rw [h2]; exact hp, fun j hj => by simpa using h j hj _ (List.getElem?_eq_getElem (by omega))⟩
  rw [this]
theorem Jrp {α : Type} {pr : α → Bool} {xs : List α} : decide (Yz pr xs ≥ 0) = xs.any pr := by
  unfold Yz
  cases h : xs.findIdx? pr with
  | none =>
    rw [List.findIdx?_eq_none_iff] at h
    have : xs.any pr = false := by rw [List.any_eq_false]; intro x hx; simpa using h x hx
    rw [this]; rfl
  | some i =>
    rw [List.findIdx?_eq_some_iff_getElem] at h
    obtain ⟨h1, h2, _⟩ := h
    have : xs.any pr = true := List.any_eq_true.2 ⟨xs[i], List.getElem_mem _, h2⟩
    rw [this]; simp
theorem wp {α : Type} {pr : α → Bool} {xs : List α} : (Yz pr xs < 0 ∧ xs.find? pr = none) ∨ ∃ (i : Nat) (x : α), Yz pr xs = (i : Int) ∧ xs[i]? = some x ∧ xs.find? pr = some x := by
  unfold Yz
  cases h : xs.findIdx? pr with
  | none =>
    rw [List.findIdx?_eq_none_iff] at h
    exact .inl ⟨by simp, by rw [List.find?_eq_none]; intro x hx; simpa using h x hx⟩
  | some i =>
    rw [List.findIdx?_eq_some_iff_getElem] at h
    obtain ⟨h1, h2, h3⟩ := h
    refine .inr ⟨i, xs[i], rfl, List.getElem?_eq_getElem h1, ?_⟩
    rw [List.find?_eq_some_iff_getElem]
    exact ⟨h2, i, h1, rfl, fun j hj => by simpa using h3 j hj⟩
theorem Jgw {α : Type} {pr : α → Bool} {xs : List α} (h : 0 ≤ Yz pr xs) : ∃ (i : Nat) (x : α), Yz pr xs = (i : Int) ∧ xs[i]? = some x ∧ xs.find? pr = some x := by
  rcases wp (pr := pr) (xs := xs) with ⟨h1, _⟩ | h1
  · omega
  · exact h1
theorem wq {α : Type} {pr : α → Bool} {xs : List α} (h : Yz pr xs < 0) : xs.find? pr = none := by
  rcases wp (pr := pr) (xs := xs) with ⟨_, h1⟩ | ⟨i, x, h1, _⟩
  · exact h1
  · omega
section
variable {α : Type} {kf : α → BS}
def qS (a b : BS) : Int := if Op.bytesLess a b then -1 else if Op.bytesLess b a then 1 else 0
theorem Jgx (a b : BS) : decide (qS a b < 0) = Op.bytesLess a b := by
  unfold qS
  cases Op.bytesLess a b
  · cases Op.bytesLess b a <;> rfl
  · rfl
theorem Jcc (a b : BS) : (qS a b == 0) = decide (a = b) := by
  unfold qS
  rcases xx a b with h | h | h
  · subst h; rw [Yy]; simp
  · rw [h]; simp [yM h]
  · rw [h, xy h]; simp [(yM h).symm]
def ZU (kf : α → BS) (k : BS) (xs : List α) : Nat := (xs.takeWhile fun x => Op.bytesLess (kf x) k).length
def VQ (kf : α → BS) (k : BS) (xs : List α) : Bool := match xs[ZU kf k xs]? with
  | some x => decide (kf x = k)
  | none => false
theorem Jmv (k : BS) (xs : List α) : ZU kf k xs ≤ xs.length := by
  unfold ZU
  have := (List.takeWhile_prefix (p := fun x => Op.bytesLess (kf x) k) (l := xs)).length_le
  exact this
theorem Jmw {k : BS} : ∀ {xs : List α} {i : Nat}, i ≤ xs.length → (∀ q y, q < i → xs[q]? = some y → Op.bytesLess (kf y) k = true) → (∀ y, xs[i]? = some y → Op.bytesLess (kf y) k = false) → i = ZU kf k xs
  | [], i, h, _, _ => by simp [ZU] at h ⊢; exact h
  | x :: xs, 0, _, _, h2 => by
    have := h2 x rfl
    simp [ZU, List.takeWhile_cons, this]
  | x :: xs, i + 1, h, h1, h2 => by
    have h0 := h1 0 x (by omega) rfl
    have := Jmw (xs := xs) (i := i) (by simpa using h) (fun q y hq hy => h1 (q + 1) y (by omega) hy) (fun y hy => h2 y hy)
    unfold ZU at this ⊢
    rw [List.takeWhile_cons, h0]
    simp only [if_true, List.length_cons]
    omega
theorem Jtq {k : BS} : ∀ {xs : List α} {q : Nat} {y : α}, q < ZU kf k xs → xs[q]? = some y → Op.bytesLess (kf y) k = true
  | [], q, y, h, _ => by simp [ZU] at h
  | x :: xs, q, y, h, hy => by
    unfold ZU at h
    rw [List.takeWhile_cons] at h
    split at h
    · rename_i hx
      cases q with
      | zero => obtain rfl : x = y := by simpa using hy
                exact hx
      | succ q => exact Jtq (xs := xs) (q := q) (by simpa [ZU] using h) (by simpa using hy)
    · simp at h
theorem Jtr {k : BS} : ∀ {xs : List α} {q : Nat} {y : α}, KE kf xs → ZU kf k xs ≤ q → xs[q]? = some y → Op.bytesLess (kf y) k = false
  | [], q, y, _, _, hy => by simp at hy
  | x :: xs, q, y, hs, h, hy => by
    obtain ⟨s1, s2⟩ := List.pairwise_cons.1 hs
    unfold ZU at h
    rw [List.takeWhile_cons] at h
    split at h
    · cases q with
      | zero => simp at h
      | succ q => exact Jtr (xs := xs) (q := q) s2 (by simpa [ZU] using h) (by simpa using hy)
    · rename_i hx
      have hx : Op.bytesLess (kf x) k = false := by simpa using hx
      cases q with
      | zero => obtain rfl : x = y := by simpa using hy
                exact hx
      | succ q =>
        have hm : y ∈ xs := List.mem_of_getElem? (by simpa using hy)
        cases hyk : Op.bytesLess (kf y) k
        · rfl
        · rw [VL (s1 y hm) hyk] at hx; cases hx
theorem Jcd {k : BS} {xs : List α} (hs : KE kf xs) {h : Nat} {x : α} (hx : xs[h]? = some x) (hb : Op.bytesLess (kf x) k = true) : ∀ q y, q < h + 1 → xs[q]? = some y → Op.bytesLess (kf y) k = true := fun q y hq hy => by
  rcases Nat.lt_succ_iff_lt_or_eq.1 hq with hq | rfl
  · have hp := List.pairwise_iff_getElem.1 hs q h (List.getElem?_eq_some_iff.1 hy).1 (List.getElem?_eq_some_iff.1 hx).1 hq
    rw [(List.getElem?_eq_some_iff.1 hy).2, (List.getElem?_eq_some_iff.1 hx).2] at hp
    exact VL hp hb
  · rw [hx] at hy; cases hy; exact hb
theorem Jce {k : BS} {xs : List α} (hs : KE kf xs) {h : Nat} {x : α} (hx : xs[h]? = some x) (hb : Op.bytesLess (kf x) k = false) : ∀ q y, h ≤ q → xs[q]? = some y → Op.bytesLess (kf y) k = false := fun q y hq hy => by
  rcases Nat.lt_or_eq_of_le hq with hq | rfl
  · have hp := List.pairwise_iff_getElem.1 hs h q (List.getElem?_eq_some_iff.1 hx).1 (List.getElem?_eq_some_iff.1 hy).1 hq
    rw [(List.getElem?_eq_some_iff.1 hy).2, (List.getElem?_eq_some_iff.1 hx).2] at hp
    cases hyk : Op.bytesLess (kf y) k
    · rfl
    · rw [VL hp hyk] at hb; cases hb
  · rw [hx] at hy; cases hy; exact hb
theorem Jcf {k : BS} {xs : List α} {x : α} (h : xs[ZU kf k xs]? = some x) : VQ kf k xs = decide (kf x = k) := by unfold VQ; rw [h]
theorem qh {k : BS} {xs : List α} (h : xs.length ≤ ZU kf k xs) : VQ kf k xs = false := by unfold VQ; rw [List.getElem?_eq_none h]
theorem Jmx {x : α} {xs : List α} (hs : KE kf xs) : Q0 kf x xs = if VQ kf (kf x) xs = true then xs.set (ZU kf (kf x) xs) x else xs.take (ZU kf (kf x) xs) ++ x :: xs.drop (ZU kf (kf x) xs) := by
  obtain ⟨i, hi⟩ : ∃ i, i = ZU kf (kf x) xs := ⟨_, rfl⟩
  have hle : i ≤ xs.length := hi ▸ Jmv _ _
  have h := Jmk (kf := kf) (x := x) (p := xs.take i) (q := xs.drop i) (fun y hy => by
    obtain ⟨j, e⟩ := List.mem_iff_getElem?.1 hy
    have hj := (List.getElem?_eq_some_iff.1 e).1
    rw [List.length_take] at hj
    rw [List.getElem?_take, if_pos (by omega)] at e
    exact Jtq (by omega) e) (fun y hy => by
    obtain ⟨j, e⟩ := List.mem_iff_getElem?.1 hy
    rw [List.getElem?_drop] at e
    exact Jtr hs (by omega) e)
  rw [List.take_append_drop] at h
  rw [h]
  unfold VQ
  rw [← hi]
  by_cases hlt : i < xs.length
  · rw [List.getElem?_eq_getElem hlt, List.drop_eq_getElem_cons hlt]
    simp only [decide_eq_true_eq]
    split
    · rw [List.set_eq_take_append_cons_drop, if_pos hlt]
    · rfl
  · rw [List.getElem?_eq_none (by omega), List.drop_of_length_le (by omega)]
    simp
end
def fV (f : FuncId) : Value := .func (.func f) #[] #[]
theorem Zt {α : Type} {kf : α → BS} : ∀ {xs : List α}, (∀ (j : Nat) x y, xs[j]? = some x → xs[j + 1]? = some y → Op.bytesLess (kf x) (kf y) = true) → QL kf xs = true
  | [], _ => rfl
  | [_], _ => rfl
  | x :: y :: xs, h => by
    rw [QL, h 0 x y rfl rfl, Bool.true_and]
    exact Zt fun j u v hu hv => h (j + 1) u v (by simpa using hu) (by simpa using hv)
theorem j0 {α : Type} {kf : α → BS} : ∀ {xs : List α} {j : Nat} {x y : α}, xs[j]? = some x → xs[j + 1]? = some y → Op.bytesLess (kf x) (kf y) = false → QL kf xs = false
  | [], _, _, _, h, _, _ => by simp at h
  | [_], _, _, _, _, h, _ => by simp at h
  | a :: b :: xs, 0, x, y, hx, hy, h => by
    obtain rfl : a = x := by simpa using hx
    obtain rfl : b = y := by simpa using hy
    rw [QL, h, Bool.false_and]
  | a :: b :: xs, j + 1, x, y, hx, hy, h => by
    rw [QL, j0 (xs := b :: xs) (j := j) (by simpa using hx) (by simpa using hy) h, Bool.and_false]
theorem Y0 {α : Type} {f : α → List Value} (h : ∀ x, (f x).all QR = true) : ∀ l : List α, (l.flatMap f).all QR = true
  | [] => rfl
  | x :: l => by rw [List.flatMap_cons, List.all_append, h, Y0 h l]; rfl
theorem cut {l : List Value} {a : Nat} (h : a ≤ l.length) : ∃ x y, l = x ++ y ∧ x.length = a := ⟨l.take a, l.drop a, (List.take_append_drop ..).symm, by rw [List.length_take]; omega⟩
theorem Jcg {α : Type} {kf : α → BS} {k : BS} {xs : List α} (h : VQ kf k xs = true) : ZU kf k xs < xs.length := by
  rcases Nat.lt_or_ge (ZU kf k xs) xs.length with h1 | h1
  · exact h1
  · rw [qh h1] at h; cases h
theorem row_some {sz n : Nat} {xs : List Value} {row : Vz} (h : rowOk sz n xs row) (hn : 0 < n) : ∃ r cap sp, row = some (r, cap, sp) := by
  cases row with
  | none => have := h.1; omega
  | some q => obtain ⟨r, cap, sp⟩ := q; exact ⟨r, cap, sp, rfl⟩
theorem Xs {P M S V : List Value} {o n : Nat} (ho : P.length = o) (hn : M.length = n) : (P ++ (M ++ S)).take o ++ V ++ (P ++ (M ++ S)).drop (o + n) = P ++ (V ++ S) := by
  subst ho hn
  rw [List.take_left' rfl, ← List.drop_drop, List.drop_left' rfl, List.drop_left' rfl, List.append_assoc]
theorem Jgy {α : Type} {f : α → List Value} {m : Nat} (hf : ∀ x, (f x).length = m) {xs : List α} {j : Nat} (hj : j < xs.length) (y : α) (sp : List Value) :
    (xs.flatMap f ++ sp).take (j * m) ++ f y ++ (xs.flatMap f ++ sp).drop (j * m + m) = (xs.set j y).flatMap f ++ sp := by
  have e : xs = xs.take j ++ xs[j] :: xs.drop (j + 1) := by rw [← List.drop_eq_getElem_cons hj, List.take_append_drop]
  have e1 : xs.flatMap f ++ sp = (xs.take j).flatMap f ++ (f xs[j] ++ ((xs.drop (j + 1)).flatMap f ++ sp)) := by
    rw [show xs.flatMap f = (xs.take j ++ xs[j] :: xs.drop (j + 1)).flatMap f from congrArg (List.flatMap f) e, List.flatMap_append, List.flatMap_cons, List.append_assoc, List.append_assoc]
  have e2 : (xs.set j y).flatMap f ++ sp = (xs.take j).flatMap f ++ (f y ++ ((xs.drop (j + 1)).flatMap f ++ sp)) := by
    rw [List.set_eq_take_append_cons_drop, if_pos hj]
    simp [List.flatMap_append, List.flatMap_cons]
  rw [e1, e2]
  exact Xs (by rw [KU hf, List.length_take]; congr 1; omega) (hf _)
theorem Pure.toR {P : Program} {f : FuncId} {args : Array Value} {v : Value} {R : Jr} (h : Pure P f args v) : PureR P f args v R := ⟨fun w _ => h.run w⟩
theorem Ji3 {α : Type} {f : α → List Value} {m : Nat} (hf : ∀ x, (f x).length = m) {xs : List α} {i : Nat} {x y : α} (hx : xs[i]? = some x) (hy : xs[i + 1]? = some y) : ((xs.flatMap f).drop (i * m)).take (2 * m) = [x, y].flatMap f := by
  have h1 := X9 hf hx
  have h2 := X9 hf hy
  rw [show 2 * m = m + m by omega, List.take_add, h1, List.drop_drop, show i * m + m = (i + 1) * m by rw [Nat.succ_mul], h2]
  simp
def VD (s : StL) (k : BS) : AcL := (s.accts.find? fun a => decide (a.addr = k)).getD ac0L
def VS (s : StL) (k : BS) : Bool := (s.accts.find? fun a => decide (a.addr = k)).isSome
theorem Jch {l : List AcL} {k : BS} : Vb AcE.addr k (l.map AcL.er) = (l.find? fun a => decide (a.addr = k)).map AcL.er := by
  induction l with
  | nil => rfl
  | cons a l ih =>
    rw [List.map_cons, Qu, ih, List.find?_cons]
    by_cases h : a.addr = k
    · rw [if_pos (show a.er.addr = k from h), decide_eq_true h]; rfl
    · rw [if_neg (show ¬ a.er.addr = k from h), decide_eq_false h]
theorem Jmy (s : StL) (k : BS) : VS s k = (VC s.er k).isSome := by
  unfold VS VC StL.er
  rw [Jch]
  cases s.accts.find? fun a => decide (a.addr = k) <;> rfl
theorem Jrq (s : StL) (k : BS) : (VD s k).er = (VC s.er k).getD ac0 := by
  unfold VD VC StL.er
  rw [Jch]
  cases s.accts.find? fun a => decide (a.addr = k) <;> rfl
theorem Jgz {R : Jr} {s : StL} (h : s.In R) (k : BS) : (VD s k).In R := by
  unfold VD
  cases hx : s.accts.find? fun a => decide (a.addr = k) with
  | none => exact Jmm
  | some a => exact h.accts a (List.mem_of_find?_eq_some hx)
theorem Jci {s : StL} {k : BS} {a : AcL} (h : (s.accts.find? fun a => decide (a.addr = k)) = some a) : VD s k = a ∧ VS s k = true := by
  unfold VD VS; rw [h]; exact ⟨rfl, rfl⟩
theorem yS {s : StL} {k : BS} (h : (s.accts.find? fun a => decide (a.addr = k)) = none) : VD s k = ac0L ∧ VS s k = false := by
  unfold VD VS; rw [h]; exact ⟨rfl, rfl⟩
theorem Jmz {a : AcE} {k : BS} {x : BS × BS} (h : (a.slots.find? fun y => decide (y.1 = k)) = some x) : KX a k = x.2 := by
  unfold KX Vb
  rw [show (fun y : BS × BS => y.1 == k) = fun y => decide (y.1 = k) from funext fun y => by by_cases e : y.1 = k <;> simp [e], h]
theorem Ji4 {a : AcE} {k : BS} (h : (a.slots.find? fun y => decide (y.1 = k)) = none) : KX a k = Vc := by
  unfold KX Vb
  rw [show (fun y : BS × BS => y.1 == k) = fun y => decide (y.1 = k) from funext fun y => by by_cases e : y.1 = k <;> simp [e], h]
theorem Je1 {α : Type} {kf : α → BS} (x y : α) : QL kf [x, y] = Op.bytesLess (kf x) (kf y) := by
  rw [QL, QL, Bool.and_true]
def WI (l : List AcE) : Nat → Option BS
  | 0 => none
  | i + 1 => l[i]?.map AcE.addr
theorem Jg0 {l : List AcE} {i : Nat} {a : AcE} (h : l[i]? = some a) : goS (WI l i) (l.drop i) = if Vd (WI l i) a ≠ 0 then Vd (WI l i) a else goS (WI l (i + 1)) (l.drop (i + 1)) := by
  rw [Y9 h, goS, show WI l (i + 1) = some a.addr from by show Option.map AcE.addr l[i]? = _; rw [h]; rfl]
theorem Wd {s : StL} {i : Nat} {a : AcL} (h : s.accts[i]? = some a) : s.er[i]? = some a.er := by unfold StL.er; rw [List.getElem?_map, h]; rfl
theorem Seg.two {α : Type} {f : α → List Value} {m : Nat} (hf : ∀ x, (f x).length = m) {R : Jr} {xs : List α} {p : Pl} (h : Seg R xs.length (xs.flatMap f) p) {i j : Nat} {x y : α} (hx : xs[j]? = some x) (hy : xs[i]? = some y) (e : j + 1 = i) : Seg R [x, y].length ([x, y].flatMap f) (plS m j p) := by
  subst e
  have hlt := (List.getElem?_eq_some_iff.1 hy).1
  have h1 := h.slice (sz := m) (a := j) (b := j + 2) (KU hf xs) (by omega) (by omega)
  rw [show j + 2 - j = 2 by omega, Ji3 hf hx hy] at h1
  exact h1
theorem Jg1 {last : Option BS} {a : AcE} {b : BS} (h : XE a ≠ 2) (hl : last = some b) (hb : Op.bytesLess b a.addr = false) : Vd last a = 11 := by unfold Vd; rw [if_pos ⟨h, b, hl, hb⟩]
theorem xG {last : Option BS} {a : AcE} (h : XE a = 2 ∨ last = none ∨ ∃ b, last = some b ∧ Op.bytesLess b a.addr = true) : Vd last a = XE a := by
  unfold Vd
  rw [if_neg]
  rintro ⟨h1, b, h2, h3⟩
  rcases h with h | h | ⟨c, h, h4⟩
  · exact h1 h
  · rw [h] at h2; cases h2
  · rw [h] at h2; cases h2; rw [h3] at h4; cases h4
theorem xH {s : StL} {i j : Nat} {x : AcL} (hx : s.accts[j]? = some x) (e : j + 1 = i) : WI s.er i = some x.addr := by
  subst e; show Option.map AcE.addr s.er[j]? = _; rw [Wd hx]; rfl
theorem Jg2 (s : StL) : (32 < (s.accts.length : Int) → Qv s.er = 5) ∧ (¬ 32 < (s.accts.length : Int) → Qv s.er = goS none s.er) := by
  unfold Qv
  rw [s.er_len]
  exact ⟨fun h => by rw [if_pos (by omega)], fun h => by rw [if_neg (by omega)]⟩
theorem PureR.mono {P : Program} {f : FuncId} {args : Array Value} {v : Value} {R R' : Jr} (h : PureR P f args v R) (hs : ∀ q ∈ R, q ∈ R') : PureR P f args v R' := ⟨fun w hw => h.run w fun p hp => hw p (hs p hp)⟩
def Vo : Vz → Pl
  | none => none
  | some (r, cap, _) => some (⟨r, 0, none⟩, cap)
theorem We (n : Nat) (row : Vz) (h : row = none → n = 0) : KM n (Vo row) = JF n row := by
  cases row with
  | none => rw [h rfl]; rfl
  | some q => rfl
theorem Qg {sz n e : Nat} {cs : List Value} {row : Vz} (h : rowOk sz n cs row) (h0 : 0 < sz) : Seg (JY e cs row) n cs (Vo row) := by
  cases row with
  | none => exact h.1
  | some q =>
    obtain ⟨r, cap, sp⟩ := q
    obtain ⟨h1, h2⟩ := h
    exact ⟨Nat.le_of_mul_le_mul_right (by omega : n * sz ≤ cap * sz) h0, fun _ => ⟨rfl, _, e, (0, 0), List.mem_cons_self, by simp⟩⟩
theorem Jrr {α : Type} {pr : α → Bool} {xs : List α} {i : Nat} (h : Yz pr xs = (i : Int)) : i < xs.length ∧ (xs.take (i + 1)).filter (fun x => !pr x) = xs.take i := by
  unfold Yz at h
  split at h
  · rename_i j hj
    obtain rfl : j = i := by omega
    rw [List.findIdx?_eq_some_iff_getElem] at hj
    obtain ⟨h1, h2, h3⟩ := hj
    refine ⟨h1, ?_⟩
    rw [List.take_succ_eq_append_getElem h1, List.filter_append, List.filter_eq_self.2, List.filter_eq_nil_iff.2, List.append_nil]
    · intro x hx
      rw [List.mem_singleton.1 hx]; simp [h2]
    · intro x hx
      obtain ⟨q, hq, rfl⟩ := List.mem_iff_getElem.1 hx
      rw [List.getElem_take]
      simp only [List.length_take] at hq
      simpa using h3 q (by omega)
  · omega
theorem Jrs {α : Type} {pr : α → Bool} {xs : List α} (h : Yz pr xs < 0) : xs.filter (fun x => !pr x) = xs := by
  rw [List.filter_eq_self]
  intro x hx
  have := wq h
  rw [List.find?_eq_none] at this
  simpa using this x hx
theorem Yd {α : Type} {pr : α → Bool} {xs : List α} {j : Nat} {x : α} (hx : xs[j]? = some x) : (xs.take (j + 1)).filter pr = (xs.take j).filter pr ++ (if pr x then [x] else []) := by
  obtain ⟨h1, h2⟩ := List.getElem?_eq_some_iff.1 hx
  rw [List.take_succ_eq_append_getElem h1, List.filter_append, h2]
  congr 1
  by_cases h : pr x = true <;> simp [h]
theorem Jcj {α : Type} {f : α → List Value} {xs : List α} {j : Nat} {x : α} (hx : xs[j]? = some x) : (xs.drop j).flatMap f = f x ++ (xs.drop (j + 1)).flatMap f := by rw [Y9 hx, List.flatMap_cons]
structure AcRes (R : Jr) (e : AcE × Int) : Type where
  a : AcL
  err : Int
  L : Jr
  ok : a.In (L ++ R)
  eq : (a.er, err) = e
structure StRes (R : Jr) (e : List AcE × Int) : Type where
  s : StL
  err : Int
  L : Jr
  ok : s.In (L ++ R)
  eq : (s.er, err) = e
def AcRes.val {R : Jr} {e : AcE × Int} (x : AcRes R e) : Value := .tuple #[x.a.val, .int .i64 x.err]
def StRes.val {R : Jr} {e : List AcE × Int} (x : StRes R e) : Value := .tuple #[x.s.val, .int .i64 x.err]
theorem YV (n : Nat) (row : Vz) : QR (JF n row) = true := by cases row <;> rfl
theorem Je2 {k v : BS} {l : List (BS × BS)} : (Q0 Prod.fst (k, v) l).filter (fun x => !decide (x.1 = k)) = qf Prod.fst k l := by
  rw [← Jgp (kf := Prod.fst) (x := (k, v)) (l := l)]
  unfold qf
  refine List.filter_congr fun x _ => ?_
  by_cases h : x.1 = k <;> simp [h]
theorem Je3 (a : AcL) : ∀ l : List AcL, (Q0 AcL.addr a l).map AcL.er = Q0 AcE.addr a.er (l.map AcL.er)
  | [] => rfl
  | x :: l => by
    rw [List.map_cons, Q0, Q0]
    show _ = if Op.bytesLess x.addr a.addr then _ else if x.addr = a.addr then _ else _
    split
    · rw [List.map_cons, Je3 a l]
    · split <;> rfl
theorem Ji5 (s : StL) : KE AcL.addr s.accts ↔ KE AcE.addr s.er := by
  unfold StL.er KE
  rw [List.pairwise_map]
  exact Iff.rfl
theorem ws {R L : Jr} {a : AcL} (ha : a.In R) {k v : BS} (hk : k.length = 32) (hv : v.length = 32) (hlen : (Qf a.slots k v).length ≤ 9223372036854775807) {p : Pl} (hp : Seg L (Qf a.slots k v).length (wi (Qf a.slots k v)) p) : AcL.In (L ++ R) ⟨a.addr, a.nonce, a.bal, a.code, Qf a.slots k v, p⟩ :=
  ⟨ha.addr, ha.nonce, ha.bal, ha.code, hlen, hp.mono fun q hq => List.mem_append_left _ hq, fun x hx => by
    rcases wm hx with ⟨rfl, _⟩ | hx
    · exact ⟨by show k.length ≤ _; rw [hk]; decide, by show v.length ≤ _; rw [hv]; decide⟩
    · exact ha.slots x hx⟩
inductive EqF (P : Program) (xs ys : List Value) : List Field → Bool → Prop
  | nil : EqF P xs ys [] true
  | scal {f : Field} {fs : List Field} {a b : Value} {r : Bool} (hn : (f.name == "_") = false) (he : VX P f.type = some false) (ga : Wl xs f.offset = some a) (gb : Wl ys f.offset = some b) (ha : Wb P f.type a = true) (hb : Wb P f.type b = true) (h : EqF P xs ys fs r) : EqF P xs ys (f :: fs) (eqS a b && r)
  | arr {f : Field} {fs : List Field} {n e : Nat} {va vb : List Value} {r : Bool} (hn : (f.name == "_") = false) (ht : jd P f.type = some (n, e)) (hz : KF P f.type = some n) (he : VX P e = some false) (hs : KF P e = some 1) (ga : (xs.drop f.offset).take n = va) (gb : (ys.drop f.offset).take n = vb) (hla : va.length = n) (hlb : vb.length = n)
      (h1 : va.all (Wb P e) = true) (h2 : vb.all (Wb P e) = true) (h : EqF P xs ys fs r) : EqF P xs ys (f :: fs) (Vm va vb && r)
theorem yT {P : Program} {t n : Nat} {cs va : List Value} {off : Nat} {e m : Nat} (ht : jd P t = some (m, e)) (hz : KF P t = some n) (ga : (cs.drop off).take n = va) (hl : va.length = n) (w : World) : (part t cs.toArray off).run P w = .ok (.agg va.toArray) w := by
  have e1 : (cs.toArray.extract off (off + n)) = va.toArray := by
    apply Array.toList_inj.1
    rw [← ga, List.extract_toArray, List.extract_eq_take_drop, Nat.add_sub_cancel_left]
  unfold part
  simp only [Sem.run_bind, ZX (show VX P t = some true from by unfold VX; rw [qX ht]), Result.andThen, Vw hz, if_true, e1]
  rfl
theorem xI {P : Program} {xs ys : List Value} {d : Nat} {w : World} : ∀ {fs : List Field} {b : Bool}, EqF P xs ys fs b → (Op.eqFields (d + 2) xs.toArray ys.toArray fs).run P w = .ok b w := by
  intro fs b h
  induction h with
  | nil => simp [Op.eqFields]
  | @scal f fs a b r hn he ga gb ha hb h ih =>
    have hn' : f.name ≠ "_" := by intro e; rw [e] at hn; simp at hn
    simp only [Op.eqFields, Sem.run_ite, if_pos hn', Sem.run_bind, Zk he (show xs.toArray[f.offset]? = some a from by rw [List.getElem?_toArray, ← Vf]; exact ga), Zk he (show ys.toArray[f.offset]? = some b from by rw [List.getElem?_toArray, ← Vf]; exact gb), Result.andThen, zF ha hb]
    cases hab : eqS a b
    · simp
    · simpa using ih
  | @arr f fs n e va vb r hn ht hz he hs ga gb hla hlb h1 h2 h ih =>
    have hn' : f.name ≠ "_" := by intro e; rw [e] at hn; simp at hn
    simp only [Op.eqFields, Sem.run_ite, if_pos hn', Sem.run_bind, yT ht hz ga hla, yT ht hz gb hlb, Result.andThen, jY ht he hs hla hlb h1 h2]
    cases hab : Vm va vb
    · simp
    · simpa using ih
section
variable {c : Cx} {l : Kn} {L : Jr} {X : XP} {d : List Deferred}
variable {i : Nat} {t : TypeId} {ps : String} {af : Array Edge} {gd : Option (Nat × Bool)} {ty t2 : TypeId}
theorem Jg3 {x y : Operand} {xs ys : List Value} {b : Bool} (hx : Ke l x = some (.agg xs.toArray)) (hy : Ke l y = some (.agg ys.toArray)) (ht : c.P.underlying t = some (.struct (c.P.fieldsOf t))) (hp : c.P.stoodInHeld t = false) (hgt : c.P.eqGuardType c.P.depth t = false) (hE : EqF c.P xs ys (c.P.fieldsOf t).toList b) :
    J7 c d l L X ⟨some i, .binOp .neq t x y t2, ty, ps, af, gd⟩ (.bool (!b)) := fun a' w hf _ => by
  have hr := run_equalIn_struct (P := c.P) w 9999 t xs.toArray ys.toArray ht hp
  rw [xI hE] at hr
  have h0 := run_neq_struct (P := c.P) w t xs.toArray ys.toArray
  rw [hr] at h0
  simp only [execOp]
  rw [hf.eval hx, hf.eval hy]
  simp only [Sem.run_bind, run_eqGuard_agg w .neq t x y _ _ hgt, Result.andThen, h0]
  rfl
end
theorem Jg4 (a b : BS) : eqS (J2 a) (J2 b) = decide (a = b) := zE a b
theorem Jg5 (x y : BS × BS) : (eqS (J2 x.1) (J2 y.1) && (eqS (J2 x.2) (J2 y.2) && true)) = decide (x = y) := by
  rw [Jg4, Jg4]
  obtain ⟨a, b⟩ := x
  obtain ⟨c, d⟩ := y
  by_cases h1 : a = c <;> by_cases h2 : b = d <;> simp [h1, h2]
theorem Jm0 {α : Type} {xs ys : List α} {i : Nat} (hl : xs.length = ys.length) (hi : xs.length ≤ i) (h : ∀ j, j < i → xs[j]? = ys[j]?) : xs = ys := by
  apply List.ext_getElem?
  intro j
  by_cases hj : j < i
  · exact h j hj
  · rw [List.getElem?_eq_none (by omega), List.getElem?_eq_none (by omega)]
theorem Jm1 {α : Type} {xs ys : List α} {i : Nat} {x y : α} (hx : xs[i]? = some x) (hy : ys[i]? = some y) (h : ¬ x = y) : ¬ xs = ys := by
  rintro rfl; rw [hx] at hy; exact h (Option.some.inj hy)
theorem eqU (a b : Nat) : eqS (uV a) (uV b) = decide (a = b) := by
  show ((a : Int) == (b : Int)) = _
  by_cases h : a = b
  · subst h; simp
  · have : ¬ (a : Int) = b := by omega
    simp [h, this]
theorem eqW (x y : W4) : Vm [uV x.a, uV x.b, uV x.c, uV x.d] [uV y.a, uV y.b, uV y.c, uV y.d] = decide (x = y) := by
  simp only [Vm, eqU]
  obtain ⟨a, b, c, d⟩ := x
  obtain ⟨a', b', c', d'⟩ := y
  by_cases h1 : a = a' <;> by_cases h2 : b = b' <;> by_cases h3 : c = c' <;> by_cases h4 : d = d' <;> simp [h1, h2, h3, h4]
def Jm2 {ι : Type} (P : Program) (gf : FuncId) (caps : List Value) (Rl : Jr) (p0 : ι) (nx : ι → List Value → Jr → ι → Prop) (fin : ι → Prop) : Prop :=
  ∀ (q : Nat) (xids : List Nat) (w2 : World) (XI : ι → XP) (XF : XP),
    (∀ p ∈ Rl, p.1 ∉ xids ∧ w2.heap[p.1]? = some p.2) → (∀ k ∈ xids, k < w2.heap.size) → Yo xids (XI p0) w2 →
    (∀ i v B i', nx i v B i' → ∀ xs w, (∀ k ∈ xs, k < w.heap.size ∧ (k ∈ xids ∨ w2.heap.size ≤ k)) → Keep xids w2 w → Yo xs (XI i) w → jT B w → (∀ p ∈ B, p.1 ∉ xs ∧ p.1 ∉ xids) → YS P q v.toArray xs w (XI i') XF) →
    Calls P gf (.func (.yield q) #[] #[] :: caps).toArray w2 fun e w' => (∃ v, e = .returned v) ∧ Keep xids w2 w' ∧ ((∃ i xs, fin i ∧ XI i xs w') ∨ ∃ xs, XF xs w')
section
variable {c : Cx} {l : Kn} {L : Jr} {X : XP} {Q : Exit → Act → World → Prop} {d : List Deferred}
variable {ops : Array Oper} {rest : List Oper} {i : Nat} {v : Value} {t : TypeId} {ps : String} {af : Array Edge} {gd : Option (Nat × Bool)} {ty : TypeId}
theorem Ji6 {B : Jr} {f : Operand} {args : Array Operand} {at_ : Array TypeId} {q : Nat} {vs : List Value} {XT XF : XP}
    (hg : Kj l ops ⟨some i, .call ⟨.value f, args, at_⟩, ty, ps, af, gd⟩ = some true) (hi : Nat.ble (i + 1) c.n = true)
    (hf : Ke l f = some (.func (.yield q) #[] #[])) (ha : evs l args.toList = some vs)
    (hY : ∀ xs w, (∀ k ∈ xs, k < w.heap.size ∧ (k ∈ c.xids ∨ c.w1.heap.size ≤ k)) → Keep (c.ids ++ c.xids) c.w1 w → Yo xs X w → jT B w → (∀ p ∈ B, p.1 ∉ xs ∧ p.1 ∉ c.xids) → YS c.P q vs.toArray xs w XT XF) (hBL : ∀ p ∈ B, p ∈ L)
    (h1 : HL c d ((i, .bool true) :: l) L XT ops rest Q) (h0 : HL c d ((i, .bool false) :: l) L XF ops rest Q) : HL c d l L X ops (⟨some i, .call ⟨.value f, args, at_⟩, ty, ps, af, gd⟩ :: rest) Q := fun a w hfr hs => by
  refine QA (JB hfr hg) rfl ?_
  obtain ⟨xs, hx1, hx2⟩ := hs.x
  obtain ⟨fn, tmps, assign, body, hy, hR⟩ := hY xs w (fun k hk => ⟨(hx1 k hk).2.1, (hx1 k hk).1⟩) hs.keep hx2 (fun p hp => (hs.own p (hBL p hp)).2.2) (fun p hp => ⟨fun hm => (hx1 _ hm).2.2 p (hBL p hp) rfl, (hs.own p (hBL p hp)).2.1⟩)
  have h2 := hfr.evals ha
  have h3 : args.map a.eval = vs.toArray := by apply Array.toList_inj.1; rw [Array.toList_map]; simpa using h2
  have h4 : a.eval f = .func (.yield q) #[] #[] := hfr.eval hf
  have hrun : (execOp a.eval ⟨some i, .call ⟨.value f, args, at_⟩, ty, ps, af, gd⟩).run c.P w = .ok (.round q fn tmps assign body) w := by
    simp only [execOp, Sem.run_bind]
    simp [resolve, h3, h4, Deferred.ofValue, Result.andThen, invoke, hy]
  rw [hrun, Oper.uponIn_round]
  refine ⟨fun hdep => (by cases hdep), ?_⟩
  refine RoundIn.mono (show RoundIn (FW c.ro) (0 - 1) c.P q fn tmps assign body w _ from hR) ?_
  rintro e w' ⟨b, xs', rfl, hxs, hk, hb⟩
  have hs' : ∀ X', Yo xs' X' w' → St c L X' w' := fun X' hx => by
    refine ⟨hs.keep.glue hk fun k hm => ?_, fun p hp => ?_, hs.distinct, hs.ext, hs.xlt, xs', fun k hm => ?_, hx⟩
    · rcases (hx1 k hm).1 with g | g
      · exact .inl (List.mem_append_right _ g)
      · exact .inr g
    · obtain ⟨g1, g2, g3⟩ := hs.own p hp
      exact ⟨g1, g2, (hk.block p.1 (Js g3) fun hm => (hx1 _ hm).2.2 p hp rfl).trans g3⟩
    · obtain ⟨g1, g2⟩ := hxs k hm
      refine ⟨g2.elim (fun g => (hx1 k g).1) fun g => .inr (Nat.le_trans hs.keep.size g), g1, fun p hp => ?_⟩
      rcases g2 with g | g
      · exact (hx1 k g).2.2 p hp
      · have := Js (hs.own p hp).2.2; omega
  cases b with
  | true => exact h1 _ w' (hfr.put (Nat.le_of_ble_eq_true hi)) (hs' XT (by simpa using hb))
  | false => exact h0 _ w' (hfr.put (Nat.le_of_ble_eq_true hi)) (hs' XF (by simpa using hb))
theorem yU {ι σ τ : Type} {f : Operand} {pp : List Nat} {assign body : Code} {gf : FuncId} {caps : List Value} {Rl : Jr} {p0 : ι} {nx : ι → List Value → Jr → ι → Prop} {fi : ι → Prop}
    (I : ι → σ → Prop) (LI : σ → Jr) (E : Code → τ → Prop) (LE : τ → Jr) (Lk : Jr) (s0 : σ)
    (hro : c.ro = none) (hf : Ke l f = some (.func (.func gf) #[] caps.toArray)) (eg : Enters c.P gf) (hit : Jm2 c.P gf caps Rl p0 nx fi) (hlen : ∀ i v B i', nx i v B i' → v.length = pp.length) (hpp : pp.all (Nat.blt · c.n) = true)
    (hRl : ∀ p ∈ Rl, p ∈ Lk ∨ p ∈ c.R) (hL : L = LI s0 ++ Lk) (h0 : I p0 s0)
    (hround : ∀ (q : Nat) (Xr Xb : XP) (w3 : World) (i : ι) (v : List Value) (B : Jr) (i' : ι) (s : σ), nx i v B i' → I i s → ∀ K, Jfo (jU c q w3 (KO (LI s)) (B ++ Lk)) Xr Xb body (jV (jU c q w3 (KO (LI s)) (B ++ Lk)) Xb (I i') LI E LE) K →
      HC (jU c q w3 (KO (LI s)) (B ++ Lk)) [] (qM pp v l) (LI s) Xr assign (Exit.then K fun _ _ _ => False))
    (hdone : ∀ D i s, fi i → I i s → HQ c (QG D :: d) l ((D, .deferred (some [])) :: (LI s ++ Lk)) X (Q .normal))
    (hstop : ∀ D j s, E j s → HC c (QG D :: d) l ((D, .deferred (some [])) :: (LE s ++ Lk)) X j Q) :
    HC c d l L X (.rangeFunc f pp.toArray assign body) Q := fun a w hfr hs => by
  subst hL
  refine wpIn_rangeFunc ?_
  intro fn _
  have e0 : (FW c.ro).round = none := by rw [hro]; rfl
  rw [e0]
  obtain ⟨r, hr⟩ : ∃ r : Loop, r = { state := .ready, pending := none, fn, tmps := a.tmps, params := pp.toArray, assign, body, defers := w.heap.size } := ⟨_, rfl⟩
  obtain ⟨w2, hw2⟩ : ∃ w2, (w.alloc (.deferred (some []))).alloc (.loop r) = w2 := ⟨_, rfl⟩
  have hq : (w.alloc (.deferred (some []))).heap.size = w.heap.size + 1 := World.size_alloc _ _
  have hs2 : St c ((w.heap.size + 1, .loop r) :: (w.heap.size, .deferred (some [])) :: (LI s0 ++ Lk)) X w2 := by
    have := (hs.alloc (.deferred (some []))).alloc (.loop r)
    rw [hq, hw2] at this
    exact this
  have hq2 : w2.heap[w.heap.size + 1]? = some (.loop r) := (hs2.own _ List.mem_cons_self).2.2
  have hrr : ({ r with state := .ready, pending := none } : Loop) = r := by rw [hr]
  obtain ⟨M, hM⟩ : ∃ M, KO (LI s0) = M := ⟨_, rfl⟩
  refine ⟨w.heap.size + 1, [QG w.heap.size], w2, { target := .fn (.func gf) caps.toArray, args := #[.func (.yield (w.heap.size + 1)) #[] #[]] }, w2, gf, (.func (.yield (w.heap.size + 1)) #[] #[] :: caps).toArray, w2, ?_, ?_, fun _ _ => trivial, ?_, fun hdep => (by cases hdep), ?_⟩
  rw [← hw2, hr]; exact run_enterLoop_outer _ _ _ _ _
  have := hfr.eval hf
  simp only [resolve, this]
  simp [Deferred.ofValue]
  rfl
  have := eg (#[.func (.yield (w.heap.size + 1)) #[] #[]] ++ caps.toArray) w2
  have e1 : (#[Value.func (.yield (w.heap.size + 1)) #[] #[]] ++ caps.toArray) = (Value.func (.yield (w.heap.size + 1)) #[] #[] :: caps).toArray := by apply Array.toList_inj.1; simp
  rw [e1] at this
  simpa [invoke] using this
  · -- the iterator's contract at our invariant
    have hown := hs2.distinct
    have hMown : ∀ k ∈ M, ∃ o, (k, o) ∈ LI s0 := fun k hk => by
      rw [← hM] at hk
      obtain ⟨p, hp, rfl⟩ := List.mem_map.1 hk
      exact ⟨p.2, hp⟩
    have hpw := List.pairwise_cons.1 hown
    have hpw2 := List.pairwise_cons.1 hpw.2
    have hpw3 := List.pairwise_append.1 hpw2.2
    have hsz2 : w2.heap.size = w.heap.size + 2 := by rw [← hw2, World.size_alloc, World.size_alloc]
    have hLk2 : ∀ p ∈ Lk, p.1 < w2.heap.size := fun p hp => Js (hs2.own p (List.mem_cons_of_mem _ (List.mem_cons_of_mem _ (List.mem_append_right _ hp)))).2.2
    have hMk : ∀ p ∈ Lk, p.1 ∉ M ∧ p.1 ≠ w.heap.size + 1 := fun p hp => ⟨fun hm => by
      obtain ⟨o, ho⟩ := hMown _ hm
      exact hpw3.2.2 _ ho _ hp rfl, fun e => hpw.1 p (List.mem_cons_of_mem _ (List.mem_append_right _ hp)) e.symm⟩
    have hMq : w.heap.size + 1 ∉ M := fun hm => by
      obtain ⟨o, ho⟩ := hMown _ hm
      exact hpw.1 _ (List.mem_cons_of_mem _ (List.mem_append_left _ ho)) rfl
    have hMD : w.heap.size ∉ M := fun hm => by
      obtain ⟨o, ho⟩ := hMown _ hm
      exact hpw2.1 _ (List.mem_append_left _ ho) rfl
    have hMlt : ∀ k ∈ M, k < w2.heap.size := fun k hk => by
      obtain ⟨o, ho⟩ := hMown _ hk
      exact Js (hs2.own _ (List.mem_cons_of_mem _ (List.mem_cons_of_mem _ (List.mem_append_left _ ho)))).2.2
    -- what a place of one's own is apart from
    have apart : ∀ {k : Nat}, (k ∈ M ∨ w2.heap.size ≤ k) → k ≠ w.heap.size + 1 ∧ k ≠ w.heap.size ∧ (∀ p ∈ Lk, p.1 ≠ k) := fun {k} hk => by
      rcases hk with hk | hk
      exact ⟨fun e => hMq (e ▸ hk), fun e => hMD (e ▸ hk), fun p hp e => (hMk p hp).1 (e ▸ hk)⟩
      exact ⟨by omega, by omega, fun p hp e => by have := hLk2 p hp; omega⟩
    have apartR : ∀ {k : Nat}, (k ∈ M ∨ w2.heap.size ≤ k) → ∀ p ∈ c.R, p.1 ≠ k := fun {k} hk p hp e => by
      obtain ⟨e1, _, e3⟩ := hs2.ext p hp
      have h1 := Js e3
      have h2 := hs.keep.size
      rcases hk with hk | hk
      obtain ⟨o, ho⟩ := hMown _ hk
      rcases (hs2.own _ (List.mem_cons_of_mem _ (List.mem_cons_of_mem _ (List.mem_append_left _ ho)))).1 with g | g
      exact e1 (e ▸ g)
      simp only at g; omega
      omega
    have hcalls := hit (w.heap.size + 1) ((w.heap.size + 1) :: M) w2 (fun i => vI (w.heap.size + 1) w2.heap.size M r (I i) LI)
      (fun xs w' => ∃ j, vI (w.heap.size + 1) w2.heap.size M { r with state := .done, pending := some j } (E j) LE xs w')
      (fun p hp => by
        rcases hRl p hp with hL | hR
        refine ⟨fun hm => ?_, (hs2.own p (List.mem_cons_of_mem _ (List.mem_cons_of_mem _ (List.mem_append_right _ hL)))).2.2⟩
        obtain ⟨h1, h2⟩ := hMk p hL
        rcases List.mem_cons.1 hm with hm | hm
        exact h2 hm
        exact h1 hm
        refine ⟨fun hm => ?_, hs2.readR hR⟩
        rcases List.mem_cons.1 hm with hm | hm
        have h1 := Js (hs2.ext p hR).2.2
        have h2 := hs.keep.size
        omega
        exact apartR (.inl hm) p hR rfl)
      (fun k hk => by
        rcases List.mem_cons.1 hk with rfl | hk
        exact Js hq2
        exact hMlt k hk)
      (by
        have := Vj (q := w.heap.size + 1) (B := w2.heap.size) (M := M) (rec := r) (I := I p0) (LI := LI) s0 h0 hpw3.1 (fun p hp => .inl (by rw [← hM]; exact List.mem_map_of_mem (f := (·.1)) hp)) (fun p hp => (hs2.own _ (List.mem_cons_of_mem _ (List.mem_cons_of_mem _ (List.mem_append_left _ hp)))).2.2) hq2
        rw [hM] at this
        exact this)
      ?_
    · refine CallsIn.mono (show CallsIn (FW c.ro) (0 - 1) c.P gf _ w2 _ from callsIn_wide (n := 0) |>.2 hcalls) ?_
      rintro e w' ⟨⟨v, rfl⟩, hk, hfin⟩
      have fin : ∀ (st : LoopState) (pe : Option Code) (LL : Jr), st ≠ .busy → LL.Pairwise (fun p q => p.1 ≠ q.1) → (∀ p ∈ LL, p.1 ∈ M ∨ w2.heap.size ≤ p.1) → jT LL w' → w'.heap[w.heap.size + 1]? = some (.loop { r with state := st, pending := pe }) →
          (Instr.endLoop (w.heap.size + 1)).run c.P w' = .ok pe (w'.putObj (w.heap.size + 1) (.loop { r with state := .exhausted, pending := pe })) ∧
          St c ((w.heap.size, .deferred (some [])) :: (LL ++ Lk)) X (w'.putObj (w.heap.size + 1) (.loop { r with state := .exhausted, pending := pe })) := by
        intro st pe LL hst hpwL hLM hLL hl
        refine ⟨run_endLoop hl hst, ?_⟩
        have hk2 : Keep ((w.heap.size + 1) :: M) w2 (w'.putObj (w.heap.size + 1) (.loop { r with state := .exhausted, pending := pe })) :=
          hk.trans ((Keep.putObj _ _).weak fun k hm => by simp at hm; subst hm; exact List.mem_cons_self)
        have hput : ∀ k, k ≠ w.heap.size + 1 → (w'.putObj (w.heap.size + 1) (.loop { r with state := .exhausted, pending := pe })).heap[k]? = w'.heap[k]? := fun k hne => World.putObj_heap_other hne
        refine hs2.jump hk2 (fun k hm => ?_) ?_ (fun p hp => ?_)
        rcases List.mem_cons.1 hm with rfl | hm
        exact ⟨_, List.mem_cons_self⟩
        obtain ⟨o, ho⟩ := hMown k hm
        exact ⟨o, List.mem_cons_of_mem _ (List.mem_cons_of_mem _ (List.mem_append_left _ ho))⟩
        refine List.pairwise_cons.2 ⟨fun p hp => ?_, List.pairwise_append.2 ⟨hpwL, hpw3.2.1, fun p hp p' hp' => ?_⟩⟩
        rcases List.mem_append.1 hp with hp | hp
        exact fun e => (apart (hLM p hp)).2.1 e.symm
        exact hpw2.1 p (List.mem_append_right _ hp)
        exact fun e => (apart (hLM p hp)).2.2 p' hp' e.symm
        rcases List.mem_cons.1 hp with rfl | hp
        refine ⟨.inl ⟨_, List.mem_cons_of_mem _ List.mem_cons_self⟩, ?_⟩
        rw [hput _ (by simp)]
        refine (hk.block w.heap.size (Js (hs2.own _ (List.mem_cons_of_mem _ List.mem_cons_self)).2.2) ?_).trans (hs2.own _ (List.mem_cons_of_mem _ List.mem_cons_self)).2.2
        simp only [List.mem_cons, not_or]; exact ⟨by omega, hMD⟩
        rcases List.mem_append.1 hp with hp | hp
        refine ⟨?_, ?_⟩
        rcases hLM p hp with g | g
        obtain ⟨o, ho⟩ := hMown _ g
        exact .inl ⟨o, List.mem_cons_of_mem _ (List.mem_cons_of_mem _ (List.mem_append_left _ ho))⟩
        exact .inr g
        rw [hput _ (apart (hLM p hp)).1]
        exact hLL p hp
        have hmem := List.mem_cons_of_mem (w.heap.size + 1, Obj.loop r) (List.mem_cons_of_mem (w.heap.size, Obj.deferred (some [])) (List.mem_append_right (LI s0) hp))
        refine ⟨.inl ⟨p.2, hmem⟩, ?_⟩
        obtain ⟨g1, g2⟩ := hMk p hp
        rw [hput _ g2]
        refine (hk.block p.1 (Js (hs2.own _ hmem).2.2) ?_).trans (hs2.own _ hmem).2.2
        simp only [List.mem_cons, not_or]; exact ⟨g2, g1⟩
      have hfr2 : Fr c.n (QG w.heap.size :: d) l { tmps := a.tmps, defers := [QG w.heap.size] ++ a.defers } := ⟨hfr.size, by simp [hfr.defers], hfr.slots⟩
      rcases hfin with ⟨i, xs, hi, ⟨s, h1, h2, h3, h4, _⟩, h5⟩ | ⟨xs, j, ⟨s, h1, h2, h3, h4, _⟩, h5⟩
      obtain ⟨g1, g2⟩ := fin .ready none (LI s) (by simp) h2 h3 h4 (by rw [hrr]; exact h5)
      exact ⟨none, _, g1, hdone _ i s hi h1 _ _ hfr2 g2⟩
      · obtain ⟨g1, g2⟩ := fin .done (some j) (LE s) (by simp) h2 h3 h4 h5
        exact ⟨some j, _, g1, hstop _ j s h1 _ _ hfr2 g2⟩
    · -- a round
      rintro i v B i' hi xs w3 hxs hk3 hfoot hB hBx
      obtain ⟨⟨s, h1, hpwS, hMS, h2, rfl⟩, h3⟩ := hfoot w3 fun _ _ => rfl
      have hargs : v.toArray.size = r.params.size := by rw [hr]; simpa using hlen i v B i' hi
      have hy := run_yield (P := c.P) (args := v.toArray) h3 hargs
      refine ⟨_, _, _, _, hy, ?_⟩
      obtain ⟨c3, hc3⟩ : ∃ c3, jU c (w.heap.size + 1) w3 (KO (LI s)) (B ++ Lk) = c3 := ⟨_, rfl⟩
      have hc3x : c3.xids = [w.heap.size + 1] := by rw [← hc3]; rfl
      have hc3i : c3.ids = KO (LI s) := by rw [← hc3]; rfl
      have hc3w : c3.w1 = w3 := by rw [← hc3]; rfl
      have hmemS : ∀ p ∈ LI s, p.1 ∈ KO (LI s) := fun p hp => List.mem_map_of_mem (f := (·.1)) hp
      have hidS : ∀ {k : Nat}, k ∈ KO (LI s) → k ∈ M ∨ w2.heap.size ≤ k := fun {k} hk => by
        obtain ⟨p, hp, rfl⟩ := List.mem_map.1 hk
        exact hMS p hp
      have hst3 : St c3 (LI s) (VE (w.heap.size + 1) r) w3 := by
        subst hc3
        refine ⟨Keep.refl _ _, fun p hp => ⟨.inl (hmemS p hp), ?_, h2 p hp⟩, hpwS, ?_, ?_, [w.heap.size + 1], fun k hk => ?_, fun w' hw' => (hw' _ (by simp)).trans h3⟩
        simp only [jU, List.mem_singleton]; exact (apart (hMS p hp)).1
        intro p hp
        simp only [jU] at hp ⊢
        rcases List.mem_append.1 hp with hp | hp
        rcases List.mem_append.1 hp with hp | hp
        obtain ⟨b1, _⟩ := hBx p hp
        exact ⟨fun hm => b1 (List.mem_cons_of_mem _ hm), by simp only [List.mem_singleton]; exact fun e => b1 (by rw [e]; exact List.mem_cons_self), hB p hp⟩
        obtain ⟨g1, g2⟩ := hMk p hp
        refine ⟨fun hm => (apart (hidS hm)).2.2 p hp rfl, by simpa using g2, ?_⟩
        have hmem := List.mem_cons_of_mem (w.heap.size + 1, Obj.loop r) (List.mem_cons_of_mem (w.heap.size, Obj.deferred (some [])) (List.mem_append_right (LI s0) hp))
        exact (hk3.block p.1 (Js (hs2.own _ hmem).2.2) (by simp only [List.mem_cons, not_or]; exact ⟨g2, g1⟩)).trans (hs2.own _ hmem).2.2
        have e3 := hs2.readR hp
        have hlt := Js (hs2.ext p hp).2.2
        have hsz := hs.keep.size
        have hnq : p.1 ≠ w.heap.size + 1 := fun e => by omega
        refine ⟨fun hm => apartR (hidS hm) p hp rfl, by simpa using hnq, ?_⟩
        exact (hk3.block p.1 (Js e3) (by simp only [List.mem_cons, not_or]; exact ⟨hnq, fun hm => apartR (.inl hm) p hp rfl⟩)).trans e3
        intro k hk; simp only [jU, List.mem_singleton] at hk; subst hk; exact Js h3
        simp only [List.mem_singleton] at hk
        subst hk
        exact ⟨.inl (by simp [jU]), Js h3, fun p hp => (apart (hMS p hp)).1⟩
      have hbusy : ∀ {LL : Jr} {w' : World}, St c3 LL (VE (w.heap.size + 1) r) w' →
          St c3 LL (VE (w.heap.size + 1) { r with state := .busy, pending := none }) (w'.putObj (w.heap.size + 1) (.loop { r with state := .busy, pending := none })) := by
        intro LL w' hst
        have hlt : w.heap.size + 1 < w'.heap.size := Js hst.recd
        refine ⟨hst.keep.trans ((Keep.putObj _ _).weak fun k hm => by simp at hm; subst hm; rw [hc3x]; simp), fun p hp => ?_, hst.distinct, hst.ext, hst.xlt, [w.heap.size + 1], fun k hk => ?_, fun w'' hw'' => (hw'' _ (by simp)).trans (World.putObj_heap_same hlt)⟩
        obtain ⟨g1, g2, g3⟩ := hst.own p hp
        refine ⟨g1, g2, (World.putObj_heap_other ?_).trans g3⟩
        intro e; exact g2 (by rw [e, hc3x]; simp)
        simp only [List.mem_singleton] at hk
        subst hk
        exact ⟨.inl (by rw [hc3x]; simp), Nat.lt_of_lt_of_le hlt (Keep.putObj _ _).size, fun p hp e => (hst.own p hp).2.1 (by rw [hc3x, e]; simp)⟩
      have hfr3 : Fr c3.n [] (qM pp v l) { tmps := (r.params.zip v.toArray).foldl (fun (t : Array Value) (pv : Nat × Value) => t.setIfInBounds pv.1 pv.2) r.tmps, defers := [] } := by
        have h5 := zB (n := c.n) pp v l a.tmps (fun p hp => by have := List.all_eq_true.1 hpp p hp; simpa using this) ⟨hfr.size, rfl, hfr.slots⟩
        rw [hr, ← hc3]
        simp only [List.zip_toArray, List.foldl_toArray']
        exact h5
      have key : ∀ RR : Ending → World → Prop,
          (∀ s' w', I i' s' → St c3 (LI s') (VE (w.heap.size + 1) { r with state := .busy, pending := none }) w' → RR (.returned (.bool true)) (w'.putObj (w.heap.size + 1) (.loop { r with state := .ready, pending := none }))) →
          (∀ j s' w', E j s' → St c3 (LE s') (VE (w.heap.size + 1) { r with state := .busy, pending := none }) w' → RR (.returned (.bool false)) (w'.putObj (w.heap.size + 1) (.loop { r with state := .done, pending := some j }))) →
          RoundIn (FW none) 0 c.P (w.heap.size + 1) r.fn ((r.params.zip v.toArray).foldl (fun (t : Array Value) (pv : Nat × Value) => t.setIfInBounds pv.1 pv.2) r.tmps) r.assign r.body w3 RR := by
        intro RR g1 g2
        refine roundIn_of_wpIn (F := FW none) trivial ?_
        have hround' := hround (w.heap.size + 1) (VE (w.heap.size + 1) r) (VE (w.heap.size + 1) { r with state := .busy, pending := none }) w3 i v B i' s hi h1
          (fun a₁ w₁ => ∃ w₂, (Instr.beginRound (w.heap.size + 1)).run c.P w₁ = .ok () w₂ ∧ body.wpIn ((FW none).inRound (w.heap.size + 1)) 0 c.P (roundPost c.P (w.heap.size + 1) RR) a₁ w₂)
        rw [hc3] at hround'
        have hround'' := hround' (fun l' L' hb a₁ w₁ hf₁ hs₁ => ?_) _ w3 hfr3 hst3
        have e1 : r.assign = assign := by rw [hr]
        have e2 : r.body = body := by rw [hr]
        have e3 : c3.P = c.P := by rw [← hc3]; rfl
        have e4 : c3.ro = some (w.heap.size + 1) := by rw [← hc3]; rfl
        rw [e3, e4] at hround''
        rw [e1, e2]
        exact hround''
        have hx1 : w₁.heap[w.heap.size + 1]? = some (.loop r) := hs₁.recd
        refine ⟨_, run_beginRound hx1 (by rw [hr]), ?_⟩
        have hb2 := hb a₁ _ hf₁ (hbusy hs₁)
        have hb3 : ({ r with state := .busy } : Loop) = { r with state := .busy, pending := none } := by rw [hr]
        rw [hb3]
        have e3 : c3.P = c.P := by rw [← hc3]; rfl
        have e4 : c3.ro = some (w.heap.size + 1) := by rw [← hc3]; rfl
        rw [e3, e4] at hb2
        refine wpIn_mono (show body.wpIn ((FW none).inRound (w.heap.size + 1)) 0 c.P _ a₁ _ from hb2) ?_
        have := qy (c3 := c3) (q := w.heap.size + 1) (r := { r with pending := none }) (R := RR) g1 g2
        rw [e3] at this
        exact this
      have turn : ∀ (st : LoopState) (pe : Option Code) (LL : Jr) (w' : World), St c3 LL (VE (w.heap.size + 1) { r with state := .busy, pending := none }) w' →
          (∀ k ∈ (w.heap.size + 1) :: KO LL, k < (w'.putObj (w.heap.size + 1) (.loop { r with state := st, pending := pe })).heap.size ∧ (k ∈ (w.heap.size + 1) :: KO (LI s) ∨ w3.heap.size ≤ k)) ∧
          Keep ((w.heap.size + 1) :: KO (LI s)) w3 (w'.putObj (w.heap.size + 1) (.loop { r with state := st, pending := pe })) ∧ (∀ p ∈ LL, p.1 ∈ M ∨ w2.heap.size ≤ p.1) ∧ jT LL (w'.putObj (w.heap.size + 1) (.loop { r with state := st, pending := pe })) ∧
          (w'.putObj (w.heap.size + 1) (.loop { r with state := st, pending := pe })).heap[w.heap.size + 1]? = some (.loop { r with state := st, pending := pe }) := by
        intro st pe LL w' hst'
        have hlt : w.heap.size + 1 < w'.heap.size := Js hst'.recd
        have hk' := hst'.keep
        rw [hc3x, hc3i, hc3w] at hk'
        have hown' : ∀ p ∈ LL, (p.1 ∈ KO (LI s) ∨ w3.heap.size ≤ p.1) ∧ p.1 ≠ w.heap.size + 1 ∧ w'.heap[p.1]? = some p.2 := fun p hp => by
          have := hst'.own p hp
          rw [hc3x, hc3i, hc3w] at this
          simpa using this
        refine ⟨fun k hk => ?_, ?_, fun p hp => ?_, fun p hp => (World.putObj_heap_other (hown' p hp).2.1).trans (hown' p hp).2.2, World.putObj_heap_same hlt⟩
        rcases List.mem_cons.1 hk with rfl | hk
        exact ⟨Nat.lt_of_lt_of_le hlt (Keep.putObj _ _).size, .inl List.mem_cons_self⟩
        obtain ⟨p, hp, rfl⟩ := List.mem_map.1 hk
        obtain ⟨e1, e2, e3⟩ := hown' p hp
        exact ⟨Nat.lt_of_lt_of_le (Js e3) (Keep.putObj _ _).size, e1.imp (List.mem_cons_of_mem _) id⟩
        refine (hk'.weak fun k hm => ?_).trans ((Keep.putObj _ _).weak fun k hm => by simp at hm; subst hm; exact List.mem_cons_self)
        rcases List.mem_append.1 hm with hm | hm
        exact List.mem_cons_of_mem _ hm
        simp only [List.mem_singleton] at hm; subst hm; exact List.mem_cons_self
        rcases (hown' p hp).1 with g | g
        exact hidS g
        exact .inr (Nat.le_trans hk3.size g)
      refine key _ ?_ ?_
      intro s' w' hI' hst'
      obtain ⟨t1, t2, t3, t4, t5⟩ := turn .ready none (LI s') w' hst'
      refine ⟨true, _, rfl, t1, t2, ?_⟩
      rw [if_pos rfl]
      exact Vj s' hI' hst'.distinct t3 t4 (by rw [hrr] at t5 ⊢; exact t5)
      · intro j s' w' hE' hst'
        obtain ⟨t1, t2, t3, t4, t5⟩ := turn .done (some j) (LE s') w' hst'
        refine ⟨false, _, rfl, t1, t2, ?_⟩
        rw [if_neg (by simp)]
        exact fun w'' hw'' => ⟨j, Vj s' hE' hst'.distinct t3 t4 t5 w'' hw''⟩
end
theorem Jck {ι : Type} {P : Program} {f : FuncId} {fn : Func} {code : Code} {caps : List Value} {Rl : Jr} {p0 : ι} {nx : ι → List Value → Jr → ι → Prop} {fin : ι → Prop} (hf : P.funcs[f]? = some fn) (hb : fn.body = some code) (hlen : Nat.ble (caps.length + 1) fn.ntmps = true)
    (h : ∀ (q : Nat) (xids : List Nat) (w2 : World) (XI : ι → XP) (XF : XP),
      (∀ i v B i', nx i v B i' → ∀ xs w, (∀ k ∈ xs, k < w.heap.size ∧ (k ∈ xids ∨ w2.heap.size ≤ k)) → Keep ([] ++ xids) w2 w → Yo xs (XI i) w → jT B w → (∀ p ∈ B, p.1 ∉ xs ∧ p.1 ∉ xids) → YS P q v.toArray xs w (XI i') XF) →
      HC ⟨P, none, w2, [], xids, Rl, fn.ntmps⟩ [] (Vg 0 (.func (.yield q) #[] #[] :: caps)) [] (XI p0) code
        (bodyPostM (FW none) 0 P fn (fun e w' => (∃ v, e = .returned v) ∧ Keep ([] ++ xids) w2 w' ∧ ((∃ i xs, fin i ∧ XI i xs w') ∨ ∃ xs, XF xs w')))) : Jm2 P f caps Rl p0 nx fin :=
  fun q xids w2 XI XF hR hlt h0 hY =>
    QB ⟨P, none, w2, [], xids, Rl, fn.ntmps⟩ hf hb rfl rfl rfl hlen
      ⟨Keep.refl _ _, by simp, by simp, fun p hp => ⟨by simp, (hR p hp).1, (hR p hp).2⟩, hlt, xids, fun k hk => ⟨.inl hk, hlt k hk, by simp⟩, h0⟩ (h q xids w2 XI XF hY)
section
variable {c : Cx} {d : List Deferred} {l : Kn} {E : Jr} {X : XP} {S : Jr} {ops : Array Oper} {tb : jp} {rest : List Nat} {T : Jr → Act → Prop} {k i : Nat}
theorem KZ {α : Type} {x0 : α} {V : α → Value} {LL : α → Jr} {Rl : Jr} {f : Operand} {args : Array Operand} {at_ : Array TypeId} {g : FuncId} {vs : List Value} {ty : TypeId} {ps : String} {af : Array Edge} {gd : Option (Nat × Bool)}
    (hk : Wl ops.toList k = some ⟨some i, .call ⟨.value f, args, at_⟩, ty, ps, af, gd⟩) (hg : Kj l ops ⟨some i, .call ⟨.value f, args, at_⟩, ty, ps, af, gd⟩ = some true) (hi : Nat.ble (i + 1) c.n = true) (hA : tb k = .grow (Qt x0 V LL)) (hca : KA l f args = some (g, vs)) (eg : Enters c.P g)
    (hp : PureT c.P g vs.toArray V [] LL Rl) (hR : ∀ p ∈ Rl, p ∈ S ∨ p ∈ c.R) (h : ∀ x, HB c d ((i, V x) :: l) (LL x ++ E) X S ops tb rest T) : HB c d l E X S ops tb (k :: rest) T :=
  xg (e := Qt x0 V LL) hk hg rfl hi hA (fun E' hE a w hf hs => Xl hf hca eg ((hp.run w (fun p hp => by cases hp) (fun p hp => (hR p hp).elim (fun h => (hs.own _ (hE p h)).2.2) hs.readR) List.Pairwise.nil (fun p _ q hq => by cases hq)).mono fun _ _ ⟨x, he, hk, h1, h2⟩ => ⟨V x, he, x, rfl, hk, (fun p hp => ⟨((h1 p hp).1).elim (fun h => by cases h) id, (h1 p hp).2⟩), h2⟩)) h
end
theorem Jrt {c : Cx} {d : List Deferred} {l : Kn} {L L' : Jr} {X : XP} {code : Code} {Q : Exit → Act → World → Prop} (hp : L.Perm L') (h : HC c d l L' X code Q) : HC c d l L X code Q := fun a w hf hs => h a w hf (hs.perm hp)
theorem Jcl {α : Type} (A B C : List α) : (A ++ (B ++ C)).Perm (B ++ (A ++ C)) := by
  rw [← List.append_assoc, ← List.append_assoc]
  exact List.perm_append_comm.append_right C
structure AcSt (R : Jr) : Type where
  a : AcL
  L : Jr
  ok : a.In (L ++ R)
structure StSt (R : Jr) : Type where
  s : StL
  L : Jr
  ok : s.In (L ++ R)
def AcSt.next {R : Jr} (s : AcSt R) {e : AcE × Int} (x : AcRes (s.L ++ R) e) : AcSt R := ⟨x.a, x.L ++ s.L, by rw [List.append_assoc]; exact x.ok⟩
def StSt.next {R : Jr} (s : StSt R) {L' : Jr} {e : List AcE × Int} (x : StRes (L' ++ (s.L ++ R)) e) : StSt R := ⟨x.s, x.L ++ (L' ++ s.L), by rw [List.append_assoc, List.append_assoc]; exact x.ok⟩
theorem map_drop {α : Type} (f : Nat → α) {i : Nat} (h : i < 7) : (tab.map f).drop i = f i :: (tab.map f).drop (i + 1) := by
  have : i = 0 ∨ i = 1 ∨ i = 2 ∨ i = 3 ∨ i = 4 ∨ i = 5 ∨ i = 6 := by omega
  rcases this with rfl | rfl | rfl | rfl | rfl | rfl | rfl <;> rfl
def z32 : List UInt8 := List.replicate 32 0
def pairUp : List (List UInt8) → List (List UInt8)
  | a :: b :: l => WM (a ++ b) :: pairUp l
  | _ => []
def Qw (l : List (List UInt8)) (z : List UInt8) : List (List UInt8) := if l.length % 2 = 1 then l ++ [z] else l
def VM : Nat → List (List UInt8) → List UInt8 → List UInt8
  | 0, l, z => l.headD z
  | k + 1, l, z => VM k (pairUp (Qw l z)) (WM (z ++ z))
def yV : Nat → List (List UInt8) → List UInt8
  | 0, l => l.headD []
  | k + 1, l => yV k (pairUp l)
theorem Wu : ∀ l : List (List UInt8), (pairUp l).length = l.length / 2
  | [] => by simp [pairUp]
  | [_] => by simp [pairUp]
  | a :: b :: l => by rw [pairUp, List.length_cons, Wu l, List.length_cons, List.length_cons]; omega
theorem wt : ∀ {l m : List (List UInt8)}, l.length % 2 = 0 → pairUp (l ++ m) = pairUp l ++ pairUp m
  | [], m, _ => rfl
  | [_], _, h => by simp at h
  | a :: b :: l, m, h => by
    have h2 : l.length % 2 = 0 := by simp only [List.length_cons] at h; omega
    rw [List.cons_append, List.cons_append, pairUp, pairUp, wt h2, List.cons_append]
theorem wu (z : List UInt8) : ∀ m : Nat, pairUp (List.replicate (2 * m) z) = List.replicate m (WM (z ++ z))
  | 0 => rfl
  | m + 1 => by rw [show 2 * (m + 1) = 2 * m + 1 + 1 by omega, List.replicate_succ, List.replicate_succ, pairUp, wu z m, List.replicate_succ]
theorem Xt (l : List (List UInt8)) (z : List UInt8) : (Qw l z).length = l.length + l.length % 2 := by
  unfold Qw
  split
  · rename_i h; rw [List.length_append, h]; rfl
  · omega
theorem Je4 {l : List (List UInt8)} {z : List UInt8} {n : Nat} (h : l.length ≤ 2 * n) : Qw l z ++ List.replicate (2 * n - (Qw l z).length) z = l ++ List.replicate (2 * n - l.length) z := by
  rw [Xt]
  unfold Qw
  split
  · rename_i h1
    rw [List.append_assoc, h1]
    congr 1
    rw [show 2 * n - l.length = (2 * n - (l.length + 1)) + 1 by omega, List.replicate_succ]; rfl
  · rename_i h1
    rw [show l.length % 2 = 0 by omega]; rfl
theorem Jg6 : ∀ (k : Nat) {l : List (List UInt8)} (z : List UInt8), l.length ≤ 2 ^ k → VM k l z = yV k (l ++ List.replicate (2 ^ k - l.length) z)
  | 0, [], z, _ => rfl
  | 0, [a], z, _ => rfl
  | 0, _ :: _ :: _, z, h => by simp at h
  | k + 1, l, z, h => by
    rw [Nat.pow_succ, Nat.mul_comm] at h
    have h2 := Xt l z
    have hp : (Qw l z).length % 2 = 0 := by rw [h2]; omega
    rw [VM, yV, Nat.pow_succ, Nat.mul_comm, ← Je4 h, wt hp, show 2 * 2 ^ k - (Qw l z).length = 2 * (2 ^ k - (Qw l z).length / 2) by omega, wu]
    rw [Jg6 k (WM (z ++ z)) (by rw [Wu]; omega), Wu]
theorem ZK (l : List (List UInt8)) : ∀ x ∈ pairUp l, x.length = 32 := by
  induction l using pairUp.induct with
  | case1 a b l ih =>
    intro x hx
    rw [pairUp] at hx
    rcases List.mem_cons.1 hx with hx | hx
    · rw [hx]; exact Zs _
    · exact ih x hx
  | case2 l h =>
    intro x hx
    rw [pairUp.eq_2 l h] at hx
    cases hx
theorem Ji7 (k : Nat) : ∀ {l : List (List UInt8)}, l.length = 2 ^ k → (∀ x ∈ l, x.length = 32) → (yV k l).length = 32 := by
  induction k with
  | zero =>
    intro l h1 h2
    match l, h1 with
    | [a], _ => exact h2 a List.mem_cons_self
  | succ k ih =>
    intro l h1 _
    rw [Nat.pow_succ, Nat.mul_comm] at h1
    rw [yV]
    exact ih (by rw [Wu, h1]; omega) (ZK l)
def lg (m : Nat) : Nat := if m ≤ 1 then 0 else Nat.log2 (m - 1) + 1
theorem Jg7 (m : Nat) : m ≤ 2 ^ lg m := by
  unfold lg
  split
  · simpa using ‹m ≤ 1›
  · have := @Nat.lt_log2_self (m - 1)
    omega
theorem Jts {m j : Nat} (h : j < lg m) : 2 ^ j < m := by
  unfold lg at h
  split at h
  · cases h
  · have h1 : 2 ^ j ≤ 2 ^ Nat.log2 (m - 1) := Nat.pow_le_pow_right (by decide) (by omega)
    have h2 := Nat.log2_self_le (n := m - 1) (by omega)
    omega
theorem Jw5 {m d : Nat} (h : m ≤ 2 ^ d) : lg m ≤ d := by
  rcases Nat.lt_or_ge d (lg m) with h1 | h1
  · have := Jts h1; omega
  · exact h1
def Jru (n : Nat) (l : List (List UInt8)) : List (List UInt8) := l ++ List.replicate (n - l.length) z32
def Ve (l : List (List UInt8)) (m : Nat) : List UInt8 := yV (lg m) (Jru (2 ^ lg m) l)
theorem Y1 {l : List (List UInt8)} {m : Nat} (h : l.length ≤ m) : VM (lg m) l z32 = Ve l m := Jg6 _ _ (Nat.le_trans h (Jg7 m))
theorem Jm3 {n : Nat} {l : List (List UInt8)} (h : l.length ≤ n) : (Jru n l).length = n := by
  unfold Jru; rw [List.length_append, List.length_replicate]; omega
theorem Jm4 {n : Nat} {l : List (List UInt8)} (h : ∀ x ∈ l, x.length = 32) : ∀ x ∈ Jru n l, x.length = 32 := by
  intro x hx
  rcases List.mem_append.1 hx with hx | hx
  · exact h x hx
  · rw [(List.mem_replicate.1 hx).2]; rfl
theorem VW {l : List (List UInt8)} {m : Nat} (h : l.length ≤ m) (h2 : ∀ x ∈ l, x.length = 32) : (Ve l m).length = 32 := Ji7 _ (Jm3 (Nat.le_trans h (Jg7 m))) (Jm4 h2)
end Go.SL
namespace Go.Proofs.YteceenlfegnigaaGreatDoor
set_option linter.all false
open Go.SL Go.RowKit Go.Shelf
abbrev V9 (r : Nat) : Value := .pointer (some ⟨r, 0, none⟩)
def W3 (l : List BS) : List Value := l.map J2
theorem Jrv (l : List BS) : (W3 l).length = l.length := by unfold W3; rw [List.length_map]
theorem xJ {l : List BS} {i : Nat} {s : BS} (h : l[i]? = some s) : (W3 l)[i]? = some (J2 s) := by unfold W3; rw [List.getElem?_map, h]; rfl
theorem Jrw (l : List BS) : (W3 l).all QR = true := by
  rw [List.all_eq_true]; intro x hx
  obtain ⟨b, _, rfl⟩ := List.mem_map.1 hx
  rfl
theorem Je5 (n : Nat) (row : Vz) : (JF n row).cells = #[JF n row] := by cases row <;> rfl
theorem Ji8 (n : Nat) (row : Vz) : QR (JF n row) = true := by cases row <;> rfl
theorem Je6 {s : BS} (h : s.length ≤ 32) : Pure Tryz.prog 175 [J2 s].toArray (J2 (ZC s)) := by
  unfold ZC
  refine JC Tryz.func175 rfl rfl fun w => ?_; refine sR fun _ hK1 => Ji rfl (nK hK1 ?_); refine sR fun _ hK2 => LS 2 [] rfl rfl ?_; refine LR rfl (JT rfl rfl) ?_
  refine JZ rfl ?_; refine Jy (show _ = Value.int .i64 ((32 - s.length : Nat) : Int) from by rw [wrap_i64 (by omega) (by omega)]; congr 1 <;> omega) ?_; refine JD rfl rfl rfl Juq (qb (n := 32 - s.length) (by omega)) ?_; rw [ZH]; refine LR rfl (V1 (a := s) (b := List.replicate (32 - s.length) 0) rfl rfl (by rw [List.length_replicate]; omega)) ?_; refine Ji rfl (nK hK2 ?_); refine Jb (pT rfl rfl rfl fun w1 hs1 => ?_); exact ⟨rfl, hs1.keep⟩
theorem Jm5 {R : Jr} {l : List BS} {p : Pl} (hl : l.length ≤ 100000) (hs : Seg R l.length (W3 l) p) :
    PureT (α := { row : Vz // rowOk 1 l.length (W3 l) row }) Tryz.prog 176 [KM l.length p].toArray (fun x => JF l.length x.1) [] (fun x => JY 9 (W3 l) x.1) R := by
  cases p with
  | none =>
    have h0 : l = [] := List.length_eq_zero_iff.1 hs
    subst h0; refine JH Tryz.func176 rfl rfl fun w => ?_; refine sR fun _ hK1 => Ji rfl (nK hK1 ?_); refine sQ fun _ hK2 => sR fun _ hK3 => ?_; refine LS 2 [] rfl rfl (nK hK3 ?_); refine Jc rfl (fun h4 => ?_) (fun h4 => ?_)
    try simp only [ZZ] at h4
    refine sR fun _ hK5 => Ji rfl (nK hK5 ?_); refine Jb (Jd ?_); refine pT rfl rfl rfl fun w1 hs1 => ?_; exact ⟨⟨none, rfl, rfl⟩, rfl, hs1⟩
    try exact Bool.noConfusion h4
  | some q =>
    refine JH Tryz.func176 rfl rfl fun w => ?_; refine sR fun _ hK1 => Ji rfl (nK hK1 ?_); refine sQ fun _ hK2 => sR fun _ hK3 => ?_; refine LS 2 [] rfl rfl (nK hK3 ?_); refine Jc rfl (fun h4 => ?_) (fun h4 => ?_)
    try exact Bool.noConfusion h4
    · try simp only [ZZ] at h4
      refine Jf (hK2 ?_); refine sR fun _ hK6 => ?_; refine Xq rfl rfl rfl rfl fun r1 => ?_; refine Ji rfl (wo (k := 0) (b := 16) (sz := 1) rfl rfl rfl rfl rfl rfl hs (fun q hq => Or.inr hq) rfl rfl rfl rfl rfl (by decide) (by rw [Jrv, Nat.mul_one]) (Jrw l) (by omega) (by omega) fun row hrow => (Ji rfl ?_)); refine nK hK6 (Jb ?_); refine pT rfl rfl rfl fun w1 hs1 => ?_; exact ⟨⟨row, hrow⟩, rfl, hs1.weakL (List.sublist_append_left _ _)⟩
theorem Jcm (n : Nat) (row : Vz) : PureE (α := Nat) Tryz.prog 177 [JF n row].toArray (fun r => .func (.func 239) #[] #[V9 r]) (fun r => [(r, .cells #[JF n row] 109 (0, 0))]) := by
  refine Vy Tryz.func177 rfl rfl fun w => ?_; refine sR fun _ hK1 => ?_; refine Qi (cs := #[JF n row]) rfl rfl rfl (Je5 n row) fun r1 => ?_; refine Ji rfl (nK hK1 ?_); refine sR fun _ hK2 => ?_; refine LR rfl (Kv rfl rfl) ?_; refine Ji rfl (nK hK2 ?_); refine Jb (pT rfl rfl rfl fun w1 hs1 => ?_); exact ⟨r1, rfl, hs1⟩
def Jtt (l : List BS) : Nat → List Value → Jr → Nat → Prop := fun i v B i' => 2 * i + 1 < l.length ∧ i' = i + 1 ∧ v = [J2 (l.getD (2 * i) []), J2 (l.getD (2 * i + 1) [])] ∧ B = []
theorem yW {l : List BS} : ∀ i v B i', Jtt l i v B i' → v.length = 2 := by rintro _ _ _ _ ⟨_, _, rfl, _⟩; rfl
theorem wv {l : List BS} {i : Nat} (h : i < l.length) : l[i]? = some (l.getD i []) := by rw [List.getD_eq_getElem?_getD, List.getElem?_eq_getElem h]; rfl
theorem Jcn {l : List BS} {row : Vz} (hl : l.length ≤ 1000000) (hrow : rowOk 1 l.length (W3 l) row) (r : Nat) :
    Jm2 Tryz.prog 239 [V9 r] ((r, .cells #[JF l.length row] 109 (0, 0)) :: JY 9 (W3 l) row) 0 (Jtt l) (fun i => ¬ 2 * i + 1 < l.length) := by
  have hs : Seg ((r, .cells #[KM l.length (Vo row)] 109 (0, 0)) :: JY 9 (W3 l) row) l.length (W3 l) (Vo row) := (Qg hrow (by decide)).mono fun q hq => List.mem_cons_of_mem _ hq
  rw [← We _ _ hrow.zero]; refine Jck Tryz.func239 rfl rfl fun q xids w2 XI XF hY => ?_; refine sR fun _ hK1 => Ji rfl (nK hK1 ?_); refine Ju (JG (σ := Nat) (fun i => 2 * i ≤ l.length + 1) (fun i => [(0, .func (.yield q) #[] #[]), (1, V9 r), (3, .int .i64 ((2 * i : Nat) : Int))]) (fun _ => []) (fun i => XI i) (fun i => l.length + 1 - 2 * i) 0 (by omega) (.cons rfl (.cons rfl (.cons rfl .nil))) (List.Sublist.refl _) (fun _ _ h => h) ?_); intro i hi1; refine sQ fun _ hK2 => sR fun _ hK3 => ?_; refine Ji rfl ?_
  refine JZ rfl ?_; refine Jy (show _ = Value.int .i64 ((2 * i + 1 : Nat) : Int) from by rw [wrap_i64 (by omega) (by omega)]; congr 1 <;> omega) ?_; refine LR rfl (Jm rfl (J8 (k := 0) rfl) rfl rfl) ?_; refine LR rfl (J3 rfl hs rfl) ?_; refine JZ rfl (nK hK3 ?_); refine Jc rfl (fun h4 => ?_) (fun h4 => ?_)
  · try simp only [ZZ] at h4
    refine Jf (hK2 ?_); refine sB fun _ hK5 => sQ fun _ hK6 => ?_; refine Ka 10 (by kernel_rfl) (by kernel_rfl) ?_; refine Jk rfl rfl rfl (Jo rfl) ?_; refine Jk rfl rfl rfl (Jm rfl (J8 (k := 0) rfl) rfl rfl) ?_; refine Jk rfl rfl rfl (Jo rfl) ?_
    refine Jk rfl rfl rfl (Jp (j := (2 * i)) rfl hs rfl rfl rfl (by first | rfl | omega) (by omega)) ?_; refine Jk rfl rfl rfl (Zp (fun q hq => Or.inr hq) rfl hs (by omega) rfl (xJ (wv (i := 2 * i) (by omega)))) ?_; refine Jk rfl rfl rfl (Jm rfl (J8 (k := 0) rfl) rfl rfl) ?_; refine Jk rfl rfl rfl (Jo rfl) ?_
    refine Jk rfl rfl rfl (J9 rfl rfl rfl) ?_; refine Qk (show _ = Value.int .i64 ((2 * i + 1 : Nat) : Int) from by rw [wrap_i64 (by omega) (by omega)]; congr 1 <;> omega) ?_
    refine Jk rfl rfl rfl (Jp (j := (2 * i + 1)) rfl hs rfl rfl rfl (by first | rfl | omega) (by omega)) ?_; refine Jk rfl rfl rfl (Zp (fun q hq => Or.inr hq) rfl hs (by omega) rfl (xJ (wv (i := 2 * i + 1) (by omega)))) ?_; refine Kt ?_; refine Ji6 (B := []) (XT := XI (i + 1)) (XF := XF) rfl rfl rfl rfl (hY i [J2 (l.getD (2 * i) []), J2 (l.getD (2 * i + 1) [])] [] (i + 1) ⟨by omega, rfl, rfl, rfl⟩) (fun q hq => nomatch hq) ?_ ?_
    all_goals refine JZ rfl ?_
    all_goals refine Jg ?_
    all_goals (
     refine hK6 ?_; refine Jc rfl (fun h7 => ?_) (fun h7 => ?_)
     · try exact Bool.noConfusion h7
       all_goals try simp only [ZZ] at h7
       all_goals (
        refine Jb (Jn (Jd ?_)); refine Jd (Jn ?_); refine Jv rfl rfl .nil (fun w1 hs1 => ?_)
        obtain ⟨xs1, hx1⟩ := hs1.now
        exact ⟨⟨_, rfl⟩, hs1.keep, .inr ⟨_, hx1⟩⟩
        skip)
     · try exact Bool.noConfusion h7
       all_goals try simp only [ZZ] at h7
       all_goals (
        refine Jf (Jj (hK5 ?_)); refine Ja (Ji rfl ?_)
        refine JZ rfl ?_; refine Jy (show _ = Value.int .i64 ((2 * (i + 1) : Nat) : Int) from by rw [wrap_i64 (by omega) (by omega)]; congr 1 <;> omega) ?_; refine Ji rfl (Jg (J5 ?_)); exact J1 (i + 1) (by omega) (by omega) (.cons rfl (.cons rfl (.cons rfl .nil))) (List.Sublist.refl _) (fun _ _ h => h)
        skip)
     skip)
  · try simp only [ZZ] at h4
    refine JE (Jl ?_); refine Jl (J0 ?_); refine Qx rfl rfl .nil (fun w1 hs1 => ?_)
    obtain ⟨xs1, hx1⟩ := hs1.now
    exact ⟨⟨_, rfl⟩, hs1.keep, .inl ⟨i, _, by omega, hx1⟩⟩
end Go.Proofs.YteceenlfegnigaaGreatDoor
namespace Go.SL
set_option linter.all false
open Go Go.RowKit Go.Shelf
open Go.Proofs (Enters enters_of)
section
variable {c : Cx} {l : Kn} {L : Jr} {X : XP} {Q : Exit → Act → World → Prop} {d : List Deferred}
theorem Jrx {L' : Jr} {code : Code} (hL : L'.Sublist L) (h : HC c d l L' X code Q) : HC c d l L X code Q := fun a w hf hs => h a w hf (hs.weakL hL)
theorem j3 {L' : Jr} {K : Act → World → Prop} (hL : L'.Sublist L) (h : HQ c d l L' X K) : HQ c d l L X K := fun a w hf hs => h a w hf (hs.weakL hL)
def Jm6 {σ : Type} (c : Cx) (DD : σ → List Deferred) (I : σ → Prop) (lI : σ → Kn) (LI : σ → Jr) (XI : σ → XP) (μ : σ → Nat) (s : σ) : Act → World → Prop := fun a w =>
  ∃ s', I s' ∧ μ s' < μ s ∧ Fr c.n (DD s') (lI s') a ∧ St c (LI s') (XI s') w
theorem Jm7 {σ : Type} {body : Code} (DD : σ → List Deferred) (I : σ → Prop) (lI : σ → Kn) (LI : σ → Jr) (XI : σ → XP) (μ : σ → Nat) (s0 : σ) (hd : DD s0 = d) (h0 : I s0) (hl : LookAll l (lI s0)) (hL : (LI s0).Sublist L) (hX : ∀ xs w, X xs w → XI s0 xs w)
    (hr : ∀ s, I s → HC c (DD s) (lI s) (LI s) (XI s) body (Exit.then (Jm6 c DD I lI LI XI μ s) Q)) : HC c d l L X (.loop body) Q := fun a w hf hs => by
  have least : ∀ p : Nat → Prop, (∃ m, p m) → ∃ m, p m ∧ ∀ k, p k → m ≤ k := by
    intro p ⟨m, hm⟩
    induction m using Nat.strongRecOn with
    | _ m ih =>
      by_cases hx : ∃ k, k < m ∧ p k
      obtain ⟨k, hk, hp⟩ := hx; exact ih k hk hp
      exact ⟨m, hm, fun k hp => Nat.le_of_not_lt fun hlt => hx ⟨k, hlt, hp⟩⟩
  let p : Act → World → Nat → Prop := fun a w m => ∃ s, I s ∧ Fr c.n (DD s) (lI s) a ∧ St c (LI s) (XI s) w ∧ μ s = m
  have meas : ∃ f : Act → World → Nat, ∀ a w, (∃ m, p a w m) → p a w (f a w) ∧ ∀ k, p a w k → f a w ≤ k := by
    have h1 : ∀ a w, ∃ m, (∃ m, p a w m) → p a w m ∧ ∀ k, p a w k → m ≤ k := fun a w => by
      by_cases hx : ∃ m, p a w m
      obtain ⟨m, hm⟩ := least _ hx; exact ⟨m, fun _ => hm⟩
      exact ⟨0, fun hy => absurd hy hx⟩
    exact ⟨fun a w => Classical.choose (h1 a w), fun a w => Classical.choose_spec (h1 a w)⟩
  obtain ⟨f, hfm⟩ := meas
  refine wpIn_loop (fun a w => ∃ m, p a w m) f ⟨μ s0, s0, h0, hd ▸ hf.weak hl.get, (hs.weakL hL).weakX hX, rfl⟩ ?_
  intro a w hp
  obtain ⟨⟨s, h1, h2, h3, h4⟩, _⟩ := hfm a w hp
  refine wpIn_mono (hr s h1 a w h2 h3) ?_
  intro e a' w' hq
  cases e with
  | normal =>
    obtain ⟨s', g1, g2, g3, g4⟩ := hq
    have hp' : p a' w' (μ s') := ⟨s', g1, g3, g4, rfl⟩
    refine ⟨⟨_, hp'⟩, ?_⟩
    have := (hfm a' w' ⟨_, hp'⟩).2 _ hp'
    omega
  | _ => exact hq
theorem yX {σ : Type} {DD : σ → List Deferred} {I : σ → Prop} {lI : σ → Kn} {LI : σ → Jr} {XI : σ → XP} {μ : σ → Nat} {s : σ} (s' : σ) (hd : DD s' = d) (h1 : I s') (h2 : μ s' < μ s) (h3 : LookAll l (lI s')) (h4 : (LI s').Sublist L) (h5 : ∀ xs w, X xs w → XI s' xs w) :
    HQ c d l L X (Jm6 c DD I lI LI XI μ s) := fun _ _ hf hs => ⟨s', h1, h2, hd ▸ hf.weak h3.get, (hs.weakL h4).weakX h5⟩
def WQ (Ds : List Nat) : Jr := Ds.map fun D => (D, .deferred (some []))
theorem ww {fn : Func} {R : Ending → World → Prop} {P : Program} : ∀ (Ds : List Nat) (h : HQ c d l L X (bodyPostM (FW none) 0 P fn R .ret)), HQ c (Ds.map QG ++ d) l (WQ Ds ++ L) X (bodyPostM (FW none) 0 P fn R .ret)
  | [], h => h
  | D :: Ds, h => QK (k := 0) rfl rfl (j3 (List.sublist_cons_self _ _) (ww Ds h))
end
end Go.SL
namespace Go.Proofs.YteceenlfegnigaaGreatDoor
set_option linter.all false
open Go.SL Go.RowKit Go.Shelf
theorem Jm8 {k m : Nat} : 2 ^ k < m ↔ k < lg m := by
  constructor
  · intro h
    rcases Nat.lt_or_ge k (lg m) with h1 | h1
    · exact h1
    · have h2 := Jg7 m
      have h3 : 2 ^ lg m ≤ 2 ^ k := Nat.pow_le_pow_right (by decide) h1
      omega
  · exact Jts
theorem yY (l : List BS) : ∀ {i : Nat}, 2 * i + 1 < l.length → (SL.pairUp l).take (i + 1) = (SL.pairUp l).take i ++ [WM (l.getD (2 * i) [] ++ l.getD (2 * i + 1) [])] := by
  induction l using SL.pairUp.induct with
  | case1 a b l ih =>
    intro i hi
    cases i with
    | zero => rw [SL.pairUp]; rfl
    | succ i =>
      rw [SL.pairUp, List.take_succ_cons, List.take_succ_cons, ih (by simp only [List.length_cons] at hi; omega), show 2 * (i + 1) = 2 * i + 1 + 1 by omega, show 2 * i + 1 + 1 + 1 = 2 * i + 1 + 1 + 1 by rfl]
      rfl
  | case2 l h =>
    intro i hi
    match l, h with
    | [], _ => simp at hi
    | [a], _ => simp at hi
    | a :: b :: l, h => exact absurd rfl (h a b l)
theorem qF (l : List BS) (z : BS) : (Qw l z).length % 2 = 0 := by rw [Xt]; omega
theorem wx {l : List BS} {z : BS} (h : ∀ x ∈ l, x.length = 32) (hz : z.length = 32) : ∀ x ∈ Qw l z, x.length = 32 := by
  intro x hx
  unfold Qw at hx
  split at hx
  · rcases List.mem_append.1 hx with hx | hx
    · exact h x hx
    · rw [List.mem_singleton.1 hx]; exact hz
  · exact h x hx
theorem j4 {l : List BS} (h : ∀ x ∈ l, x.length = 32) {i : Nat} (hi : i < l.length) : (l.getD i []).length = 32 := h _ (List.mem_of_getElem? (wv hi))
theorem Jco {n : Nat} (h : n ≤ 65536) : IntKind.i64.wrap ((n : Int) * 2) = ((n * 2 : Nat) : Int) := by
  rw [wrap_i64 (by omega) (by omega)]; omega
structure TreeI (l0 : List BS) (m : Nat) (k : Nat) (ls : List BS) (row : Vz) (z : BS) : Prop where
  le : k ≤ lg m
  ok : rowOk 1 ls.length (W3 ls) row
  eq : VM (lg m - k) ls z = Ve l0 m
  len : ls.length ≤ 2 ^ (lg m - k)
  mem : ∀ x ∈ ls, x.length = 32
  zl : z.length = 32
set_option maxHeartbeats 1000000 in
theorem vn {R : Jr} {l : List BS} {p : Pl} {m : Nat} (hl : l.length ≤ m) (hm2 : m ≤ 65536) (hs : Seg R l.length (W3 l) p) (h32 : ∀ s ∈ l, s.length = 32) :
    PureR Tryz.prog 134 [KM l.length p, .int .i64 (m : Int)].toArray (J2 (Ve l m)) R := by
  have hlg : lg m ≤ 16 := Jw5 (by simpa using hm2)
  have h0 := Y1 hl
  refine Je Tryz.func134 rfl rfl fun w => ?_; refine sR fun _ hK1 => Ji rfl (nK hK1 ?_); refine sR fun _ hK2 => Ji rfl (Qr rfl rfl rfl (enters_of Tryz.func176 (by kernel_rfl) rfl) (Jm5 (by omega) hs) (fun q hq => Or.inr hq) fun x => ?_)
  obtain ⟨row, hrow⟩ := x
  refine KH (List.perm_append_comm (l₂ := [])) ?_; change HL _ _ ((11, JF l.length row) :: _) (JY 9 (W3 l) row) _ _ _ _; refine Ji rfl (nK hK2 ?_); refine sR fun _ hK3 => ?_; refine JD rfl rfl rfl Jln (Je6 (s := []) (by decide)) ?_; refine Jy (show _ = J2 z32 from rfl) ?_; refine Ji rfl (nK hK3 ?_); refine sQ fun _ hK4 => sR fun _ hK5 => ?_; refine Ji rfl (nK hK5 ?_); refine Ju (Jm7 (σ := Nat × List BS × Vz × BS × List Nat) (fun q => q.2.2.2.2.map QG ++ []) (fun q => TreeI l m q.1 q.2.1 q.2.2.1 q.2.2.2.1) (fun q => [(0, JF q.2.1.length q.2.2.1), (1, .int .i64 (m : Int)), (5, J2 q.2.2.2.1), (6, .int .i64 ((2 ^ q.1 : Nat) : Int))]) (fun q => WQ q.2.2.2.2 ++ JY 9 (W3 q.2.1) q.2.2.1) (fun _ _ _ => True) (fun q => lg m - q.1) (0, l, row, z32, []) rfl ⟨Nat.zero_le _, hrow, h0, Nat.le_trans hl (Jg7 m), h32, rfl⟩ (.cons rfl (.cons rfl (.cons rfl (.cons rfl .nil)))) (List.Sublist.refl _) (fun _ _ h => h) ?_); rintro ⟨k, ls, row, z, Ds⟩ hi; simp only at hi; change HC _ (Ds.map QG ++ []) [(0, JF ls.length row), (1, _), (5, J2 z), (6, .int .i64 ((2 ^ k : Nat) : Int))] (WQ Ds ++ JY _ (W3 ls) row) _ _ _; refine sQ fun _ hK6 => sR fun _ hK7 => ?_; refine LS 3 [] rfl rfl (nK hK7 ?_); refine Jc rfl (fun h8 => ?_) (fun h8 => ?_)
  · try simp only [ZZ] at h8
    refine Jf (hK6 ?_); refine sB fun _ hK9 => sQ fun _ hK10 => ?_; refine sQ fun _ hK11 => ?_
    have hk : k < lg m := Jm8.1 (by omega)
    obtain ⟨K, hK⟩ : ∃ K, lg m - k = K + 1 := ⟨lg m - k - 1, by omega⟩
    have heq := hi.eq
    have hlen := hi.len
    rw [hK, VM] at heq; rw [hK, Nat.pow_succ] at hlen
    have hK16 : 2 ^ K ≤ 65536 := by have := Nat.pow_le_pow_right (n := 2) (i := K) (j := 16) (by decide) (by omega); simpa using this
    have hzl := hi.zl
    have hk16 : 2 ^ k ≤ 65536 := by have := Nat.pow_le_pow_right (n := 2) (i := k) (j := 16) (by decide) (by omega); simpa using this
    refine Ja (Ji rfl (LR rfl (Xk rfl hi.ok.zero rfl) ?_)); refine JZ rfl (Jy (show _ = Value.int .i64 ((ls.length % 2 : Nat) : Int) from congrArg (Value.int .i64) (W0 _ 2)) (JZ rfl ?_)); refine nK hK11 ?_; refine Jc rfl (fun h12 => ?_) (fun h12 => ?_)
    · try simp only [ZZ] at h12
      refine Ja (LS 2 [] rfl rfl ?_); refine Kh (vs := [_]) (zs := [_]) (r := [_]) rfl rfl rfl rfl rfl rfl rfl rfl rfl (by show (madeCells #[_] _).toList = _; rw [VJ]; exact rfl) rfl fun r1 => ?_; refine Km (L0 := _ :: WQ Ds) (xs := W3 ls) (row := row) (n := ls.length) (sz := 1) (b := 16) (news := [_]) (List.perm_append_comm (l₁ := _ :: WQ Ds)) rfl rfl rfl rfl (kn 0 rfl) rfl rfl rfl rfl rfl (by decide) rfl rfl rfl (by decide) hi.ok (by omega) (by omega) fun ra cap sp hra => ?_; refine Ji rfl (nK hK10 ?_); refine sQ fun _ hK13 => ?_
      (have e : Qw ls z = ls ++ [z] := by unfold Qw; rw [if_pos (by omega)]
       refine Jrt (List.perm_append_comm (l₁ := [_])) ?_; refine Jrx (L' := WQ Ds ++ JY 9 (W3 ls ++ [J2 z]) (some (ra, cap, sp))) (.cons _ (List.Sublist.refl _)) ?_; change HC _ _ ((0, JF (ls.length + 1) (some (ra, cap, sp))) :: _) _ _ _ _
       generalize hn2 : ls.length + 1 = n2 at hra ⊢
       generalize hc2 : W3 ls ++ [J2 z] = xs2 at hra ⊢
       generalize (some (ra, cap, sp) : Vz) = row2 at hra ⊢
       obtain rfl : n2 = (Qw ls z).length := by rw [e, ← hn2, List.length_append]; rfl
       obtain rfl : xs2 = W3 (Qw ls z) := by rw [e, ← hc2]; unfold W3; rw [List.map_append]; rfl)
      have hm2e := wx hi.mem hi.zl
      have hev := qF ls z
      have hl2 := Xt ls z
      obtain ⟨ls2, hls2⟩ : ∃ x, x = Qw ls z := ⟨_, rfl⟩
      rw [← hls2] at hm2e hev hl2 hra heq ⊢
      have hl2b : ls2.length ≤ 2 ^ K * 2 := by omega
      refine Ja (LN rfl fun r1 => ?_); refine nK hK13 (sQ fun _ hK14 => ?_); refine sR fun _ hK15 => ?_; refine Ji rfl (Vq rfl rfl rfl (enters_of Tryz.func177 (by kernel_rfl) rfl) (Jcm ls2.length row2) fun rb => (KH ((List.Perm.swap _ _ _).trans (List.Perm.cons _ List.perm_middle.symm)) ?_)); change HL _ _ _ ((r1, .cells #[.slice none 0 0] 109 (0, 0)) :: (WQ Ds ++ ((rb, .cells #[JF ls2.length row2] 109 (0, 0)) :: JY 9 (W3 ls2) row2))) _ _ _ _; refine nK hK15 (Ju ?_); refine yU (τ := Unit) (fun i (s : Nat × List Value × Vz) => 2 * i ≤ ls2.length ∧ s.1 = i ∧ s.2.1 = W3 ((SL.pairUp ls2).take i) ∧ rowOk 1 i s.2.1 s.2.2) (fun s => (r1, .cells #[JF s.1 s.2.2] 109 (0, 0)) :: JY 9 s.2.1 s.2.2) (fun _ _ => False) (fun _ => []) (WQ Ds ++ ((rb, .cells #[JF ls2.length row2] 109 (0, 0)) :: JY 9 (W3 ls2) row2)) (0, [], none) rfl rfl (enters_of Tryz.func239 (by kernel_rfl) rfl) (Jcn (by omega) hra rb) yW rfl (fun q hq => .inl (List.mem_append_right _ hq)) rfl ⟨Nat.zero_le _, rfl, rfl, rfl, rfl⟩ ?_ ?_ ?_
      rintro q Xr Xb w3 i _ _ _ ⟨n, xs, row3⟩ ⟨hii, rfl, rfl, rfl⟩ ⟨h2i, hn, hxs, hr3⟩ Kr hKr
      simp only at hn hxs hr3; rw [← hn] at hr3; refine sR fun _ hK16 => Ji rfl (nK hK16 ?_); refine Ja (Ji rfl (Jg ?_)); refine hKr _ _ ?_; clear hKr; refine Ju ?_
      have hg1 := j4 hm2e (i := 2 * i) (by omega)
      have hg2 := j4 hm2e (i := 2 * i + 1) (by omega)
      have hkc := Jb3 (s := ls2.getD (2 * i) [] ++ ls2.getD (2 * i + 1) []) (by rw [List.length_append]; omega)
      obtain ⟨sv, hsv⟩ : ∃ x, x = WM (ls2.getD (2 * i) [] ++ ls2.getD (2 * i + 1) []) := ⟨_, rfl⟩
      rw [← hsv] at hkc; refine Ja2 [(r1, .cells #[JF n row3] 109 (0, 0))] [(0, .pure), (1, .pure), (2, .pure), (3, .pure), (4, .pure), (5, .act (Jft (slV 1) (.cells #[J2 sv] 9 (0, 0))))] 6 (by kernel_rfl) (by kernel_rfl) (fun p hp => List.mem_singleton.1 hp ▸ List.mem_cons_self) ?_; refine Ja3 rfl rfl rfl rfl (fun _ hS => (Jm rfl (.inl (hS _ (Ky (n := 0) rfl))) rfl rfl)) ?_; refine Ja3 rfl rfl rfl rfl (fun _ hS => (Jo rfl)) ?_; refine Ja3 rfl rfl rfl rfl (fun _ hS => (Jo rfl)) ?_; refine Ja3 rfl rfl rfl rfl (fun _ hS => (V1 (a := ls2.getD (2 * i) []) (b := ls2.getD (2 * i + 1) []) rfl rfl (by omega))) ?_; refine Ja4 rfl rfl rfl rfl Jbe hkc ?_; refine ZD (n := 1) (sz := 1) (vs := [_]) (zs := [_]) (r := [J2 sv]) rfl rfl rfl rfl rfl rfl rfl rfl rfl rfl (by show (madeCells #[_] _).toList = _; rw [VJ]; exact rfl) rfl (fun p hp => List.mem_singleton.1 hp ▸ List.mem_cons_self) fun rv => ?_; refine Jku ?_; refine Km (L0 := [_, _]) (xs := xs) (row := row3) (n := n) (sz := 1) (b := 16) (news := [J2 sv]) (List.perm_append_comm (l₁ := [_, _])) rfl rfl rfl rfl (kn 0 rfl) rfl rfl rfl rfl rfl (by decide) rfl rfl rfl (by decide) hr3 (by omega) (by omega) fun ra cap sp hra => ?_; refine Kz (k := 2) (cs' := #[JF (n + 1) (some (ra, cap, sp))]) rfl rfl rfl rfl rfl rfl rfl rfl rfl rfl ?_; refine Jg (Jj (Vi [2, 0] (L' := [_, _]) (by decide) rfl ?_)); exact QN (n + 1, xs ++ [J2 sv], some (ra, cap, sp)) ⟨by omega, by simp only; omega, by simp only; rw [yY ls2 hii, ← hsv, hxs]; unfold W3; rw [List.map_append]; rfl, by rw [← hn]; exact hra⟩ rfl
      rintro D i ⟨n, xs, row3⟩ hfi ⟨h2i, hn, hxs, hr3⟩
      simp only at hn hxs hr3
      have hi2 : 2 * i = ls2.length := by omega
      have hpl := Wu ls2
      rw [List.take_of_length_le (by omega)] at hxs
      obtain rfl : n = (SL.pairUp ls2).length := by omega
      subst hxs; rw [← hn] at hr3; refine Jj (hK14 ?_)
      have hkz := Jb3 (s := z ++ z) (by rw [List.length_append]; omega)
      obtain ⟨z2, hz2⟩ : ∃ x, x = WM (z ++ z) := ⟨_, rfl⟩
      rw [← hz2] at hkz heq; refine Ka 7 (by kernel_rfl) (by kernel_rfl) ?_; refine Jk rfl rfl rfl (Jm (v := JF (SL.pairUp ls2).length row3) rfl (kn 1 rfl) rfl rfl) ?_; refine Jk rfl rfl rfl (Jo rfl) ?_; refine Jk rfl rfl rfl (Jo rfl) ?_; refine Jk rfl rfl rfl (V1 (a := z) (b := z) rfl rfl (by omega)) ?_; refine Qm rfl rfl rfl Jbe hkz ?_; refine Jk rfl rfl rfl (JN rfl) ?_; refine Jk rfl rfl rfl (JN rfl) ?_; refine Kt ?_; refine Jg (Jj (hK9 ?_)); refine Ja (LS 2 [] rfl rfl (Jy (show _ = Value.int .i64 ((2 ^ (k + 1) : Nat) : Int) from congrArg (Value.int .i64) ((Jco hk16).trans (by rw [Nat.pow_succ]))) ?_)); refine Ji rfl (Jg (J5 ?_)); refine zC (List.Perm.cons _ (Jcl (_ :: JY 9 (W3 (SL.pairUp ls2)) row3) (WQ Ds) _)) ?_; exact yX (k + 1, SL.pairUp ls2, row3, z2, D :: Ds) rfl ⟨hk, hr3, by rw [show lg m - (k + 1) = K by omega]; exact heq, by rw [show lg m - (k + 1) = K by omega]; simp only; omega, ZK ls2, by rw [hz2]; exact Zs _⟩ (by simp only; omega) (.cons rfl (.cons rfl (.cons rfl (.cons rfl .nil)))) (.cons_cons _ ((List.Sublist.refl _).append (.cons _ (List.sublist_append_left _ _)))) (fun _ _ h => h)
      exact fun _ _ _ h => h.elim
    · try simp only [ZZ] at h12
      refine Jf (hK10 ?_); refine sQ fun _ hK17 => ?_
      (have e : Qw ls z = ls := by unfold Qw; rw [if_neg (by omega)]
       have hra := hi.ok
       generalize row = row2 at hra ⊢
       generalize hn2 : ls.length = n2 at hra ⊢
       generalize hc2 : W3 ls = xs2 at hra ⊢
       obtain rfl : n2 = (Qw ls z).length := by rw [e, ← hn2]
       obtain rfl : xs2 = W3 (Qw ls z) := by rw [e, ← hc2])
      have hm2e := wx hi.mem hi.zl
      have hev := qF ls z
      have hl2 := Xt ls z
      obtain ⟨ls2, hls2⟩ : ∃ x, x = Qw ls z := ⟨_, rfl⟩
      rw [← hls2] at hm2e hev hl2 hra heq ⊢
      have hl2b : ls2.length ≤ 2 ^ K * 2 := by omega
      refine Ja (LN rfl fun r1 => ?_); refine nK hK17 (sQ fun _ hK18 => ?_); refine sR fun _ hK19 => ?_; refine Ji rfl (Vq rfl rfl rfl (enters_of Tryz.func177 (by kernel_rfl) rfl) (Jcm ls2.length row2) fun rb => (KH ((List.Perm.swap _ _ _).trans (List.Perm.cons _ List.perm_middle.symm)) ?_)); change HL _ _ _ ((r1, .cells #[.slice none 0 0] 109 (0, 0)) :: (WQ Ds ++ ((rb, .cells #[JF ls2.length row2] 109 (0, 0)) :: JY 9 (W3 ls2) row2))) _ _ _ _; refine nK hK19 (Ju ?_); refine yU (τ := Unit) (fun i (s : Nat × List Value × Vz) => 2 * i ≤ ls2.length ∧ s.1 = i ∧ s.2.1 = W3 ((SL.pairUp ls2).take i) ∧ rowOk 1 i s.2.1 s.2.2) (fun s => (r1, .cells #[JF s.1 s.2.2] 109 (0, 0)) :: JY 9 s.2.1 s.2.2) (fun _ _ => False) (fun _ => []) (WQ Ds ++ ((rb, .cells #[JF ls2.length row2] 109 (0, 0)) :: JY 9 (W3 ls2) row2)) (0, [], none) rfl rfl (enters_of Tryz.func239 (by kernel_rfl) rfl) (Jcn (by omega) hra rb) yW rfl (fun q hq => .inl (List.mem_append_right _ hq)) rfl ⟨Nat.zero_le _, rfl, rfl, rfl, rfl⟩ ?_ ?_ ?_
      rintro q Xr Xb w3 i _ _ _ ⟨n, xs, row3⟩ ⟨hii, rfl, rfl, rfl⟩ ⟨h2i, hn, hxs, hr3⟩ Kr hKr
      simp only at hn hxs hr3; rw [← hn] at hr3; refine sR fun _ hK20 => Ji rfl (nK hK20 ?_); refine Ja (Ji rfl (Jg ?_)); refine hKr _ _ ?_; clear hKr; refine Ju ?_
      have hg1 := j4 hm2e (i := 2 * i) (by omega)
      have hg2 := j4 hm2e (i := 2 * i + 1) (by omega)
      have hkc := Jb3 (s := ls2.getD (2 * i) [] ++ ls2.getD (2 * i + 1) []) (by rw [List.length_append]; omega)
      obtain ⟨sv, hsv⟩ : ∃ x, x = WM (ls2.getD (2 * i) [] ++ ls2.getD (2 * i + 1) []) := ⟨_, rfl⟩
      rw [← hsv] at hkc; refine Ja2 [(r1, .cells #[JF n row3] 109 (0, 0))] [(0, .pure), (1, .pure), (2, .pure), (3, .pure), (4, .pure), (5, .act (Jft (slV 1) (.cells #[J2 sv] 9 (0, 0))))] 6 (by kernel_rfl) (by kernel_rfl) (fun p hp => List.mem_singleton.1 hp ▸ List.mem_cons_self) ?_; refine Ja3 rfl rfl rfl rfl (fun _ hS => (Jm rfl (.inl (hS _ (Ky (n := 0) rfl))) rfl rfl)) ?_; refine Ja3 rfl rfl rfl rfl (fun _ hS => (Jo rfl)) ?_; refine Ja3 rfl rfl rfl rfl (fun _ hS => (Jo rfl)) ?_; refine Ja3 rfl rfl rfl rfl (fun _ hS => (V1 (a := ls2.getD (2 * i) []) (b := ls2.getD (2 * i + 1) []) rfl rfl (by omega))) ?_; refine Ja4 rfl rfl rfl rfl Jbe hkc ?_; refine ZD (n := 1) (sz := 1) (vs := [_]) (zs := [_]) (r := [J2 sv]) rfl rfl rfl rfl rfl rfl rfl rfl rfl rfl (by show (madeCells #[_] _).toList = _; rw [VJ]; exact rfl) rfl (fun p hp => List.mem_singleton.1 hp ▸ List.mem_cons_self) fun rv => ?_; refine Jku ?_; refine Km (L0 := [_, _]) (xs := xs) (row := row3) (n := n) (sz := 1) (b := 16) (news := [J2 sv]) (List.perm_append_comm (l₁ := [_, _])) rfl rfl rfl rfl (kn 0 rfl) rfl rfl rfl rfl rfl (by decide) rfl rfl rfl (by decide) hr3 (by omega) (by omega) fun ra cap sp hra => ?_; refine Kz (k := 2) (cs' := #[JF (n + 1) (some (ra, cap, sp))]) rfl rfl rfl rfl rfl rfl rfl rfl rfl rfl ?_; refine Jg (Jj (Vi [2, 0] (L' := [_, _]) (by decide) rfl ?_)); exact QN (n + 1, xs ++ [J2 sv], some (ra, cap, sp)) ⟨by omega, by simp only; omega, by simp only; rw [yY ls2 hii, ← hsv, hxs]; unfold W3; rw [List.map_append]; rfl, by rw [← hn]; exact hra⟩ rfl
      rintro D i ⟨n, xs, row3⟩ hfi ⟨h2i, hn, hxs, hr3⟩
      simp only at hn hxs hr3
      have hi2 : 2 * i = ls2.length := by omega
      have hpl := Wu ls2
      rw [List.take_of_length_le (by omega)] at hxs
      obtain rfl : n = (SL.pairUp ls2).length := by omega
      subst hxs; rw [← hn] at hr3; refine Jj (hK18 ?_)
      have hkz := Jb3 (s := z ++ z) (by rw [List.length_append]; omega)
      obtain ⟨z2, hz2⟩ : ∃ x, x = WM (z ++ z) := ⟨_, rfl⟩
      rw [← hz2] at hkz heq; refine Ka 7 (by kernel_rfl) (by kernel_rfl) ?_; refine Jk rfl rfl rfl (Jm (v := JF (SL.pairUp ls2).length row3) rfl (kn 1 rfl) rfl rfl) ?_; refine Jk rfl rfl rfl (Jo rfl) ?_; refine Jk rfl rfl rfl (Jo rfl) ?_; refine Jk rfl rfl rfl (V1 (a := z) (b := z) rfl rfl (by omega)) ?_; refine Qm rfl rfl rfl Jbe hkz ?_; refine Jk rfl rfl rfl (JN rfl) ?_; refine Jk rfl rfl rfl (JN rfl) ?_; refine Kt ?_; refine Jg (Jj (hK9 ?_)); refine Ja (LS 2 [] rfl rfl (Jy (show _ = Value.int .i64 ((2 ^ (k + 1) : Nat) : Int) from congrArg (Value.int .i64) ((Jco hk16).trans (by rw [Nat.pow_succ]))) ?_)); refine Ji rfl (Jg (J5 ?_)); refine zC (List.Perm.cons _ (Jcl (_ :: JY 9 (W3 (SL.pairUp ls2)) row3) (WQ Ds) _)) ?_; exact yX (k + 1, SL.pairUp ls2, row3, z2, D :: Ds) rfl ⟨hk, hr3, by rw [show lg m - (k + 1) = K by omega]; exact heq, by rw [show lg m - (k + 1) = K by omega]; simp only; omega, ZK ls2, by rw [hz2]; exact Zs _⟩ (by simp only; omega) (.cons rfl (.cons rfl (.cons rfl (.cons rfl .nil)))) (.cons_cons _ ((List.Sublist.refl _).append (.cons _ (List.sublist_append_left _ _)))) (fun _ _ h => h)
      exact fun _ _ _ h => h.elim
  · try simp only [ZZ] at h8
    refine JE (Jl ?_); refine Jl (J0 (hK4 ?_)); refine sQ fun _ hK21 => sQ fun _ hK22 => ?_
    have hkl : ¬ k < lg m := fun h => by have := Jm8.2 h; omega
    obtain rfl : k = lg m := by have := hi.le; omega
    have heq := hi.eq
    have hlen := hi.len
    rw [Nat.sub_self] at heq hlen; refine Ja (Ji rfl (LR rfl (Xk rfl hi.ok.zero rfl) ?_)); refine JZ rfl (nK hK22 ?_); refine Jc rfl (fun h23 => ?_) (fun h23 => ?_)
    try simp only [ZZ] at h23
    refine sR fun _ hK24 => LS 2 [] rfl rfl (nK hK24 ?_); refine Jb (Jd ?_); refine ww Ds ?_; refine pT rfl rfl rfl fun w1 hs1 => ?_; refine ⟨?_, hs1.keep⟩
    (obtain rfl : ls = [] := List.eq_nil_of_length_eq_zero (by omega)
     rw [← heq]; rfl)
    · try simp only [ZZ] at h23
      refine Jf (hK21 ?_); refine sQ fun _ hK25 => ?_
      obtain ⟨s0, hls1⟩ : ∃ s0, ls = [s0] := by
        match ls, hlen with
        | [a], _ => exact ⟨a, rfl⟩
        | [], _ => exact absurd rfl (by assumption)
        | _ :: _ :: _, h => simp at h
      refine Ja (Ji rfl ?_); refine LR rfl (Jp (p := Vo row) (j := 0) (show _ = some (KM ls.length (Vo row)) from by rw [We _ _ hi.ok.zero]; rfl) (Qg (e := 9) hi.ok (by decide)) rfl rfl rfl rfl (by omega)) ?_; refine LR rfl (Zp (p := Vo row) (fun q hq => Or.inl (List.mem_append_right _ hq)) rfl (Qg (e := 9) hi.ok (by decide)) (by omega) rfl (xJ (show ls[0]? = some s0 from by rw [hls1]; rfl))) ?_; refine Ji rfl (nK hK25 ?_); refine Jb (ww Ds ?_); refine pT rfl rfl rfl fun w1 hs1 => ?_; refine ⟨?_, hs1.keep⟩; rw [← heq, hls1]; rfl
abbrev fV1 (f : FuncId) : Value := .func (.func f) #[] #[]
def XQ (root : BS) (n : Nat) : BS := WM (root ++ ZC (ji n 8))
theorem le8 {n : Nat} (h : n < 18446744073709551616) : yI n 8 = (ji n 8, 0) := by
  unfold yI
  rw [if_neg]
  · rfl
  · have := (Jgh (n := n) (k := 8) h (by decide)).2 (by simpa using h)
    omega
theorem Jm9 {root : BS} (hr : root.length ≤ 1000) {n : Nat} (hn : n ≤ 9223372036854775807) : Pure Tryz.prog 129 [J2 root, .int .i64 (n : Int)].toArray (J2 (XQ root n)) := by
  have hk := Jb3 (s := root ++ ZC (ji n 8)) (by rw [List.length_append, WD (by rw [VP]; decide)]; omega)
  change Pure _ _ _ (J2 (XQ root n)) at hk
  have hp := WD (s := ji n 8) (by rw [VP]; decide)
  generalize XQ root n = z at hk
  refine JC Tryz.func129 rfl rfl fun w => ?_; refine sR fun _ hK1 => Ji rfl (nK hK1 ?_); refine sR fun _ hK2 => LS 2 [] rfl rfl ?_; refine Jy (show _ = uV n from congrArg (Value.int .u64) (wrap_u64 (z := (n : Int)) (by omega) (by omega))) ?_; refine JD rfl rfl rfl (enters_of Tryz.func166 (by kernel_rfl) rfl) (Jbt (n := n) (by omega) 8) ?_; refine Jy (show _ = Value.tuple #[J2 (ji n 8), .int .i64 0] from by rw [le8 (by omega)]; rfl) ?_; refine LS 5 [] rfl rfl (nK hK2 ?_); refine sR fun _ hK3 => LS 2 [] rfl rfl ?_; refine JD rfl rfl rfl Jln (Je6 (s := ji n 8) (by rw [VP]; decide)) ?_; refine LR rfl (V1 (a := root) (b := ZC (ji n 8)) rfl rfl (by omega)) ?_; refine JD rfl rfl rfl Jbe hk ?_; refine Ji rfl (nK hK3 ?_); refine Jb (pT rfl rfl rfl fun w1 hs1 => ?_); exact ⟨rfl, hs1.keep⟩
theorem YW (l : List BS) (s : BS) : W3 (l ++ [s]) = W3 l ++ [J2 s] := by unfold W3; rw [List.map_append]; rfl
theorem Ye {Y : BS} {i : Nat} (h : i < Y.length) : (Y.map bV)[i]? = some (bV (Y.getD i 0)) := by
  rw [List.getElem?_map, List.getD_eq_getElem?_getD, List.getElem?_eq_getElem h]; rfl
def Y2 (xs : BS) : Nat → BS
  | 0 => xs
  | i + 1 => ((Y2 xs i).set i ((Y2 xs i).getD (xs.length - 1 - i) 0)).set (xs.length - 1 - i) ((Y2 xs i).getD i 0)
theorem Yf (xs : BS) : ∀ i, (Y2 xs i).length = xs.length
  | 0 => rfl
  | i + 1 => by rw [Y2, List.length_set, List.length_set, Yf xs i]
theorem getD_set {Y : BS} {i j : Nat} {b : UInt8} (hi : i < Y.length) : (Y.set i b).getD j 0 = if i = j then b else Y.getD j 0 := by
  rw [List.getD_eq_getElem?_getD, List.getElem?_set, List.getD_eq_getElem?_getD]
  split
  · first | rfl | (rw [if_pos hi]; rfl) | simp [hi]
  · rfl
theorem j5 (xs : BS) : ∀ {i j : Nat}, 2 * i ≤ xs.length → j < xs.length → (Y2 xs i).getD j 0 = if j < i ∨ xs.length - 1 - j < i then xs.getD (xs.length - 1 - j) 0 else xs.getD j 0
  | 0, j, _, hj => by rw [Y2, if_neg (by omega)]
  | i + 1, j, hi, hj => by
    have h1 := Yf xs i
    have ga := j5 xs (i := i) (j := xs.length - 1 - i) (by omega) (by omega)
    have gb := j5 xs (i := i) (j := i) (by omega) (by omega)
    have gj := j5 xs (i := i) (j := j) (by omega) hj
    rw [if_neg (by omega)] at ga gb; rw [Y2, getD_set (by rw [List.length_set, h1]; omega), getD_set (by rw [h1]; omega), ga, gb, gj]
    by_cases e1 : xs.length - 1 - i = j
    · rw [if_pos e1, if_pos (by omega)]
      congr 1; omega
    · rw [if_neg e1]
      by_cases e2 : i = j
      · rw [if_pos e2, if_pos (by omega)]
        congr 1; omega
      · rw [if_neg e2]
        by_cases e3 : j < i ∨ xs.length - 1 - j < i
        · rw [if_pos e3, if_pos (by omega)]
        · rw [if_neg e3, if_neg (by omega)]
theorem Jcp {xs : BS} {i : Nat} (h1 : 2 * i ≤ xs.length) (h2 : xs.length ≤ 2 * i + 1) : Y2 xs i = xs.reverse := by
  apply List.ext_getElem?
  intro j
  by_cases hj : j < xs.length
  · have e1 : (Y2 xs i)[j]? = some ((Y2 xs i).getD j 0) := by rw [List.getD_eq_getElem?_getD, List.getElem?_eq_getElem (by rw [Yf]; exact hj)]; rfl
    rw [e1, j5 xs h1 hj, List.getElem?_reverse hj]
    have e2 : xs[xs.length - 1 - j]? = some (xs.getD (xs.length - 1 - j) 0) := by rw [List.getD_eq_getElem?_getD, List.getElem?_eq_getElem (by omega)]; rfl
    rw [e2]
    by_cases e3 : j < i ∨ xs.length - 1 - j < i
    · rw [if_pos e3]
    · rw [if_neg e3, show xs.length - 1 - j = j by omega]
  · rw [List.getElem?_eq_none (by rw [Yf]; omega), List.getElem?_eq_none (by rw [List.length_reverse]; omega)]
theorem j6 {Y : BS} {sp : List Value} {i : Nat} {b : UInt8} (h : i < Y.length) : (Y.map bV ++ sp).toArray.setIfInBounds i (bV b) = ((Y.set i b).map bV ++ sp).toArray := by
  rw [List.setIfInBounds_toArray, List.set_append_left _ _ (by rw [List.length_map]; exact h), List.map_set]
section
variable {c : Cx} {l : Kn} {L E : Jr} {X : XP} {Q : Exit → Act → World → Prop} {d : List Deferred}
variable {ops : Array Oper} {rest : List Nat} {i k : Nat} {v : Value} {o : Oper} {tb : jp} {S : Jr} {T : Jr → Act → Prop}
theorem Zu {t ty : TypeId} {ps : String} {af : Array Edge} {gd : Option (Nat × Bool)} {x y : Operand} {q r off : Nat} {cs cs' : Array Value} {e : TypeId} {fr : Nat × Nat} {E' : Jr} (hko : Wl ops.toList k = some ⟨none, .store t x y, ty, ps, af, gd⟩) (hg : Kj l ops ⟨none, .store t x y, ty, ps, af, gd⟩ = some true) (hA : tb k = .turn)
    (hx : Ke l x = some (.pointer (some ⟨r, off, none⟩))) (hk : E[q]? = some (r, .cells cs e fr)) (hy : Ke l y = some v) (ht : KF c.P t = some 1) (ho : QR v = true) (hfr : frB fr off = false) (hc : (cs[off]?).isSome = true)
    (hcs : cs.setIfInBounds off v = cs') (hL : E.set q (r, .cells cs' e fr) = E') (hS : SubS S E')
    (h : HB c d l E' X S ops tb rest T) : HB c d l E X S ops tb (k :: rest) T :=
  vY hko hg rfl hA (fun a w hf hs => ⟨w.setCell ⟨r, off, none⟩ v, by
    simp only [execOp]; rw [hf.eval hx, hf.eval hy]
    obtain ⟨old, hold⟩ := Option.isSome_iff_exists.1 hc
    have h1 := run_store c.P w ⟨r, off, none⟩ v .plain (by rw [X7]; exact ho)
    rw [VZ (hs.get hk), hold, jR (hs.get hk) hfr] at h1
    have hcell : v.cells = #[v] := by cases v <;> first | rfl | cases ho
    simp [Instr.storeAt, Instr.sureAddr, Sem.run_bind, Result.andThen, storeVar, Vw ht, hcell, storeCells, Addr.add, h1], by
    subst hL; subst hcs
    exact hs.set hk (Keep.setCell r off v) (Go.SL.heap_setCell_same v (hs.get hk))⟩) hS h
end
section
variable {c : Cx} {l : Kn} {L : Jr} {X : XP} {d : List Deferred} {i : Nat} {ps : String} {af : Array Edge} {gd : Option (Nat × Bool)} {ty : TypeId}
theorem qG {x : Operand} {b : List UInt8} {r n cap : Nat} {cs : Array Value} {e src dst : TypeId} {fr : Nat × Nat} (hx : Ke l x = some (.slice (some ⟨r, 0, none⟩) n cap)) (hk : known c L r (.cells cs e fr)) (hn : n = b.length) (ht : cs.toList.take b.length = b.map bV)
    (hs : Kl c.P src = some e) (he : c.P.underlying e = some (.int .u8)) (hd : vJ c.P dst = true) :
    J7 c d l L X ⟨some i, .convert src dst x, ty, ps, af, gd⟩ (.string (bs b)) := fun a' w hf hst => by
  subst hn; simp only [execOp]; rw [hf.eval hx]
  have hget := hst.known hk
  have hl := q4 (P := c.P) (xs := b.map bV) hget (by rw [List.length_map]; exact ht)
  rw [List.length_map] at hl; simp only [Sem.run_bind]; rw [run_convert_bytes_string w src dst e _ _ _ (Kc hs) he (Vk hd)]; rw [run_bytesToString w _ _ _ (b.map fun x => ((x.toNat : Nat) : Int)) (by rw [hl]; simp [bV, Function.comp_def])]
  have := Zl b []
  rw [show (bs [] : ByteArray) = ByteArray.empty from rfl] at this; rw [this]
  rfl
end
theorem Ji9 {xs : BS} {sp : List Value} {r cap : Nat} {fr : Nat × Nat} (hfr : ∀ q, q < xs.length → frB fr q = false) (hc : xs.length ≤ cap) (hx : xs.length ≤ 9223372036854775807) : PureT (α := Unit) Tryz.prog 170 [.slice (some ⟨r, 0, none⟩) xs.length cap].toArray (fun _ => .tuple #[])
    [(r, .cells (xs.map bV ++ sp).toArray 5 fr)] (fun _ => [(r, .cells (xs.reverse.map bV ++ sp).toArray 5 fr)]) [] := by
  refine JH Tryz.func170 rfl rfl fun w => ?_; refine sR fun _ hK1 => Ji rfl (LR rfl (KI rfl rfl) ?_); refine JZ rfl (Jy (show _ = Value.int .i64 ((xs.length : Int) - 1) from congrArg (Value.int .i64) (wrap_i64 (by omega) (by omega))) (LS 2 [] rfl rfl ?_)); refine nK hK1 (Ju ?_); refine JG (σ := Nat) (fun i => 2 * i ≤ xs.length + 1 ∧ 2 * i ≤ xs.length) (fun i => [(0, .slice (some ⟨r, 0, none⟩) xs.length cap), (2, .int .i64 (i : Int)), (3, .int .i64 ((xs.length : Int) - 1 - (i : Int)))]) (fun i => [(r, .cells ((Y2 xs i).map bV ++ sp).toArray 5 fr)]) (fun _ _ _ => True) (fun i => xs.length - i) 0 ⟨by omega, by omega⟩ (.cons rfl (.cons rfl (.cons (by rw [show ((0 : Nat) : Int) = 0 from rfl, Int.sub_zero]; rfl) .nil))) (List.Sublist.refl _) (fun _ _ h => h) ?_; rintro i ⟨hi1, hi2⟩; refine sQ fun _ hK2 => sR fun _ hK3 => ?_; refine LS 3 [] rfl rfl (nK hK3 ?_); refine Jc rfl (fun h4 => ?_) (fun h4 => ?_)
  · try simp only [ZZ] at h4
    refine Jf (hK2 ?_); refine sB fun _ hK5 => ?_
    have hii : i + 1 ≤ xs.length - i := by omega
    obtain ⟨Y, hY⟩ : ∃ Y, Y = Y2 xs i := ⟨_, rfl⟩
    have hYl : Y.length = xs.length := by rw [hY]; exact Yf xs i
    rw [← hY]
    refine JS [] [(0, .pure), (1, .pure), (2, .pure), (3, .pure), (4, .pure), (5, .pure), (6, .pure), (8, .pure), (9, .pure), (10, .pure), (12, .pure), (13, .turn), (14, .pure), (15, .turn)] 16 [0, 1, 2, 3, 4, 5, 6, 7, 8, 9, 10, 11, 12, 13, 14, 15] (by kernel_rfl) (by kernel_rfl) (by first | exact (fun _ h => absurd h List.not_mem_nil) | simp [SubS] | (intro p hp; simp [hp])) ?_; refine Jw (k := 0) rfl rfl rfl rfl rfl (fun _ hS => (Jo rfl)) ?_; refine Jw (k := 1) rfl rfl rfl rfl rfl (fun _ hS => (Jo rfl)) ?_; refine Jw (k := 2) rfl rfl rfl rfl rfl (fun _ hS => (Jo rfl)) ?_; refine Jw (k := 3) rfl rfl rfl rfl rfl (fun _ hS => (Jo rfl)) ?_; refine Jw (k := 4) rfl rfl rfl rfl rfl (fun _ hS => (Jo rfl)) ?_; refine Jw (k := 5) rfl rfl rfl rfl rfl (fun _ hS => (Jo rfl)) ?_; refine Jw (k := 6) rfl rfl rfl rfl rfl (fun _ _ => Ki (j := (xs.length - 1 - i)) (m := 1) (off' := (xs.length - 1 - i)) rfl rfl rfl rfl (by omega) (by omega) (by omega)) ?_; refine KW (k := 7) rfl rfl rfl rfl rfl (Jm rfl (kn 0 rfl) rfl (vc (xs := Y.map bV) (v := bV (Y.getD (xs.length - 1 - i) 0)) (Ye (by omega)))) ?_; refine Jw (k := 8) rfl rfl rfl rfl rfl (fun _ hS => (Jo rfl)) ?_; refine Jw (k := 9) rfl rfl rfl rfl rfl (fun _ hS => (Jo rfl)) ?_; refine Jw (k := 10) rfl rfl rfl rfl rfl (fun _ _ => Ki (j := i) (m := 1) (off' := i) rfl rfl rfl rfl (by omega) (by omega) (by omega)) ?_; refine KW (k := 11) rfl rfl rfl rfl rfl (Jm rfl (kn 0 rfl) rfl (vc (xs := Y.map bV) (v := bV (Y.getD (i) 0)) (Ye (by omega)))) ?_; refine Jw (k := 12) rfl rfl rfl rfl rfl (fun _ _ => Ki (j := i) (m := 1) (off' := i) rfl rfl rfl rfl (by omega) (by omega) (by omega)) ?_; refine Zu (k := 13) (q := 0) (cs' := ((Y.set i (Y.getD (xs.length - 1 - i) 0)).map bV ++ sp).toArray) rfl rfl rfl rfl rfl rfl rfl rfl (hfr _ (by omega)) (by simp; omega) (j6 (by omega)) rfl (fun _ h => nomatch h) ?_; refine Jw (k := 14) rfl rfl rfl rfl rfl (fun _ _ => Ki (j := (xs.length - 1 - i)) (m := 1) (off' := (xs.length - 1 - i)) rfl rfl rfl rfl (by omega) (by omega) (by omega)) ?_; refine Zu (k := 15) (q := 0) (cs' := ((Y2 xs (i + 1)).map bV ++ sp).toArray) rfl rfl rfl rfl rfl rfl rfl rfl (hfr _ (by omega)) (by simp; omega) (by rw [j6 (by rw [List.length_set]; omega), Y2, ← hY]) rfl (fun _ h => nomatch h) ?_; refine KC ?_; refine Jg (Jj (hK5 ?_)); refine Ja (LS 2 [] rfl rfl (Jt (by omega) (by omega) ?_)); refine Ji rfl ?_
    refine JZ rfl ?_; refine Jy (show _ = Value.int .i64 ((xs.length : Int) - 1 - ((i + 1 : Nat) : Int)) from by rw [wrap_i64 (by omega) (by omega)]; congr 1 <;> omega) ?_; refine LS 2 [] rfl rfl (Jg ?_); refine J5 ?_; exact J1 (i + 1) ⟨by omega, by omega⟩ (by omega) (.cons rfl (.cons rfl (.cons rfl .nil))) (List.Sublist.refl _) (fun _ _ h => h)
  · try simp only [ZZ] at h4
    refine JE (Jl ?_); refine Jl (J0 ?_); refine Qx rfl rfl .nil (fun w1 hs1 => ?_); exact ⟨(), rfl, by rw [← Jcp (xs := xs) (i := i) (by omega) (by omega)]; exact hs1⟩
theorem Jw6 (w : List Nat) : leW w 32 = (Zm w 32).reverse := by unfold leW; rw [List.take_of_length_le (by rw [List.length_reverse, VO]; exact Nat.le_refl _)]
theorem Jcq (t : Ty) {R : Jr} {v : Vl} (hv : v.In R) : Pure Tryz.prog 125 [t.val, v.val].toArray (J2 (leW v.num 32)) := by
  obtain ⟨k, n, p, ins⟩ := t
  cases hv with
  | @mk a b c d bits pb items pi pick ha hb hc hd hlb hsb hl hs hp hi =>
  have hw : WOk [a, b, c, d] := ⟨rfl, fun x hx => by simp at hx; rcases hx with rfl | rfl | rfl | rfl <;> assumption⟩
  show Pure _ _ _ (J2 (leW [a, b, c, d] 32))
  rw [Jw6]
  have hfx := Yv hw
  have hlen := VO [a, b, c, d] 32
  generalize Zm [a, b, c, d] 32 = B at hfx hlen
  refine JC Tryz.func125 rfl rfl fun w => ?_; refine sR fun _ hK1 => ?_; refine LN rfl fun r1 => ?_; refine LN rfl fun r2 => ?_; refine Ji rfl (nK hK1 ?_); refine sR fun _ hK2 => ?_
  refine LS 2 [0] rfl rfl ?_; refine JD rfl rfl rfl Jf3 hfx ?_; refine X8 rfl rfl rfl rfl rfl rfl fun rb kb => ?_; refine Ji rfl (nK hK2 ?_); refine sR fun _ hK3 => Ji rfl ?_; refine Vn (T := [(rb, .cells (B.map bV ++ List.replicate kb (Value.int .u8 0)).toArray 5 (B.length + kb, B.length + kb + 1))]) (L0 := [(r2, _), (r1, _)]) (Rl := []) (List.Perm.refl _) rfl rfl rfl (enters_of Tryz.func170 (by kernel_rfl) rfl) (Ji9 (fun q hq => by simp [frB, Nat.blt, Nat.ble]; omega) (by omega) (by omega)) (fun q hq => nomatch hq) fun u => ?_; change HL _ _ _ ((rb, _) :: (r2, _) :: (r1, _) :: []) _ _ _ _; refine nK hK3 (sR fun _ hK4 => ?_); refine Ji rfl ?_; refine LR rfl (qG (b := B.reverse) rfl (kn 0 rfl) (by rw [List.length_reverse]) (by simp only [List.toList_toArray]; rw [List.take_left' (by rw [List.length_map])]) rfl rfl rfl) ?_; refine Ji rfl (nK hK4 ?_); refine Jb (pT rfl rfl rfl fun w1 hs1 => ?_); exact ⟨rfl, hs1.keep⟩
def rootM : Array MapEntry := #[⟨.int .i64 1, .func (.func 125) #[] #[], 0⟩, ⟨.int .i64 2, .func (.func 125) #[] #[], 1⟩, ⟨.int .i64 3, .func (.func 126) #[] #[], 2⟩, ⟨.int .i64 4, .func (.func 128) #[] #[], 3⟩,
  ⟨.int .i64 5, .func (.func 130) #[] #[], 4⟩, ⟨.int .i64 6, .func (.func 132) #[] #[], 5⟩, ⟨.int .i64 7, .func (.func 133) #[] #[], 6⟩, ⟨.int .i64 8, .func (.func 136) #[] #[], 7⟩]
theorem Jja : ∀ e ∈ rootM.toList, isI e.key := by
  intro e he
  unfold rootM at he
  simp at he
  rcases he with rfl | rfl | rfl | rfl | rfl | rfl | rfl | rfl <;> exact ⟨_, rfl⟩
theorem Jcr {a b : Bool} (h : a = b) : Value.bool a = Value.bool b := by rw [h]
section
variable {c : Cx} {l : Kn} {L : Jr} {X : XP} {d : List Deferred} {i : Nat} {t : TypeId} {ps : String} {af : Array Edge} {gd : Option (Nat × Bool)} {ty : TypeId}
variable {Q : Exit → Act → World → Prop} {ops : Array Oper} {rest : List Oper}
end
end Go.Proofs.YteceenlfegnigaaGreatDoor
