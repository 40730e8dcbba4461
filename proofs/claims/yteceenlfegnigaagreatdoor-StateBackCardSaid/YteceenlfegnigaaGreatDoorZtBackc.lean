import Derived.Test.YteceenlfegnigaaGreatDoorZtBackb
import Derived.Lib.Overlaps
import Derived.Lib.AppendZerosOnto
import Derived.Laws.StructEq
import Derived.Lib.AppendStr
import Derived.Lib.UnsafeStr
import Derived.Lib.Builder
set_option maxRecDepth 100000
namespace Go.Proofs.YteceenlfegnigaaGreatDoor
set_option linter.all false
open Go.SL Go.RowKit Go.Shelf
def wF (s : List UInt8) : Nat × Int := if s.length < 1 ∨ s.length > 8 then (0, 2) else (Wq s, 0)
def Jyo (p : Nat × Int) : Value := .tuple #[uV p.1, .int .i64 p.2]
theorem Jnf {s : List UInt8} {i : Nat} (h : i < s.length) : Wq (s.take (i + 1)) = Wq (s.take i) + (s.getD i 0).toNat * 2 ^ (8 * i) := by
  rw [List.take_succ, List.getElem?_eq_getElem h]; simp only [Option.toList_some]; rw [Jca, List.length_take, Nat.min_eq_left (by omega), show (256 : Nat) = 2 ^ 8 from rfl, ← Nat.pow_mul, List.getD_eq_getElem?_getD, List.getElem?_eq_getElem h]; rfl
theorem vd {s : List UInt8} {i : Nat} (h : i ≤ s.length) : Wq (s.take i) < 2 ^ (8 * i) := by
  have := Jfe (s.take i)
  rw [List.length_take, Nat.min_eq_left h, show (256 : Nat) = 2 ^ 8 from rfl, ← Nat.pow_mul] at this; exact this
theorem Jyp {i : Nat} (h : i ≤ 8) : 2 ^ (8 * i) ≤ 18446744073709551616 := Nat.pow_le_pow_right (n := 2) (by decide) (by omega : 8 * i ≤ 64)
theorem Jfs (s : List UInt8) : Pure Tryz.prog 246 [.string (bs s)].toArray (Jyo (wF s)) := by
  refine JG Tryz.func246 rfl rfl fun w => ?_; refine sR fun _ hK1 => LS 2 [] rfl rfl (nK hK1 ?_); refine sQ fun _ hK2 => sR fun _ hK3 => ?_; refine Ji rfl (LR rfl (VD rfl rfl) (Ji rfl ?_))
  refine J6 8 rfl (fun hb4 => ?_) (fun hb4 => ?_) <;> (try simp only [ZZ] at hb4) <;> first | (refine Ji rfl ?_) | (refine LK rfl ?_)
  all_goals first
    | (refine LR rfl (Ke rfl rfl) ?_)
    | (refine LK rfl ?_)
  all_goals refine LW 2 [] rfl rfl ?_
  all_goals refine Jf ?_
  all_goals (
   refine hK3 ?_; refine Jc rfl (fun h7 => ?_) (fun h7 => ?_)
   try simp only [ZZ] at h7
   refine sR fun _ hK8 => LS 2 [] rfl rfl (nK hK8 ?_); refine Jb (Jd ?_); refine Jt rfl rfl (.cons (J1 rfl) (.cons (J1 rfl) .nil)) (fun w1 hs1 => ?_); refine ⟨?_, hs1.keep⟩
   rw [show wF s = (0, 2) from by unfold wF; rw [if_pos (by first | omega | (left; rw [‹s = []›]; decide))]]; rfl
   · try exact Bool.noConfusion h7
     all_goals try simp only [ZZ] at h7
     all_goals (
      refine Jg (hK2 ?_); refine sQ fun _ hK9 => ?_
      have hl : 1 ≤ s.length ∧ s.length ≤ 8 := by
        have : s ≠ [] := by assumption
        have := List.length_pos_iff.2 this
        omega
      have hur : wF s = (Wq s, 0) := by unfold wF; rw [if_neg (by omega)]
      refine Ja (Ji rfl ?_); refine nK hK9 (sQ fun _ hK10 => ?_); refine sR fun _ hK11 => Ji rfl (LR rfl (Ke rfl rfl) (Ji rfl ?_)); refine nK hK11 ?_; refine Js (JL (σ := Nat) (fun i => i ≤ s.length) (fun i => [(0, .string (bs s)), (4, uV (Wq (s.take i))), (14, .int .i64 (s.length : Nat)), (15, .int .i64 (i : Int))]) (fun i => []) (fun _ _ _ => True) (fun i => s.length - i) 0 (Nat.zero_le _) (.cons rfl (.cons rfl (.cons rfl (.cons rfl .nil)))) (List.nil_sublist _) (fun _ _ h => h) ?_); intro i hi; refine sR fun _ hK12 => JY rfl (nK hK12 ?_); refine sQ fun _ hK13 => ?_; refine Jc rfl (fun h14 => ?_) (fun h14 => ?_)
      try simp only [ZZ] at h14
      refine Jg (hK13 ?_); refine sB fun _ hK15 => sR fun _ hK16 => ?_; refine LS 2 [] rfl rfl (nK hK16 ?_); refine Ja (LS 3 [] rfl rfl (LR rfl (W6 (j := i) rfl rfl rfl rfl (by omega) rfl) ?_)); refine JY rfl ?_; refine Jy (show _ = uV (s.getD i 0).toNat from congrArg (Value.int .u64) (wrap_u64 (by omega) (by have := Vg (s.getD i 0); omega))) ?_; refine LS 2 [] rfl rfl ?_; refine Jy (show _ = Value.int .i64 ((8 * i : Nat) : Int) from congrArg (Value.int .i64) (by rw [wrap_i64 (by omega) (by omega)]; omega)) ?_; refine LR rfl (zo (n := 8 * i) rfl rfl rfl (show _ ≤ 64 from by omega) (xK (wu (Vg _) (by omega)))) ?_; refine LR rfl (V6 (op := .or) (b := ((Wq (s.take (i + 1)) : Nat) : Int)) rfl rfl rfl (Nat.lt_of_lt_of_le (vd (by omega)) (Jyp (by omega))) (wu (Vg _) (by omega)) (congrArg (fun z : Nat => (z : Int)) (by rw [Jnf (by omega)]; exact Jl6 (vd (by omega))))) ?_; refine Ji rfl (Jf ?_); refine Jj (hK15 ?_); refine Ja (JY rfl (Ju (by omega) (by omega) ?_)); refine Ji rfl (Jf (J8 ?_)); exact J2 (i + 1) (by omega) (by omega) (.cons rfl (.cons rfl (.cons rfl (.cons rfl .nil)))) (List.nil_sublist _) (fun _ _ h => h)
      try simp only [ZZ] at h14
      refine JJ (Jm ?_); refine Jm (J0 (hK10 ?_)); refine sQ fun _ hK17 => ?_
      have hik : s.length = i := by omega
      have htk : s.take i = s := by rw [← hik, List.take_length]
      refine Ja (LS 3 [] rfl rfl ?_); refine nK hK17 (Jb ?_); refine Jt rfl rfl (.cons (J1 rfl) (.cons (J1 rfl) .nil)) (fun w1 hs1 => ?_); refine ⟨?_, hs1.keep⟩; rw [htk, hur]; rfl
      skip)
   skip)
end Go.Proofs.YteceenlfegnigaaGreatDoor
namespace Go.SL
set_option linter.all false
open Go Go.RowKit Go.Shelf
theorem Jsf {l : List Nat} (hl : WOk l) : jg (XJ l 32) = l := by
  have : jg (XJ l 32) = jb (dg l) 32 := q5 fun i hi => by
    have h := Y4 l (n := 32) (m := 31 - i) (by omega)
    have e : 32 - 1 - (31 - i) = i := by omega
    rw [e] at h
    rw [List.getD_eq_getElem?_getD, h, Option.getD_some, UInt8.toNat_ofNat', Nat.mod_eq_of_lt (zp l i)]
  rw [this, Jg4 hl]
theorem Jho {f : Nat → Nat} (hf : ∀ i, f i < 256) {i : Nat} (hi : i < 32) : dg (jb f 32) i = f i := by
  have h : jb (dg (jb f 32)) 32 = jb f 32 := Jg4 (Jfd hf 32)
  have h2 : sm (dg (jb f 32)) 32 = sm f 32 := by rw [← Ju0, h, Ju0]
  have key : ∀ n, ∀ g h : Nat → Nat, (∀ i, g i < 256) → (∀ i, h i < 256) → sm g n = sm h n → ∀ i, i < n → g i = h i := by
    intro n
    induction n with
    | zero => intro _ _ _ _ _ i hi; omega
    | succ n ih =>
      intro g h hg hh e i hi
      simp only [sm] at e
      have g1 := Jma hg n
      have h1 := Jma hh n
      have hp : 0 < 2 ^ (8 * n) := Nat.two_pow_pos _
      have et : g n = h n := by
        have a1 : (sm g n + g n * 2 ^ (8 * n)) / 2 ^ (8 * n) = g n := by rw [Nat.add_mul_div_right _ _ hp, Nat.div_eq_of_lt g1, Nat.zero_add]
        have a2 : (sm h n + h n * 2 ^ (8 * n)) / 2 ^ (8 * n) = h n := by rw [Nat.add_mul_div_right _ _ hp, Nat.div_eq_of_lt h1, Nat.zero_add]
        rw [← a1, ← a2, e]
      by_cases hin : i = n
      · subst hin; exact et
      · exact ih g h hg hh (by rw [et] at e; omega) i (by omega)
  exact key 32 _ _ (fun i => zp _ _) hf h2 i hi
theorem Jsg {s : List UInt8} (hs : s.length = 32) : XJ (jg s) 32 = s := by
  apply List.ext_getElem?
  intro m
  by_cases hm : m < 32
  · rw [Y4 _ hm]
    unfold jg
    rw [Jho (fun _ => Vg _) (by omega), UInt8.ofNat_toNat, List.getD_eq_getElem?_getD]
    rw [show 31 - (32 - 1 - m) = m from by omega, List.getElem?_eq_getElem (by omega)]; rfl
  · rw [List.getElem?_eq_none (by rw [QX]; omega), List.getElem?_eq_none (by omega)]
def yW (w : List Nat) (n : Nat) : List UInt8 := (XJ w 32).reverse.take n
theorem ZF (w : List Nat) {n : Nat} (h : n ≤ 32) : (yW w n).length = n := by
  unfold yW; rw [List.length_take, List.length_reverse, QX]; omega
def Y8 (s : List UInt8) : List UInt8 := s ++ List.replicate (32 - s.length) 0
def Xi (s : List UInt8) : List Nat := jg (Y8 s).reverse
theorem WO {s : List UInt8} (h : s.length ≤ 32) : (Y8 s).length = 32 := by unfold Y8; rw [List.length_append, List.length_replicate]; omega
theorem Jag (s : List UInt8) : WOk (Xi s) := Jg3 _
theorem Jwl {s : List UInt8} (h : s.length ≤ 32) : yW (Xi s) s.length = s := by
  unfold yW Xi
  rw [Jsg (by rw [List.length_reverse, WO h]), List.reverse_reverse]
  unfold Y8
  rw [List.take_left' rfl]
theorem Jng {w : List Nat} (hw : WOk w) {n : Nat} (hn : n ≤ 32) (h : ∀ t, n ≤ t → t < 32 → dg w t = 0) : Xi (yW w n) = w := by
  have e : (Y8 (yW w n)).reverse = XJ w 32 := by
    have e2 : Y8 (yW w n) = (XJ w 32).reverse := by
      unfold Y8
      rw [ZF w hn]
      unfold yW
      rw [← List.take_append_drop n (XJ w 32).reverse]
      congr 1
      · rw [List.take_append_drop]
      · apply List.ext_getElem?
        intro m
        rw [List.getElem?_replicate, List.getElem?_drop]
        by_cases hm : m < 32 - n
        · rw [if_pos hm, List.getElem?_reverse (by rw [QX]; omega), QX, Y4 _ (by omega)]
          rw [show 32 - 1 - (32 - 1 - (n + m)) = n + m by omega, h (n + m) (by omega) (by omega)]
          rfl
        · rw [if_neg hm, List.getElem?_eq_none (by rw [List.length_reverse, QX]; omega)]
    rw [e2, List.reverse_reverse]
  unfold Xi
  rw [e, Jsf hw]
theorem Jnh {s : List UInt8} (h : s.length ≤ 32) {t : Nat} (h1 : s.length ≤ t) (h2 : t < 32) : dg (Xi s) t = 0 := by
  unfold Xi jg
  rw [Jho (fun _ => Vg _) h2, List.getD_eq_getElem?_getD, List.getElem?_reverse (by rw [WO h]; omega), WO h]
  unfold Y8
  rw [show 32 - 1 - (31 - t) = t by omega, List.getElem?_append_right h1, List.getElem?_replicate]
  rw [if_pos (by omega)]; rfl
def KR (l : List Bool) (N : Nat) : Nat → List UInt8
  | 0 => List.replicate N 0
  | i + 1 => if l.getD i false = true then (KR l N i).set (i / 8) (UInt8.ofNat (((KR l N i).getD (i / 8) 0).toNat ||| 2 ^ (i % 8))) else KR l N i
theorem Vy (l : List Bool) (N : Nat) : ∀ i, (KR l N i).length = N
  | 0 => by rw [KR, List.length_replicate]
  | i + 1 => by
    rw [KR]
    split
    · rw [List.length_set, Vy l N i]
    · exact Vy l N i
theorem Ju4 {x m : Nat} (hx : x < 256) (hm : m < 8) : x ||| 2 ^ m < 256 := Nat.or_lt_two_pow (n := 8) hx (Nat.pow_lt_pow_right (by decide) hm)
theorem zA (l : List Bool) (N : Nat) : ∀ (i q j : Nat), i ≤ 8 * N → q < N → j < 8 → ((KR l N i).getD q 0).toNat.testBit j = (decide (8 * q + j < i) && l.getD (8 * q + j) false)
  | 0, q, j, _, hq, hj => by
    rw [KR, List.getD_eq_getElem?_getD, List.getElem?_replicate, if_pos hq]
    simp
  | i + 1, q, j, hi, hq, hj => by
    have ih := zA l N i q j (by omega) hq hj
    rw [KR]
    split
    · rename_i hl
      rw [List.getD_eq_getElem?_getD, List.getElem?_set, Vy]
      by_cases hqi : i / 8 = q
      · subst hqi
        rw [if_pos rfl, if_pos (by omega)]
        show (UInt8.ofNat _).toNat.testBit j = _
        rw [UInt8.toNat_ofNat', Nat.mod_eq_of_lt (Ju4 (Vg _) (Nat.mod_lt _ (by decide))), Nat.testBit_or, ih, Nat.testBit_two_pow]
        by_cases hij : i % 8 = j
        · have e : 8 * (i / 8) + j = i := by omega
          rw [e, hl, decide_eq_true hij, decide_eq_true (Nat.lt_succ_self i)]
          simp
        · rw [decide_eq_false hij, Bool.or_false]
          congr 1
          rw [decide_eq_decide]; omega
      · rw [if_neg hqi, ← List.getD_eq_getElem?_getD, ih]
        congr 1
        rw [decide_eq_decide]; omega
    · rename_i hl
      rw [ih]
      by_cases hij : 8 * q + j = i
      · rw [hij, decide_eq_false (Nat.lt_irrefl i), decide_eq_true (Nat.lt_succ_self i)]
        simp at hl ⊢; exact hl
      · congr 1
        rw [decide_eq_decide]; omega
def Qj (l : List Bool) : List UInt8 := KR l ((l.length + 7) / 8) l.length
theorem VF (l : List Bool) : (Qj l).length = (l.length + 7) / 8 := Vy _ _ _
theorem zB (l : List Bool) {q j : Nat} (hq : q < (l.length + 7) / 8) (hj : j < 8) : ((Qj l).getD q 0).toNat.testBit j = l.getD (8 * q + j) false := by
  unfold Qj
  rw [zA l _ _ q j (by omega) hq hj]
  by_cases h : 8 * q + j < l.length
  · rw [decide_eq_true h, Bool.true_and]
  · rw [decide_eq_false h, Bool.false_and, List.getD_eq_getElem?_getD, List.getElem?_eq_none (by omega)]; rfl
def Qw (s : List UInt8) (i : Nat) : Bool := (s.getD (i / 8) 0).toNat.testBit (i % 8)
def JH (s : List UInt8) (n : Nat) : List Bool := (List.range n).map (Qw s)
theorem JZ (s : List UInt8) (n : Nat) : (JH s n).length = n := by unfold JH; rw [List.length_map, List.length_range]
theorem Qr (s : List UInt8) {n i : Nat} (h : i < n) : (JH s n)[i]? = some (Qw s i) := by
  unfold JH; rw [List.getElem?_map, List.getElem?_range h]; rfl
theorem wG (l : List Bool) {i : Nat} (h : i < 8 * ((l.length + 7) / 8)) : Qw (Qj l) i = l.getD i false := by
  unfold Qw
  rw [zB l (by omega) (Nat.mod_lt _ (by decide))]
  congr 1; omega
theorem Jcv (l : List Bool) : JH (Qj l) l.length = l := by
  apply List.ext_getElem?
  intro i
  by_cases h : i < l.length
  · rw [Qr _ h, wG l (by omega), List.getD_eq_getElem?_getD, List.getElem?_eq_getElem h]; rfl
  · rw [List.getElem?_eq_none (by rw [JZ]; omega), List.getElem?_eq_none (by omega)]
theorem Jhp {a b : UInt8} (h : ∀ j, j < 8 → a.toNat.testBit j = b.toNat.testBit j) : a = b := by
  apply UInt8.toNat_inj.1
  apply Nat.eq_of_testBit_eq
  intro j
  by_cases hj : j < 8
  · exact h j hj
  · rw [Nat.testBit_lt_two_pow (Nat.lt_of_lt_of_le (Vg a) (Nat.pow_le_pow_right (n := 2) (i := 8) (by decide) (by omega))), Nat.testBit_lt_two_pow (Nat.lt_of_lt_of_le (Vg b) (Nat.pow_le_pow_right (n := 2) (i := 8) (by decide) (by omega)))]
theorem ve {s : List UInt8} {n : Nat} (h : s.length = (n + 7) / 8) (hz : ∀ i, n ≤ i → i < 8 * s.length → Qw s i = false) : Qj (JH s n) = s := by
  apply List.ext_getElem?
  intro q
  by_cases hq : q < s.length
  · have hl : q < ((JH s n).length + 7) / 8 := by rw [JZ]; omega
    have h1 : q < (Qj (JH s n)).length := by rw [VF]; exact hl
    rw [List.getElem?_eq_getElem h1, List.getElem?_eq_getElem hq]
    congr 1
    refine Jhp fun j hj => ?_
    have e1 : (Qj (JH s n))[q] = (Qj (JH s n)).getD q 0 := by rw [List.getD_eq_getElem?_getD, List.getElem?_eq_getElem h1]; rfl
    have e2 : s[q] = s.getD q 0 := by rw [List.getD_eq_getElem?_getD, List.getElem?_eq_getElem hq]; rfl
    rw [e1, zB _ hl hj, e2]
    have hb : Qw s (8 * q + j) = (s.getD q 0).toNat.testBit j := by
      unfold Qw
      rw [show (8 * q + j) / 8 = q by omega, show (8 * q + j) % 8 = j by omega]
    rw [← hb, List.getD_eq_getElem?_getD]
    by_cases hn : 8 * q + j < n
    · rw [Qr _ hn]; rfl
    · rw [List.getElem?_eq_none (by rw [JZ]; omega), hz (8 * q + j) (by omega) (by omega)]; rfl
  · rw [List.getElem?_eq_none (by rw [VF, JZ]; omega), List.getElem?_eq_none (by omega)]
end Go.SL
namespace Go.Proofs.YteceenlfegnigaaGreatDoor
set_option linter.all false
open Go.SL Go.RowKit Go.Shelf
mutual
def wV : Vl → Nat
  | .mk _ _ _ _ bits _ items _ _ => 1 + bits.length / 8 + wL items
def wL : List Vl → Nat
  | [] => 0
  | x :: xs => wV x + wL xs
end
def XG (head : Nat) : List (Ty × List UInt8) → List UInt8 → List UInt8 → List UInt8
  | [], f, th => f ++ th
  | (x, s) :: l, f, th => if JB x then XG head l (f ++ s) th else XG head l (f ++ (zz (head + th.length) 4).1) (th ++ s)
def V1 (x : Ty) : Int := if JB x then JQ x else 4
def JU : List Ty → Int
  | [] => 0
  | x :: l => V1 x + JU l
mutual
def QM : Vl → Ty → List UInt8
  | .mk a b c d bits _ items _ pick, t =>
    if t.k = 1 then yW [a, b, c, d] t.n.toNat else if t.k = 2 then yW [a, b, c, d] 1 else if t.k = 5 then Qj bits else if t.k = 6 then Qj (bits ++ [true])
    else if t.k = 8 then UInt8.ofNat pick.toNat :: ((Kt items t.k pick t.ins 0).headD (default, [])).2
    else XG (JU ((Kt items t.k pick t.ins 0).map Prod.fst)).toNat (Kt items t.k pick t.ins 0) [] []
def Kt : List Vl → Int → Int → List Ty → Nat → List (Ty × List UInt8)
  | [], _, _, _, _ => []
  | x :: xs, k, pick, ins, i => (JC k pick ins i, QM x (JC k pick ins i)) :: Kt xs k pick ins (i + 1)
end
theorem Jcw : ∀ (l : List Vl) (k pick : Int) (ins : List Ty) (i : Nat), (Kt l k pick ins i).length = l.length
  | [], _, _, _, _ => by rw [Kt]; rfl
  | x :: xs, k, pick, ins, i => by rw [Kt, List.length_cons, Jcw xs, List.length_cons]
theorem Jcx : ∀ {l : List Vl} {k pick : Int} {ins : List Ty} {i j : Nat} {x : Vl}, l[j]? = some x → (Kt l k pick ins i)[j]? = some (JC k pick ins (i + j), QM x (JC k pick ins (i + j)))
  | [], _, _, _, _, _, _, h => by simp at h
  | y :: ys, k, pick, ins, i, j, x, h => by
    rw [Kt]
    cases j with
    | zero => simp at h; subst h; rfl
    | succ j =>
      rw [List.getElem?_cons_succ] at h ⊢; rw [Jcx h, show i + 1 + j = i + (j + 1) by omega]
theorem Jcy (n : Nat) : (zz n 4).1.length ≤ 4 := by
  unfold zz
  split
  · exact Nat.zero_le _
  · rw [Qv]; decide
theorem wH (head : Nat) : ∀ (l : List (Ty × List UInt8)) (f th : List UInt8), (XG head l f th).length ≤ f.length + th.length + (l.map fun p => p.2.length + 4).sum
  | [], f, th => by rw [XG, List.length_append]; simp
  | (x, s) :: l, f, th => by
    rw [XG, List.map_cons, List.sum_cons]
    have h4 := Jcy (head + th.length)
    split
    · have := wH head l (f ++ s) th
      rw [List.length_append] at this
      simp only
      omega
    · have := wH head l (f ++ (zz (head + th.length) 4).1) (th ++ s)
      rw [List.length_append, List.length_append] at this
      simp only
      omega
theorem wI (v : Vl) : ∀ t : Ty, (QM v t).length + 4 ≤ 40 * wV v := by
  induction v using Vl.ind with
  | h a b c d bits pb items pi pick ih =>
    intro t
    have key : ∀ (l : List Vl) (i : Nat), (∀ x ∈ l, x ∈ items) → ((Kt l t.k pick t.ins i).map fun p => p.2.length + 4).sum ≤ 40 * wL l := by
      intro l
      induction l with
      | nil => intro i _; rw [Kt, wL]; exact Nat.zero_le _
      | cons x xs ihl =>
        intro i hs; rw [Kt, wL, List.map_cons, List.sum_cons]
        have h1 := ih x (hs x List.mem_cons_self) (JC t.k pick t.ins i)
        have h2 := ihl (i + 1) fun y hy => hs y (List.mem_cons_of_mem _ hy)
        simp only at h1 ⊢; omega
    have hk := key items 0 fun _ h => h
    have hle : ∀ n, (yW [a, b, c, d] n).length ≤ 32 := fun n => by unfold yW; rw [List.length_take, List.length_reverse, QX]; omega
    rw [QM, wV]
    split
    · have := hle t.n.toNat; omega
    · split
      · have := hle 1; omega
      · split
        · rw [VF]; omega
        · split
          · rw [VF, List.length_append]; simp only [List.length_cons, List.length_nil]; omega
          · split
            · rw [List.length_cons]
              cases items with
              | nil => rw [Kt]; simp only [List.headD_nil, List.length_nil]; omega
              | cons x xs =>
                rw [Kt, List.headD_cons]
                have h1 := ih x List.mem_cons_self (JC t.k pick t.ins 0)
                rw [wL]
                simp only
                omega
            · have h1 := wH (JU ((Kt items t.k pick t.ins 0).map Prod.fst)).toNat (Kt items t.k pick t.ins 0) [] []
              simp only [List.length_nil] at h1; omega
def Ws (t : Ty) (v : Vl) : List UInt8 × Int := if QT t v ≠ 0 then ([], QT t v) else if (QM v t).length > 65536 then ([], 5) else (QM v t, 0)
end Go.Proofs.YteceenlfegnigaaGreatDoor
namespace Go.SL
set_option linter.all false
open Go
def SOk (n : Nat) (a : List Nat) : Prop := a.length = n ∧ ∀ x ∈ a, x < 18446744073709551616
theorem SOk.get {n : Nat} {a : List Nat} (h : SOk n a) (j : Nat) : a.getD j 0 < 18446744073709551616 := by
  by_cases hj : j < a.length
  · have : a.getD j 0 ∈ a := by simp [List.getD_eq_getElem?_getD, hj]
    exact h.2 _ this
  · rw [List.getD_eq_getElem?_getD, List.getElem?_eq_none (by omega)]; decide
theorem SOk.set {n : Nat} {a : List Nat} (h : SOk n a) (j : Nat) {x : Nat} (hx : x < 18446744073709551616) : SOk n (a.set j x) :=
  ⟨by rw [List.length_set, h.1], fun y hy => (List.mem_or_eq_of_mem_set hy).elim (h.2 y) fun e => e ▸ hx⟩
def Jcz (n k : Nat) : Nat := n * 2 ^ (k % 64) % 18446744073709551616 ||| n / 2 ^ (64 - k % 64)
theorem Jsh {a b : Nat} (ha : a < 18446744073709551616) (hb : b < 18446744073709551616) : a ||| b < 18446744073709551616 := Nat.or_lt_two_pow (n := 64) ha hb
theorem WP {a b : Nat} (ha : a < 18446744073709551616) (hb : b < 18446744073709551616) : a ^^^ b < 18446744073709551616 := Nat.xor_lt_two_pow (n := 64) ha hb
theorem Jc0 {a b : Nat} (hb : b < 18446744073709551616) : a &&& b < 18446744073709551616 := Nat.lt_of_le_of_lt Nat.and_le_right hb
theorem vR {n : Nat} (hn : n < 18446744073709551616) (k : Nat) : Jcz n k < 18446744073709551616 :=
  Jsh (Nat.mod_lt _ (by decide)) (Nat.lt_of_le_of_lt (Nat.div_le_self _ _) hn)
def cS (a : List Nat) : Nat → List Nat
  | 0 => [0, 0, 0, 0, 0]
  | i + 1 => (cS a i).set (i % 5) ((cS a i).getD (i % 5) 0 ^^^ a.getD i 0)
theorem Jc1 {a : List Nat} (h : SOk 25 a) : ∀ i, SOk 5 (cS a i)
  | 0 => ⟨rfl, by simp [cS]⟩
  | i + 1 => (Jc1 h i).set _ (WP ((Jc1 h i).get _) (h.get _))
def mS (c a : List Nat) : Nat → List Nat
  | 0 => a
  | i + 1 => (mS c a i).set i ((mS c a i).getD i 0 ^^^ (c.getD ((i % 5 + 5 - 1) % 5) 0 ^^^ Jcz (c.getD ((i % 5 + 1) % 5) 0) 1))
theorem Jhq {c a : List Nat} (hc : SOk 5 c) (h : SOk 25 a) : ∀ i, SOk 25 (mS c a i)
  | 0 => h
  | i + 1 => (Jhq hc h i).set _ (WP ((Jhq hc h i).get _) (WP (hc.get _) (vR (hc.get _) 1)))
def Jjx (a : List Nat) : List Nat := mS (cS a 25) a 25
theorem Jah {a : List Nat} (h : SOk 25 a) : SOk 25 (Jjx a) := Jhq (Jc1 h 25) h 25
def z25 : List Nat := [0, 0, 0, 0, 0, 0, 0, 0, 0, 0, 0, 0, 0, 0, 0, 0, 0, 0, 0, 0, 0, 0, 0, 0, 0]
theorem Jni : SOk 25 z25 := ⟨rfl, by simp [z25]⟩
def rS (a b : List Nat) : Nat → List Nat
  | 0 => z25
  | i + 1 => (rS a b i).set (i / 5 + 5 * ((2 * (i % 5) + 3 * (i / 5)) % 5)) (Jcz (a.getD i 0) (b.getD i 0))
theorem Jc2 {a : List Nat} (b : List Nat) (h : SOk 25 a) : ∀ i, SOk 25 (rS a b i)
  | 0 => Jni
  | i + 1 => (Jc2 b h i).set _ (vR (h.get _) _)
def Jwm (b : List Nat) (i : Nat) : Nat := b.getD i 0 ^^^ ((18446744073709551615 ^^^ b.getD (i - i % 5 + (i % 5 + 1) % 5) 0) &&& b.getD (i - i % 5 + (i % 5 + 2) % 5) 0)
theorem Jsi {b : List Nat} (h : SOk 25 b) (i : Nat) : Jwm b i < 18446744073709551616 := WP (h.get _) (Jc0 (h.get _))
def xS (b a : List Nat) : Nat → List Nat
  | 0 => a
  | i + 1 => (xS b a i).set i (Jwm b i)
theorem Jhr {b a : List Nat} (hb : SOk 25 b) (h : SOk 25 a) : ∀ i, SOk 25 (xS b a i)
  | 0 => h
  | i + 1 => (Jhr hb h i).set _ (Jsi hb _)
def Jhs (a : List Nat) (n : Nat) : List Nat := a.set 0 (a.getD 0 0 ^^^ n)
def wJ (by_ a : List Nat) (n : Nat) : List Nat := Jhs (xS (rS (Jjx a) by_ 25) (Jjx a) 25) n
theorem Jnj {a : List Nat} (h : SOk 25 a) {n : Nat} (hn : n < 18446744073709551616) : SOk 25 (Jhs a n) := h.set _ (WP (h.get _) hn)
theorem Jjy {a : List Nat} (by_ : List Nat) (h : SOk 25 a) {n : Nat} (hn : n < 18446744073709551616) : SOk 25 (wJ by_ a n) :=
  Jnj (Jhr (Jc2 by_ (Jah h) 25) (Jah h) 25) hn
def turnsL : List Nat := [0, 1, 62, 28, 27, 36, 44, 6, 55, 20, 3, 10, 43, 25, 39, 41, 45, 15, 21, 8, 18, 2, 61, 56, 14]
def numsL : List Nat := [0x0000000000000001, 0x0000000000008082, 0x800000000000808A, 0x8000000080008000, 0x000000000000808B, 0x0000000080000001,
  0x8000000080008081, 0x8000000000008009, 0x000000000000008A, 0x0000000000000088, 0x0000000080008009, 0x000000008000000A,
  0x000000008000808B, 0x800000000000008B, 0x8000000000008089, 0x8000000000008003, 0x8000000000008002, 0x8000000000000080,
  0x000000000000800A, 0x800000008000000A, 0x8000000080008081, 0x8000000000008080, 0x0000000080000001, 0x8000000080008008]
theorem numsL_ok : SOk 24 numsL := ⟨rfl, by decide +kernel⟩
def jL (a : List Nat) : Nat → List Nat
  | 0 => a
  | i + 1 => wJ turnsL (jL a i) (numsL.getD i 0)
theorem Yk {a : List Nat} (h : SOk 25 a) : ∀ i, SOk 25 (jL a i)
  | 0 => h
  | i + 1 => Jjy turnsL (Yk h i) (numsL_ok.get i)
def zC (a : List Nat) : List Nat := jL a 24
theorem Jc3 {a : List Nat} (h : SOk 25 a) : SOk 25 (zC a) := by unfold zC; exact Yk h 24
def abS (a : List Nat) (s : List UInt8) : Nat → List Nat
  | 0 => a
  | i + 1 => (abS a s i).set (i / 8) ((abS a s i).getD (i / 8) 0 ^^^ (s.getD i 0).toNat * 2 ^ (i % 8 * 8))
theorem Jai {a : List Nat} (s : List UInt8) (h : SOk 25 a) : ∀ i, SOk 25 (abS a s i)
  | 0 => h
  | i + 1 => (Jai s h i).set _ (WP ((Jai s h i).get _) (wu (Vg _) (by omega)))
def Jc4 (t : List UInt8) : Nat → List Nat
  | 0 => z25
  | j + 1 => zC (abS (Jc4 t j) (t.drop (136 * j)) 136)
theorem Jaj (t : List UInt8) : ∀ j, SOk 25 (Jc4 t j)
  | 0 => Jni
  | j + 1 => by unfold Jc4; exact Jc3 (Jai _ (Jaj t j) 136)
def vx (n : Nat) : List UInt8 := if 136 - n % 136 = 1 then [129] else 1 :: (List.replicate (134 - n % 136) 0 ++ [128])
theorem jM (n : Nat) : (vx n).length = 136 - n % 136 := by
  unfold vx; split
  · simp; omega
  · simp; omega
def jN (a : List Nat) : Nat → List UInt8
  | 0 => []
  | i + 1 => jN a i ++ [UInt8.ofNat (a.getD (i / 8) 0 / 2 ^ (i % 8 * 8) % 256)]
theorem WQ (a : List Nat) : ∀ i, (jN a i).length = i
  | 0 => rfl
  | i + 1 => by simp [jN, WQ a i]
def WU (s : List UInt8) : List UInt8 := jN (Jc4 (s ++ vx s.length) ((s ++ vx s.length).length / 136)) 32
theorem ZG (s : List UInt8) : (WU s).length = 32 := WQ _ _
theorem Jft (s : List UInt8) : (s ++ vx s.length).length % 136 = 0 := by rw [List.length_append, jM]; omega
end Go.SL
namespace Go.Proofs.YteceenlfegnigaaGreatDoor
set_option linter.all false
open Go.SL Go.RowKit Go.Shelf
theorem Ju5 {n k : Nat} (hn : n < 18446744073709551616) (hk : k < 9223372036854775808) : Pure Tryz.prog 274 [uV n, .int .i64 (k : Int)].toArray (uV (Jcz n k)) := by
  refine JG Tryz.func274 rfl rfl fun w => ?_
  have hk6 : k % 64 < 64 := Nat.mod_lt _ (by decide)
  refine sR fun _ hK1 => Ji rfl (nK hK1 ?_); refine sR fun _ hK2 => LS 2 [] rfl rfl ?_; refine Jy (show _ = uV k from congrArg (Value.int .u64) (wrap_u64 (by omega) (by omega))) ?_; refine LR rfl (V6 (op := .and) (b := ((k % 64 : Nat) : Int)) rfl rfl rfl (by omega) (by decide) (congrArg (fun z : Nat => (z : Int)) (Nat.and_two_pow_sub_one_eq_mod k 6))) ?_; refine Ji rfl (nK hK2 ?_); refine sR fun _ hK3 => LS 2 [] rfl rfl ?_; refine LR rfl (zo (n := k % 64) (b := ((n * 2 ^ (k % 64) % 18446744073709551616 : Nat) : Int)) rfl rfl rfl (show _ ≤ 64 from by omega) (Jyh _)) ?_; refine LS 3 [] rfl rfl ?_; refine Jy (show _ = uV (64 - k % 64) from congrArg (Value.int .u64) (by rw [wrap_u64 (by omega) (by omega)]; omega)) ?_; refine LR rfl (wo (n := 64 - k % 64) rfl rfl rfl (show _ ≤ 64 from by omega) (by omega) (vJ _ _)) ?_; refine LR rfl (V6 (op := .or) (b := ((Jcz n k : Nat) : Int)) rfl rfl rfl (Nat.mod_lt _ (by decide)) (Nat.lt_of_le_of_lt (Nat.div_le_self _ _) hn) rfl) ?_; refine Ji rfl (nK hK3 ?_); refine Jb (pT rfl rfl rfl fun w1 hs1 => ?_); exact ⟨rfl, hs1.keep⟩
theorem Jak : Pure Tryz.prog 273 [].toArray (.func (.func 282) #[] #[]) := by
  refine JG Tryz.func273 rfl rfl fun w => ?_; refine sR fun _ hK1 => Ji rfl (nK hK1 ?_); refine sR fun _ hK2 => Ji rfl (nK hK2 ?_); refine Jb (pT rfl rfl rfl fun w1 hs1 => ?_); exact ⟨rfl, hs1.keep⟩
def Jnl (i : Nat) : List Value := [.int .i64 (i : Int), .agg [.int .i64 ((i % 5 : Nat) : Int), .int .i64 ((i / 5 : Nat) : Int)].toArray]
theorem Jal : xy Tryz.prog 282 [] [] 0 (nxN Jnl 25) (Je6 25) := by
  refine W5 Tryz.func282 rfl rfl fun q xids w2 XI XF hY => ?_; refine sR fun _ hK1 => Ji rfl (nK hK1 ?_); refine Js (JL (σ := Nat) (fun i => i ≤ 25) (fun i => [(0, .func (.yield q) #[] #[]), (3, .int .i64 (i : Int))]) (fun _ => []) (fun i => XI i) (fun i => 25 - i) 0 (Nat.zero_le _) (.cons rfl (.cons rfl .nil)) (List.nil_sublist _) (fun _ _ h => h) ?_); intro i hi; refine sR fun _ hK2 => JY rfl (nK hK2 ?_); refine sQ fun _ hK3 => ?_; refine Jc rfl (fun h4 => ?_) (fun h4 => ?_)
  · try simp only [ZZ] at h4
    refine Jg (hK3 ?_); refine sB fun _ hK5 => sR fun _ hK6 => ?_; refine LS 2 [] rfl rfl (nK hK6 ?_); refine sR fun _ hK7 => LS 4 [] rfl rfl ?_; refine Jy (show _ = Value.int .i64 ((i % 5 : Nat) : Int) from congrArg (Value.int .i64) (WE _ 5)) ?_; refine LS 2 [] rfl rfl ?_; refine Jy (show _ = Value.int .i64 ((i / 5 : Nat) : Int) from congrArg (Value.int .i64) (by rw [QR (by omega) (by omega) (by omega)]; omega)) ?_; refine LR rfl (JK (r := [_, _]) rfl rfl) ?_; refine WI (XT := XI (i + 1)) (XF := XF) rfl rfl rfl rfl (hY i (Jnl i) (i + 1) ⟨by omega, rfl, rfl⟩) ?_ ?_
    all_goals refine JY rfl ?_
    all_goals refine Jf ?_
    all_goals (
     refine hK7 ?_; refine Jc rfl (fun h8 => ?_) (fun h8 => ?_)
     · try exact Bool.noConfusion h8
       all_goals try simp only [ZZ] at h8
       all_goals (
        refine Jb (Jn (Jd ?_)); refine Jd (Jn ?_); refine Jt rfl rfl .nil (fun w1 hs1 => ?_)
        obtain ⟨xs1, hx1⟩ := hs1.now
        exact ⟨⟨_, rfl⟩, hs1.keep, .inr ⟨_, hx1⟩⟩
        skip)
     · try exact Bool.noConfusion h8
       all_goals try simp only [ZZ] at h8
       all_goals (
        refine Jg (Jj (hK5 ?_)); refine Ja (JY rfl (Ju (by omega) (by omega) ?_)); refine Ji rfl (Jf (J8 ?_)); exact J2 (i + 1) (by omega) (by omega) (.cons rfl (.cons rfl .nil)) (List.nil_sublist _) (fun _ _ h => h)
        skip)
     skip)
  · try simp only [ZZ] at h4
    refine JJ (Jm ?_); refine Jm (J0 ?_); refine QA rfl rfl .nil (fun w1 hs1 => ?_)
    obtain ⟨xs1, hx1⟩ := hs1.now
    exact ⟨⟨_, rfl⟩, hs1.keep, .inl ⟨i, _, (by show i = 25; omega), hx1⟩⟩
def kO (a : List Nat) : Obj := .cells (a.map uV).toArray 216 (0, 0)
def cO (c : List Nat) : Obj := .cells (c.map uV).toArray 235 (0, 0)
theorem Jjz {a : List Nat} (ha : SOk 25 a) (r : Nat) : PureM Tryz.prog 272 [.pointer (some ⟨r, 0, none⟩)].toArray (.tuple #[]) r (kO a) (kO (Jjx a)) := by
  refine qW Tryz.func272 rfl rfl fun w => ?_
  have hal := ha.1
  obtain ⟨cc, hcc⟩ : ∃ c, c = cS a 25 := ⟨_, rfl⟩
  have hc : SOk 5 cc := by rw [hcc]; exact Jc1 ha 25
  have hmx : Jjx a = mS cc a 25 := by rw [hcc]; rfl
  refine sR fun _ hK1 => ?_; refine LN rfl fun r1 => ?_; refine nK hK1 (sR fun _ hK2 => ?_); refine QK (cs := ((cS a 0).map uV).toArray) rfl rfl rfl rfl fun r2 => ?_; refine nK hK2 (sQ fun _ hK3 => ?_); refine sR fun _ hK4 => ?_; refine JF rfl rfl rfl Jhg Jak ?_; refine nK hK4 (Js ?_); refine Yc (τ := Unit) (fun i (s : List Nat) => s = cS a i ∧ i ≤ 25) (fun s => [(r2, cO s)]) (fun _ _ => False) (fun _ => []) [(r1, _), (r, kO a)] (cS a 0) rfl rfl Jhh Jal (by rintro _ _ _ ⟨_, rfl, _⟩; rfl) rfl (by simp) rfl ⟨rfl, by decide⟩ ?_ ?_ ?_
  rintro q Xr Xb w3 i _ _ s ⟨hi, rfl, rfl⟩ ⟨hs, -⟩ Kr hKr
  have hsk : SOk 5 s := by rw [hs]; exact Jc1 ha i
  have hsl := hsk.1
  refine sR fun _ hK5 => Ji rfl (nK hK5 ?_); refine Ja (LN rfl fun r2 => ?_)
  refine LT 0 rfl rfl (Jf ?_); refine hKr _ _ ?_; clear hKr; refine Js (Kc 11 (by kernel_rfl) (by kernel_rfl) ?_)
  refine Jl rfl rfl rfl (JP (j := 0) rfl rfl rfl rfl rfl (by first | decide | omega) (by first | (simp only [Nat.zero_add, Nat.reduceAdd, Nat.reduceMul, Nat.zero_mul, Nat.mul_one, Nat.add_zero]; exact rfl) | exact rfl)) ?_; refine Jl rfl rfl rfl (Jk rfl (kn 0 rfl) rfl rfl) ?_; refine Jl rfl rfl rfl (JP (j := i % 5) (m := 1) (off' := i % 5) rfl rfl rfl rfl (by omega) (by omega) (by omega)) ?_; refine Jl rfl rfl rfl (KJ rfl (kn 1 rfl) rfl (KW (by rw [hsl]; omega))) ?_; refine Jl rfl rfl rfl (Jk rfl (J7 (k := 0) rfl) rfl rfl) ?_; refine Jl rfl rfl rfl (Jp rfl) ?_; refine Jl rfl rfl rfl (JA rfl rfl rfl) ?_; refine Jl rfl rfl rfl (JP (j := i) (m := 1) (off' := i) rfl rfl rfl rfl (by omega) (by omega) (by omega)) ?_; refine Jl rfl rfl rfl (KJ rfl (J7 (k := 1) rfl) rfl (KW (by rw [hal]; omega))) ?_; refine Jl rfl rfl rfl (V6 (op := .xor) (b := ((s.getD (i % 5) 0 ^^^ a.getD i 0 : Nat) : Int)) rfl rfl rfl (hsk.get _) (ha.get _) rfl) ?_; refine Jl rfl rfl rfl (JP (j := i % 5) (m := 1) (off' := i % 5) rfl rfl rfl rfl (by omega) (by omega) (by omega)) ?_; refine KA ?_; refine KV (k := 1) (off := i % 5) (xs := s.map uV) (ys := (cS a (i + 1)).map uV) rfl rfl rfl rfl rfl rfl (by rw [List.length_map, hsl]; omega) (WJ (by rw [hs]; rfl)) rfl ?_; refine Jf (Jj (Vo [1] (L' := [_]) (by decide) rfl ?_)); exact QS (cS a (i + 1)) ⟨rfl, by omega⟩ rfl
  rintro D i s hfi ⟨hs, -⟩
  have hi25 : i = 25 := hfi
  subst hi25; rw [← hcc] at hs
  have hs := hs.symm
  subst hs; refine Jj (hK3 ?_); refine sR fun _ hK6 => ?_; refine JF rfl rfl rfl Jhg Jak ?_; refine nK hK6 (Js (Y0 [3, 0, 1, 2] (by decide) rfl ?_)); refine Yc (τ := Unit) (fun i (s : List Nat) => s = mS cc a i ∧ i ≤ 25) (fun s => [(r, kO s)]) (fun _ _ => False) (fun _ => []) [(D, _), (r2, cO cc), (r1, _)] (a) rfl rfl Jhh Jal (by rintro _ _ _ ⟨_, rfl, _⟩; rfl) rfl (by simp) rfl ⟨rfl, by decide⟩ ?_ ?_ ?_
  rintro q Xr Xb w3 i _ _ s ⟨hi, rfl, rfl⟩ ⟨hs, -⟩ Kr hKr
  have hsk : SOk 25 s := by rw [hs]; exact Jhq hc ha i
  have hsl := hsk.1
  refine sR fun _ hK7 => Ji rfl (nK hK7 ?_); refine Ja (LN rfl fun r3 => ?_)
  refine LT 0 rfl rfl (Jf ?_); refine hKr _ _ ?_; clear hKr; refine Js (sR fun _ hK8 => ?_)
  refine LR rfl (JP (j := 0) rfl rfl rfl rfl rfl (by first | decide | omega) (by first | (simp only [Nat.zero_add, Nat.reduceAdd, Nat.reduceMul, Nat.zero_mul, Nat.mul_one, Nat.add_zero]; exact rfl) | exact rfl)) ?_; refine LS 2 [0] rfl rfl (nK hK8 ?_); refine Kc 21 (by kernel_rfl) (by kernel_rfl) ?_; refine Jl rfl rfl rfl (Jk rfl (J7 (k := 2) rfl) rfl rfl) ?_; refine Jl rfl rfl rfl (Jp rfl) ?_; refine Jl rfl rfl rfl (JA rfl rfl rfl) ?_; refine Jl rfl rfl rfl (JP (j := i) (m := 1) (off' := i) rfl rfl rfl rfl (by omega) (by omega) (by omega)) ?_; refine Jl rfl rfl rfl (KJ rfl (kn 1 rfl) rfl (KW (by rw [hsl]; omega))) ?_; refine Jl rfl rfl rfl (Jp rfl) ?_; refine Jl rfl rfl rfl (JA rfl rfl rfl) ?_; refine QC (show _ = Value.int .i64 ((i % 5 + 5 : Nat) : Int) from congrArg (Value.int .i64) (by rw [wrap_i64 (by omega) (by omega)]; omega)) ?_; refine Jl rfl rfl rfl (JA rfl rfl rfl) ?_; refine QC (show _ = Value.int .i64 ((i % 5 + 5 - 1 : Nat) : Int) from congrArg (Value.int .i64) (by rw [wrap_i64 (by omega) (by omega)]; omega)) ?_; refine Jl rfl rfl rfl (JA rfl rfl rfl) ?_; refine QC (show _ = Value.int .i64 (((i % 5 + 5 - 1) % 5 : Nat) : Int) from congrArg (Value.int .i64) (by rw [Int.tmod_eq_emod_of_nonneg (by omega)]; omega)) ?_; refine Jl rfl rfl rfl (JP (j := (i % 5 + 5 - 1) % 5) (m := 1) (off' := (i % 5 + 5 - 1) % 5) rfl rfl rfl rfl (by omega) (by omega) (by omega)) ?_; refine Jl rfl rfl rfl (KJ rfl (J7 (k := 1) rfl) rfl (KW (by rw [hc.1]; omega))) ?_; refine Jl rfl rfl rfl (Jp rfl) ?_; refine Jl rfl rfl rfl (JA rfl rfl rfl) ?_; refine QC (show _ = Value.int .i64 ((i % 5 + 1 : Nat) : Int) from congrArg (Value.int .i64) (by rw [wrap_i64 (by omega) (by omega)]; omega)) ?_; refine Jl rfl rfl rfl (JA rfl rfl rfl) ?_; refine QC (show _ = Value.int .i64 (((i % 5 + 1) % 5 : Nat) : Int) from congrArg (Value.int .i64) (by rw [Int.tmod_eq_emod_of_nonneg (by omega)]; omega)) ?_; refine Jl rfl rfl rfl (JP (j := (i % 5 + 1) % 5) (m := 1) (off' := (i % 5 + 1) % 5) rfl rfl rfl rfl (by omega) (by omega) (by omega)) ?_; refine Jl rfl rfl rfl (KJ rfl (J7 (k := 1) rfl) rfl (KW (by rw [hc.1]; omega))) ?_; refine QB rfl rfl rfl (enters_of Tryz.func274 (by kernel_rfl) rfl) (Ju5 (k := 1) (hc.get _) (by decide)) ?_; refine Jl rfl rfl rfl (V6 (op := .xor) (b := ((cc.getD ((i % 5 + 5 - 1) % 5) 0 ^^^ Jcz (cc.getD ((i % 5 + 1) % 5) 0) 1 : Nat) : Int)) rfl rfl rfl (hc.get _) (vR (hc.get _) 1) rfl) ?_; refine Jl rfl rfl rfl (V6 (op := .xor) (b := ((s.getD i 0 ^^^ (cc.getD ((i % 5 + 5 - 1) % 5) 0 ^^^ Jcz (cc.getD ((i % 5 + 1) % 5) 0) 1) : Nat) : Int)) rfl rfl rfl (hsk.get _) (WP (hc.get _) (vR (hc.get _) 1)) rfl) ?_; refine Jl rfl rfl rfl (JA rfl rfl rfl) ?_; refine Jl rfl rfl rfl (JP (j := i) (m := 1) (off' := i) rfl rfl rfl rfl (by omega) (by omega) (by omega)) ?_; refine KA ?_; refine KV (k := 1) (off := i) (xs := s.map uV) (ys := (mS cc a (i + 1)).map uV) rfl rfl rfl rfl rfl rfl (by rw [List.length_map, hsl]; omega) (WJ (by rw [hs]; rfl)) rfl ?_; refine Jf (Jj (Vo [1] (L' := [_]) (by decide) rfl ?_)); exact QS (mS cc a (i + 1)) ⟨rfl, by omega⟩ rfl
  rintro D2 i s hfi ⟨hs, -⟩
  have hi25 : i = 25 := hfi
  subst hi25; refine Jj (QP (k := 0) rfl rfl (QP (k := 2) rfl rfl ?_)); refine Jt rfl rfl .nil (fun w1 hs1 => ?_); exact ⟨rfl, _, List.mem_cons_of_mem _ (by rw [hmx, ← hs]; exact List.mem_cons_self), hs1⟩
  exact fun _ _ _ h => h.elim
  · exact fun _ _ _ h => h.elim
theorem Jsj {a : List Nat} (ha : SOk 25 a) {n : Nat} (hn : n < 18446744073709551616) {by_ : List Nat} (hbl : by_.length = 25) (hby : ∀ i, by_.getD i 0 < 9223372036854775808) (r : Nat) :
    PureM Tryz.prog 260 [.pointer (some ⟨r, 0, none⟩), uV n, .agg (by_.map iV).toArray].toArray (.tuple #[]) r (kO a) (kO (wJ by_ a n)) := by
  refine qW Tryz.func260 rfl rfl fun w => ?_
  obtain ⟨m, hm⟩ : ∃ m, m = Jjx a := ⟨_, rfl⟩
  have hmk : SOk 25 m := by rw [hm]; exact Jah ha
  have hml := hmk.1
  have hbk := Jc2 by_ hmk 25
  obtain ⟨b, hb⟩ : ∃ b, b = rS m by_ 25 := ⟨_, rfl⟩
  have hbk : SOk 25 b := by rw [hb]; exact Jc2 by_ hmk 25
  have hbln := hbk.1
  have hra : wJ by_ a n = Jhs (xS b m 25) n := by rw [hb, hm]; rfl
  refine sR fun _ hK1 => ?_; refine LN rfl fun r1 => ?_; refine Va (cs := (by_.map iV).toArray) rfl rfl rfl rfl fun r2 => ?_; refine nK hK1 (sR fun _ hK2 => ?_); refine LR rfl (Jk rfl (kn 1 rfl) rfl rfl) ?_; refine Jcc (k := 2) rfl rfl rfl (enters_of Tryz.func272 (by kernel_rfl) rfl) rfl (Jjz ha r) rfl ?_; rw [← hm]; refine nK hK2 (sR fun _ hK3 => ?_); refine QK (cs := (z25.map uV).toArray) rfl rfl rfl rfl fun r3 => ?_; refine nK hK3 (sQ fun _ hK4 => ?_); refine sR fun _ hK5 => ?_; refine JF rfl rfl rfl Jhg Jak ?_; refine nK hK5 (Js ?_); refine Yc (τ := Unit) (fun i (s : List Nat) => s = rS m by_ i ∧ i ≤ 25) (fun s => [(r3, kO s)]) (fun _ _ => False) (fun _ => []) [(r2, _), (r1, _), (r, kO m)] (z25) rfl rfl Jhh Jal (by rintro _ _ _ ⟨_, rfl, _⟩; rfl) rfl (by simp) rfl ⟨rfl, by decide⟩ ?_ ?_ ?_
  rintro q Xr Xb w3 i _ _ s ⟨hi, rfl, rfl⟩ ⟨hs, -⟩ Kr hKr
  have hsk : SOk 25 s := by rw [hs]; exact Jc2 by_ hmk i
  have hsl := hsk.1
  refine sR fun _ hK6 => Ji rfl (nK hK6 ?_); refine Ja (LN rfl fun r2 => ?_)
  refine LT 0 rfl rfl (Jf ?_); refine hKr _ _ ?_; clear hKr; refine Js (sQ fun _ hK7 => (Kc 6 (by kernel_rfl) (by kernel_rfl) ?_))
  refine Jl rfl rfl rfl (JP (j := 0) rfl rfl rfl rfl rfl (by first | decide | omega) (by first | (simp only [Nat.zero_add, Nat.reduceAdd, Nat.reduceMul, Nat.zero_mul, Nat.mul_one, Nat.add_zero]; exact rfl) | exact rfl)) ?_; refine Jl rfl rfl rfl (Jk rfl (kn 0 rfl) rfl rfl) ?_
  refine Jl rfl rfl rfl (JP (j := 1) rfl rfl rfl rfl rfl (by first | decide | omega) (by first | (simp only [Nat.zero_add, Nat.reduceAdd, Nat.reduceMul, Nat.zero_mul, Nat.mul_one, Nat.add_zero]; exact rfl) | exact rfl)) ?_; refine Jl rfl rfl rfl (Jk rfl (kn 0 rfl) rfl rfl) ?_; refine Jl rfl rfl rfl (JO rfl) ?_; refine Jl rfl rfl rfl (JO rfl) ?_; refine KA ?_; refine nK hK7 ?_; refine Kc 19 (by kernel_rfl) (by kernel_rfl) ?_; refine Jl rfl rfl rfl (Jp rfl) ?_; refine Jl rfl rfl rfl (Jp rfl) ?_; refine Jl rfl rfl rfl (JA rfl rfl rfl) ?_; refine QC (show _ = Value.int .i64 ((2 * (i % 5) : Nat) : Int) from congrArg (Value.int .i64) (by rw [wrap_i64 (by omega) (by omega)]; omega)) ?_; refine Jl rfl rfl rfl (Jp rfl) ?_; refine Jl rfl rfl rfl (JA rfl rfl rfl) ?_; refine QC (show _ = Value.int .i64 ((3 * (i / 5) : Nat) : Int) from congrArg (Value.int .i64) (by rw [wrap_i64 (by omega) (by omega)]; omega)) ?_; refine Jl rfl rfl rfl (JA rfl rfl rfl) ?_; refine QC (show _ = Value.int .i64 ((2 * (i % 5) + 3 * (i / 5) : Nat) : Int) from congrArg (Value.int .i64) (by rw [wrap_i64 (by omega) (by omega)]; omega)) ?_; refine Jl rfl rfl rfl (JA rfl rfl rfl) ?_; refine QC (show _ = Value.int .i64 (((2 * (i % 5) + 3 * (i / 5)) % 5 : Nat) : Int) from congrArg (Value.int .i64) (by rw [Int.tmod_eq_emod_of_nonneg (by omega)]; omega)) ?_; refine Jl rfl rfl rfl (JA rfl rfl rfl) ?_; refine QC (show _ = Value.int .i64 ((5 * ((2 * (i % 5) + 3 * (i / 5)) % 5) : Nat) : Int) from congrArg (Value.int .i64) (by rw [wrap_i64 (by omega) (by omega)]; omega)) ?_; refine Jl rfl rfl rfl (JA rfl rfl rfl) ?_; refine QC (show _ = Value.int .i64 ((i / 5 + 5 * ((2 * (i % 5) + 3 * (i / 5)) % 5) : Nat) : Int) from congrArg (Value.int .i64) (by rw [wrap_i64 (by omega) (by omega)]; omega)) ?_; refine Jl rfl rfl rfl (Jk rfl (J7 (k := 1) rfl) rfl rfl) ?_; refine Jl rfl rfl rfl (Jp rfl) ?_; refine Jl rfl rfl rfl (JA rfl rfl rfl) ?_; refine Jl rfl rfl rfl (JP (j := i) (m := 1) (off' := i) rfl rfl rfl rfl (by omega) (by omega) (by omega)) ?_; refine Jl rfl rfl rfl (KJ rfl (J7 (k := 2) rfl) rfl (KW (by rw [hml]; omega))) ?_; refine Jl rfl rfl rfl (Jp rfl) ?_; refine Jl rfl rfl rfl (JP (j := i) (m := 1) (off' := i) rfl rfl rfl rfl (by omega) (by omega) (by omega)) ?_; refine Jl rfl rfl rfl (KJ rfl (J7 (k := 0) rfl) rfl (Jl7 (by rw [hbl]; omega))) ?_; refine QB rfl rfl rfl (enters_of Tryz.func274 (by kernel_rfl) rfl) (Ju5 (k := by_.getD i 0) (hmk.get _) (hby i)) ?_; refine Jl rfl rfl rfl (JP (j := (i / 5 + 5 * ((2 * (i % 5) + 3 * (i / 5)) % 5))) (m := 1) (off' := (i / 5 + 5 * ((2 * (i % 5) + 3 * (i / 5)) % 5))) rfl rfl rfl rfl (by omega) (by omega) (by omega)) ?_; refine KA ?_; refine KV (k := 1) (off := i / 5 + 5 * ((2 * (i % 5) + 3 * (i / 5)) % 5)) (xs := s.map uV) (ys := (rS m by_ (i + 1)).map uV) rfl rfl rfl rfl rfl rfl (by rw [List.length_map, hsl]; omega) (WJ (by rw [hs]; rfl)) rfl ?_; refine Jf (Jj (Vo [1] (L' := [_]) (by decide) rfl ?_)); exact QS (rS m by_ (i + 1)) ⟨rfl, by omega⟩ rfl
  rintro D i s hfi ⟨hs, -⟩
  have hi25 : i = 25 := hfi
  subst hi25; rw [← hb] at hs
  have hs := hs.symm
  subst hs; refine Jj (hK4 ?_); refine sQ fun _ hK8 => sR fun _ hK9 => ?_; refine JF rfl rfl rfl Jhg Jak ?_; refine nK hK9 (Js (Y0 [4, 0, 1, 2, 3] (by decide) rfl ?_)); refine Yc (τ := Unit) (fun i (s : List Nat) => s = xS b m i ∧ i ≤ 25) (fun s => [(r, kO s)]) (fun _ _ => False) (fun _ => []) [(D, _), (r3, kO b), (r2, _), (r1, _)] (m) rfl rfl Jhh Jal (by rintro _ _ _ ⟨_, rfl, _⟩; rfl) rfl (by simp) rfl ⟨rfl, by decide⟩ ?_ ?_ ?_
  rintro q Xr Xb w3 i _ _ s ⟨hi, rfl, rfl⟩ ⟨hs, -⟩ Kr hKr
  have hsk : SOk 25 s := by rw [hs]; exact Jhr hbk hmk i
  have hsl := hsk.1
  refine sR fun _ hK10 => Ji rfl (nK hK10 ?_); refine Ja (LN rfl fun r3 => ?_)
  refine LT 0 rfl rfl (Jf ?_); refine hKr _ _ ?_; clear hKr; refine Js (sQ fun _ hK11 => (Kc 8 (by kernel_rfl) (by kernel_rfl) ?_))
  refine Jl rfl rfl rfl (JP (j := 0) rfl rfl rfl rfl rfl (by first | decide | omega) (by first | (simp only [Nat.zero_add, Nat.reduceAdd, Nat.reduceMul, Nat.zero_mul, Nat.mul_one, Nat.add_zero]; exact rfl) | exact rfl)) ?_; refine Jl rfl rfl rfl (Jk rfl (kn 0 rfl) rfl rfl) ?_; refine Jl rfl rfl rfl (Jp rfl) ?_
  refine Jl rfl rfl rfl (JP (j := 0) rfl rfl rfl rfl rfl (by first | decide | omega) (by first | (simp only [Nat.zero_add, Nat.reduceAdd, Nat.reduceMul, Nat.zero_mul, Nat.mul_one, Nat.add_zero]; exact rfl) | exact rfl)) ?_; refine Jl rfl rfl rfl (Jk rfl (kn 0 rfl) rfl rfl) ?_; refine Jl rfl rfl rfl (JA rfl rfl rfl) ?_; refine QC (show _ = Value.int .i64 ((i - i % 5 : Nat) : Int) from congrArg (Value.int .i64) (by rw [wrap_i64 (by omega) (by omega)]; omega)) ?_; refine Jl rfl rfl rfl (JO rfl) ?_; refine Jl rfl rfl rfl (JO rfl) ?_; refine KA ?_; refine nK hK11 ?_; refine Kc 24 (by kernel_rfl) (by kernel_rfl) ?_; refine Jl rfl rfl rfl (Jk rfl (J7 (k := 3) rfl) rfl rfl) ?_; refine Jl rfl rfl rfl (Jp rfl) ?_; refine Jl rfl rfl rfl (Jp rfl) ?_; refine Jl rfl rfl rfl (JP (j := i) (m := 1) (off' := i) rfl rfl rfl rfl (by omega) (by omega) (by omega)) ?_; refine Jl rfl rfl rfl (KJ rfl (J7 (k := 1) rfl) rfl (KW (by rw [hbln]; omega))) ?_; refine Jl rfl rfl rfl (Jp rfl) ?_; refine Jl rfl rfl rfl (Jp rfl) ?_; refine Jl rfl rfl rfl (JA rfl rfl rfl) ?_; refine QC (show _ = Value.int .i64 ((i % 5 + 1 : Nat) : Int) from congrArg (Value.int .i64) (by rw [wrap_i64 (by omega) (by omega)]; omega)) ?_; refine Jl rfl rfl rfl (JA rfl rfl rfl) ?_; refine QC (show _ = Value.int .i64 (((i % 5 + 1) % 5 : Nat) : Int) from congrArg (Value.int .i64) (by rw [Int.tmod_eq_emod_of_nonneg (by omega)]; omega)) ?_; refine Jl rfl rfl rfl (JA rfl rfl rfl) ?_; refine QC (show _ = Value.int .i64 ((i - i % 5 + (i % 5 + 1) % 5 : Nat) : Int) from congrArg (Value.int .i64) (by rw [wrap_i64 (by omega) (by omega)]; omega)) ?_; refine Jl rfl rfl rfl (JP (j := (i - i % 5 + (i % 5 + 1) % 5)) (m := 1) (off' := (i - i % 5 + (i % 5 + 1) % 5)) rfl rfl rfl rfl (by omega) (by omega) (by omega)) ?_; refine Jl rfl rfl rfl (KJ rfl (J7 (k := 1) rfl) rfl (KW (by rw [hbln]; omega))) ?_; refine Jl rfl rfl rfl (Jro rfl (hbk.get _)) ?_; refine Jl rfl rfl rfl (Jp rfl) ?_; refine Jl rfl rfl rfl (Jp rfl) ?_; refine Jl rfl rfl rfl (JA rfl rfl rfl) ?_; refine QC (show _ = Value.int .i64 ((i % 5 + 2 : Nat) : Int) from congrArg (Value.int .i64) (by rw [wrap_i64 (by omega) (by omega)]; omega)) ?_; refine Jl rfl rfl rfl (JA rfl rfl rfl) ?_; refine QC (show _ = Value.int .i64 (((i % 5 + 2) % 5 : Nat) : Int) from congrArg (Value.int .i64) (by rw [Int.tmod_eq_emod_of_nonneg (by omega)]; omega)) ?_; refine Jl rfl rfl rfl (JA rfl rfl rfl) ?_; refine QC (show _ = Value.int .i64 ((i - i % 5 + (i % 5 + 2) % 5 : Nat) : Int) from congrArg (Value.int .i64) (by rw [wrap_i64 (by omega) (by omega)]; omega)) ?_; refine Jl rfl rfl rfl (JP (j := (i - i % 5 + (i % 5 + 2) % 5)) (m := 1) (off' := (i - i % 5 + (i % 5 + 2) % 5)) rfl rfl rfl rfl (by omega) (by omega) (by omega)) ?_; refine Jl rfl rfl rfl (KJ rfl (J7 (k := 1) rfl) rfl (KW (by rw [hbln]; omega))) ?_; refine Jl rfl rfl rfl (V6 (op := .and) (b := (((18446744073709551615 ^^^ b.getD (i - i % 5 + (i % 5 + 1) % 5) 0) &&& b.getD (i - i % 5 + (i % 5 + 2) % 5) 0 : Nat) : Int)) rfl rfl rfl (WP (by decide) (hbk.get _)) (hbk.get _) rfl) ?_; refine Jl rfl rfl rfl (V6 (op := .xor) (b := ((Jwm b i : Nat) : Int)) rfl rfl rfl (hbk.get _) (Jc0 (hbk.get _)) rfl) ?_; refine Jl rfl rfl rfl (JA rfl rfl rfl) ?_; refine Jl rfl rfl rfl (JP (j := i) (m := 1) (off' := i) rfl rfl rfl rfl (by omega) (by omega) (by omega)) ?_; refine KA ?_; refine KV (k := 1) (off := i) (xs := s.map uV) (ys := (xS b m (i + 1)).map uV) rfl rfl rfl rfl rfl rfl (by rw [List.length_map, hsl]; omega) (WJ (by rw [hs]; rfl)) rfl ?_; refine Jf (Jj (Vo [1] (L' := [_]) (by decide) rfl ?_)); exact QS (xS b m (i + 1)) ⟨rfl, by omega⟩ rfl
  rintro D2 i s hfi ⟨hs, -⟩
  have hi25 : i = 25 := hfi
  subst hi25
  have hsk : SOk 25 s := by rw [hs]; exact Jhr hbk hmk 25
  have hsl := hsk.1
  refine Jj (hK8 ?_); refine Kc 8 (by kernel_rfl) (by kernel_rfl) ?_; refine Jl rfl rfl rfl (Jk rfl (kn 5 rfl) rfl rfl) ?_; refine Jl rfl rfl rfl (JA rfl rfl rfl) ?_
  refine Jl rfl rfl rfl (JP (j := 0) rfl rfl rfl rfl rfl (by first | decide | omega) (by first | (simp only [Nat.zero_add, Nat.reduceAdd, Nat.reduceMul, Nat.zero_mul, Nat.mul_one, Nat.add_zero]; exact rfl) | exact rfl)) ?_; refine Jl rfl rfl rfl (KJ rfl (kn 1 rfl) rfl (KW (by rw [hsl]; omega))) ?_; refine Jl rfl rfl rfl (Jp rfl) ?_; refine Jl rfl rfl rfl (V6 (op := .xor) (b := ((s.getD 0 0 ^^^ n : Nat) : Int)) rfl rfl rfl (hsk.get _) (hn) rfl) ?_; refine Jl rfl rfl rfl (JA rfl rfl rfl) ?_
  refine Jl rfl rfl rfl (JP (j := 0) rfl rfl rfl rfl rfl (by first | decide | omega) (by first | (simp only [Nat.zero_add, Nat.reduceAdd, Nat.reduceMul, Nat.zero_mul, Nat.mul_one, Nat.add_zero]; exact rfl) | exact rfl)) ?_; refine KA ?_; refine KV (k := 1) (off := 0) (xs := s.map uV) (ys := (Jhs s n).map uV) rfl rfl rfl rfl rfl rfl (by rw [List.length_map, hsl]; omega) (WJ rfl) rfl ?_; refine Jf ?_; refine QP (k := 0) rfl rfl ?_; refine QP (k := 2) rfl rfl ?_; refine Jt rfl rfl .nil (fun w1 hs1 => ?_); exact ⟨rfl, _, List.mem_cons_of_mem _ (by rw [hra, ← hs]; exact List.mem_cons_self), hs1⟩
  exact fun _ _ _ h => h.elim
  · exact fun _ _ _ h => h.elim
theorem Jsk : Pure Tryz.prog 258 [].toArray (.agg (turnsL.map iV).toArray) := by
  refine JG Tryz.func258 rfl rfl fun w => ?_; refine sR fun _ hK1 => ?_; refine LN rfl fun r1 => ?_; refine nK hK1 (sR fun _ hK2 => ?_); refine LR rfl (JK (r := turnsL.map iV) rfl (by kernel_rfl)) ?_; refine Jz (k := 0) (n := 25) (ys := turnsL.map iV) rfl rfl rfl rfl rfl rfl rfl rfl rfl ?_; refine nK hK2 (Jb ?_); refine Jt rfl rfl (.cons (J9 (vs := turnsL.map iV) rfl (kn 0 rfl) rfl rfl) .nil) (fun w1 hs1 => ?_); exact ⟨rfl, hs1.keep⟩
theorem Jj0 : Pure Tryz.prog 259 [].toArray (.agg (numsL.map uV).toArray) := by
  refine JG Tryz.func259 rfl rfl fun w => ?_; refine sR fun _ hK1 => ?_; refine LN rfl fun r1 => ?_; refine nK hK1 (sR fun _ hK2 => ?_); refine LR rfl (JK (r := numsL.map uV) rfl (by kernel_rfl)) ?_; refine Jz (k := 0) (n := 24) (ys := numsL.map uV) rfl rfl rfl rfl rfl rfl rfl rfl rfl ?_; refine nK hK2 (Jb ?_); refine Jt rfl rfl (.cons (J9 (vs := numsL.map uV) rfl (kn 0 rfl) rfl rfl) .nil) (fun w1 hs1 => ?_); exact ⟨rfl, hs1.keep⟩
theorem Jnm (i : Nat) : turnsL.getD i 0 < 9223372036854775808 := by
  by_cases h : i < 25
  · have : turnsL.all (fun x => decide (x < 9223372036854775808)) = true := by decide
    have hm : turnsL.getD i 0 ∈ turnsL := by simp [List.getD_eq_getElem?_getD, show i < turnsL.length from h]
    exact of_decide_eq_true (List.all_eq_true.1 this _ hm)
  · rw [List.getD_eq_getElem?_getD, List.getElem?_eq_none (by simpa [turnsL] using h)]; decide
theorem Jj1 {a : List Nat} (ha : SOk 25 a) : Pure Tryz.prog 238 [.agg (a.map uV).toArray].toArray (.agg ((zC a).map uV).toArray) := by
  refine JG Tryz.func238 rfl rfl fun w => ?_
  have hal := ha.1
  obtain ⟨tu, htu⟩ : ∃ t, t = turnsL := ⟨_, rfl⟩
  have htul : tu.length = 25 := by rw [htu]; rfl
  have htub : ∀ i, tu.getD i 0 < 9223372036854775808 := by rw [htu]; exact Jnm
  obtain ⟨nu, hnu⟩ : ∃ t, t = numsL := ⟨_, rfl⟩
  have hnuk : SOk 24 nu := by rw [hnu]; exact numsL_ok
  have hnul := hnuk.1
  have hPt : Pure Tryz.prog 258 [].toArray (.agg (tu.map iV).toArray) := by rw [htu]; exact Jsk
  have hPn : Pure Tryz.prog 259 [].toArray (.agg (nu.map uV).toArray) := by rw [hnu]; exact Jj0
  refine sR fun _ hK1 => ?_; refine Va (cs := (a.map uV).toArray) rfl rfl rfl rfl fun r1 => ?_; refine QK (cs := (z25.map uV).toArray) rfl rfl rfl rfl fun r2 => ?_; refine nK hK1 (sR fun _ hK2 => ?_); refine LR rfl (Jq (xs := a.map uV) (n := 25) rfl (kn 1 rfl) rfl rfl (by rw [List.length_map, hal])) ?_; refine QK (cs := (z25.map uV).toArray) rfl rfl rfl rfl fun r3 => ?_; refine Jz (k := 0) (n := 25) (ys := a.map uV) rfl rfl rfl rfl rfl (by rw [List.length_map, hal]) rfl (Zb _) rfl ?_; refine nK hK2 (sR fun _ hK3 => ?_); refine JF rfl rfl rfl (enters_of Tryz.func258 (by kernel_rfl) rfl) hPt ?_; refine QK (cs := ((List.replicate 25 0).map iV).toArray) rfl rfl rfl rfl fun r4 => ?_; refine Jz (k := 0) (n := 25) (ys := tu.map iV) rfl rfl rfl rfl rfl (by rw [List.length_map, htul]) rfl (by simp [iV, QW, List.all_map, List.all_eq_true]) rfl ?_; refine nK hK3 (sQ fun _ hK4 => ?_); refine sR fun _ hK5 => ?_; refine JF rfl rfl rfl (enters_of Tryz.func259 (by kernel_rfl) rfl) hPn ?_; refine Ji rfl (nK hK5 ?_); refine Js (JL (σ := Nat) (fun i => i ≤ 24) (fun i => [(2, .pointer (some ⟨r2, 0, none⟩)), (3, .pointer (some ⟨r3, 0, none⟩)), (4, .pointer (some ⟨r4, 0, none⟩)), (9, .agg (nu.map uV).toArray), (10, .int .i64 (i : Int))]) (fun i => [(r4, .cells (tu.map iV).toArray 229 (0, 0)), (r3, kO (jL a i)), (r2, .cells (z25.map uV).toArray 188 (0, 0)), (r1, .cells (a.map uV).toArray 188 (0, 0))]) (fun _ _ _ => True) (fun i => 24 - i) 0 (Nat.zero_le _) (.cons rfl (.cons rfl (.cons rfl (.cons rfl (.cons rfl .nil))))) (List.Sublist.refl _) (fun _ _ h => h) ?_); intro i hi; refine sR fun _ hK6 => JY rfl (nK hK6 ?_); refine sQ fun _ hK7 => ?_; refine Jc rfl (fun h8 => ?_) (fun h8 => ?_)
  try simp only [ZZ] at h8
  refine Jg (hK7 ?_); refine sB fun _ hK9 => sR fun _ hK10 => ?_; refine LR rfl (Jll (j := i) rfl rfl rfl rfl rfl rfl (by omega) (Jls (KW (by rw [hnul]; omega)))) ?_; refine Ji rfl (nK hK10 ?_); refine Ja (Ji rfl (LR rfl (Jq (xs := tu.map iV) (n := 25) rfl (kn 0 rfl) rfl rfl (by rw [List.length_map, htul])) ?_)); refine Jcc (k := 1) rfl rfl rfl (enters_of Tryz.func260 (by kernel_rfl) rfl) rfl (Jsj (Yk ha i) (n := nu.getD i 0) (hnuk.get i) htul htub r3) rfl ?_; refine Jf (Jj (hK9 ?_)); refine Ja (JY rfl (Ju (by omega) (by omega) ?_)); refine Ji rfl (Jf (J8 ?_)); exact J2 (i + 1) (by omega) (by omega) (.cons rfl (.cons rfl (.cons rfl (.cons rfl (.cons rfl .nil))))) (by rw [show jL a (i + 1) = wJ tu (jL a i) (nu.getD i 0) from by rw [htu, hnu]; rfl]; exact List.Sublist.refl _) (fun _ _ h => h)
  · try simp only [ZZ] at h8
    refine JJ (Jm ?_); refine Jm (J0 (hK4 ?_)); refine sQ fun _ hK11 => ?_
    have hi24 : 24 = i := by omega
    subst hi24; refine Ja (LR rfl (Jq (xs := (jL a 24).map uV) (n := 25) rfl (kn 1 rfl) rfl rfl (by rw [List.length_map, (Yk ha 24).1])) (Jz (k := 2) (n := 25) (ys := (jL a 24).map uV) rfl rfl rfl rfl rfl (by rw [List.length_map, (Yk ha 24).1]) rfl (Zb _) rfl ?_)); refine nK hK11 (Jb ?_); refine Jt rfl rfl (.cons (J9 (vs := (jL a 24).map uV) rfl (kn 2 rfl) rfl (by rw [List.length_map, (Yk ha 24).1]; rfl)) .nil) (fun w1 hs1 => ?_); exact ⟨rfl, hs1.keep⟩
theorem Jc5 {l : List UInt8} {j : Nat} (h : j < l.length) : (l.map bV)[j]? = some (.int .u8 ((l.getD j 0).toNat : Nat)) := by
  simp [h, bV, List.getD_eq_getElem?_getD]
theorem Jyq {n : Nat} (hn : n ≤ 1099511627776) : Pure Tryz.prog 237 [.int .i64 (n : Int)].toArray (.tuple #[.string (bs (vx n)), .int .i64 0]) := by
  refine JG Tryz.func237 rfl rfl fun w => ?_
  obtain ⟨k, hk⟩ : ∃ k, k = 135 - n % 136 := ⟨_, rfl⟩
  have hn1 : n % 136 < 136 := Nat.mod_lt _ (by decide)
  obtain ⟨x, hx⟩ : ∃ x : UInt8, x = (1 :: List.replicate k 0 : List UInt8).getD k 0 := ⟨_, rfl⟩
  have hxl := x.toNat_lt
  have hpl : (1 :: List.replicate k 0 : List UInt8).set k (UInt8.ofNat (x.toNat ||| 128)) = vx n := by
    unfold vx
    cases k with
    | zero => rw [if_pos (by omega), hx]; rfl
    | succ k =>
      rw [if_neg (by omega), hx]
      have e1 : (1 :: List.replicate (k + 1) 0 : List UInt8).getD (k + 1) 0 = 0 := by simp [List.getD_eq_getElem?_getD]
      rw [e1, show 134 - n % 136 = k from by omega]; simp only [List.set_cons_succ]
      congr 1
      rw [List.replicate_succ', List.set_append_right _ _ (by simp), List.length_replicate, Nat.sub_self]; rfl
  refine sR fun _ hK1 => LS 2 [] rfl rfl (nK hK1 ?_); refine sQ fun _ hK2 => sR fun _ hK3 => ?_; refine LS 6 [] rfl rfl (nK hK3 ?_); refine Jc rfl (fun h6 => ?_) (fun h6 => ?_)
  try simp only [ZZ] at h6
  refine sR fun _ hK7 => LS 2 [] rfl rfl (nK hK7 ?_); refine Jb (Jd ?_); refine Jt rfl rfl (.cons (J1 rfl) (.cons (J1 rfl) .nil)) (fun w1 hs1 => ?_)
  first | (exact ⟨rfl, hs1.keep⟩) | (exfalso; omega)
  · try simp only [ZZ] at h6
    refine Jg (hK2 ?_); refine sR fun _ hK8 => LS 2 [] rfl rfl ?_; refine Jy (show _ = Value.int .i64 ((n % 136 : Nat) : Int) from congrArg (Value.int .i64) (by rw [Int.tmod_eq_emod_of_nonneg (by omega)]; omega)) ?_; refine JY rfl ?_; refine Jy (show _ = Value.int .i64 ((k + 1 : Nat) : Int) from congrArg (Value.int .i64) (by rw [wrap_i64 (by omega) (by omega)]; omega)) ?_; refine Xg (n := k + 1) (b := 1) rfl rfl rfl rfl rfl rfl rfl rfl rfl (by omega) (by omega) fun r2 => ?_; refine Ji rfl (nK hK8 ?_); refine sR fun _ hK9 => Ji rfl (LR rfl (Kj (j := 0) (m := 1) (off' := 0) rfl rfl rfl rfl rfl (by omega) rfl) ?_); refine KV (k := 0) (off := 0) (xs := List.replicate (k + 1) (.int .u8 0)) (ys := (1 :: List.replicate k 0 : List UInt8).map bV) rfl rfl rfl rfl rfl rfl (by simp) (by rw [List.replicate_succ]; simp [bV]) rfl ?_; refine nK hK9 (sR fun _ hK10 => ?_); refine LS 2 [] rfl rfl ?_; refine LR rfl (KM rfl rfl) ?_; refine JY rfl ?_; refine Jy (show _ = Value.int .i64 ((k : Nat) : Int) from congrArg (Value.int .i64) (by rw [wrap_i64 (by omega) (by omega)]; omega)) ?_; refine LR rfl (Kj (j := k) (m := 1) (off' := k) rfl rfl rfl rfl rfl (by omega) (by omega)) ?_; refine LR rfl (KJ rfl (kn 0 rfl) rfl (Jc5 (by simp))) ?_; rw [← hx]
    refine LR rfl (vM (op := .or) (b := ((x.toNat ||| 128 : Nat) : Int)) rfl rfl rfl hxl (by decide) rfl) ?_; refine Jy (show _ = bV (UInt8.ofNat (x.toNat ||| 128)) from Jgw (Nat.or_lt_two_pow (n := 8) hxl (by decide))) ?_; refine LR rfl (Kj (j := k) (m := 1) (off' := k) rfl rfl rfl rfl rfl (by omega) (by omega)) ?_; refine KV (k := 0) (off := k) (xs := (1 :: List.replicate k 0 : List UInt8).map bV) (ys := (vx n).map bV) rfl rfl rfl rfl rfl rfl (by simp) (by rw [← hpl, List.map_set]) rfl ?_; refine nK hK10 (sR fun _ hK11 => ?_); refine Ji rfl ?_; refine LR rfl (QV (b := vx n) (row := some (r2, k + 1, [])) (e := 5) (show _ = some (JD (vx n).length (some (r2, k + 1, []))) from by rw [jM, show 136 - n % 136 = k + 1 from by omega]; rfl) ⟨by simp, by simp [jM]; omega⟩ (fun p hp => .inl (by rw [List.mem_singleton.1 hp]; simp)) rfl rfl rfl) ?_; refine LS 2 [] rfl rfl (nK hK11 ?_); refine Jb ?_; refine Jt rfl rfl (.cons (J1 rfl) (.cons (J1 rfl) .nil)) (fun w1 hs1 => ?_)
    first | (exact ⟨rfl, hs1.keep⟩) | (exfalso; omega)
def chL (rb n cap : Nat) (p : Nat × Nat) : Jo := [(p.2, .cells #[.int .i64 136] 3 (0, 0)), (p.1, .cells #[.slice (some ⟨rb, 0, none⟩) n cap] 55 (0, 0))]
theorem Jsl (rb n cap : Nat) : PureE (α := Nat × Nat) Tryz.prog 236 [.slice (some ⟨rb, 0, none⟩) n cap, .int .i64 136].toArray (fun p => .func (.func 257) #[] #[.pointer (some ⟨p.1, 0, none⟩), .pointer (some ⟨p.2, 0, none⟩)]) (chL rb n cap) := by
  refine V4 Tryz.func236 rfl rfl fun w => ?_; refine sR fun _ hK1 => ?_; refine LN rfl fun r1 => ?_; refine LN rfl fun r2 => ?_; refine Ji rfl (nK hK1 ?_); refine sQ fun _ hK2 => sR fun _ hK3 => ?_; refine LS 2 [0] rfl rfl (nK hK3 ?_); refine Jc rfl (fun h4 => ?_) (fun h4 => ?_)
  exact absurd h4 (by decide)
  · try simp only [ZZ] at h4
    refine Jg (hK2 ?_); refine sR fun _ hK5 => ?_; refine LR rfl (Ku rfl rfl) ?_; refine Ji rfl (nK hK5 ?_); refine Jb (pT rfl rfl rfl fun w1 hs1 => ?_); exact ⟨(r1, r2), rfl, hs1⟩
def Jht (rb j : Nat) : List Value := [.slice (some ⟨rb, 136 * j, none⟩) 136 136]
theorem Jsm {rb n cap N : Nat} (hn : n = 136 * N) (hcap : n ≤ cap) (hlim : n ≤ 2199023255552) (p1 p2 : Nat) : xy Tryz.prog 257 [.pointer (some ⟨p1, 0, none⟩), .pointer (some ⟨p2, 0, none⟩)] (chL rb n cap (p1, p2)) 0 (nxN (Jht rb) N) (Je6 N) := by
  refine W5 Tryz.func257 rfl rfl fun q xids w2 XI XF hY => ?_; refine sR fun _ hK1 => Ji rfl (nK hK1 ?_); refine Js (JL (σ := Nat) (fun i => i ≤ N) (fun i => [(0, .func (.yield q) #[] #[]), (1, .pointer (some ⟨p1, 0, none⟩)), (2, .pointer (some ⟨p2, 0, none⟩)), (4, .int .i64 ((136 * i : Nat) : Int))]) (fun _ => []) (fun i => XI i) (fun i => N - i) 0 (Nat.zero_le _) (.cons rfl (.cons rfl (.cons rfl (.cons rfl .nil)))) (List.nil_sublist _) (fun _ _ h => h) ?_); intro i hi; refine sQ fun _ hK2 => sR fun _ hK3 => ?_; refine Ji rfl (LR rfl (Jk rfl (J7 (k := 1) rfl) rfl rfl) (LR rfl (KM rfl rfl) ?_)); refine JY rfl (nK hK3 ?_); refine Jc rfl (fun h4 => ?_) (fun h4 => ?_)
  · try simp only [ZZ] at h4
    refine Jg (hK2 ?_); refine sB fun _ hK5 => sQ fun _ hK6 => ?_; refine Kc 7 (by kernel_rfl) (by kernel_rfl) ?_; refine Jl rfl rfl rfl (Jk rfl (J7 (k := 0) rfl) rfl rfl) ?_; refine Jl rfl rfl rfl (Jk rfl (J7 (k := 1) rfl) rfl rfl) ?_; refine Jl rfl rfl rfl (Jp rfl) ?_; refine Jl rfl rfl rfl (JR (kl := some (136 * i)) (kh := none) (km := none) (sz := 1) (m := 136 * i) (q := n) (z := cap) rfl rfl rfl ⟨_, rfl⟩ trivial trivial rfl rfl rfl (by omega) hcap (Nat.le_refl _) (fun _ => rfl) rfl) ?_; refine Jl rfl rfl rfl (KM rfl rfl) ?_; refine Jl rfl rfl rfl (Jme (r := 136) rfl rfl (by rw [if_neg (by omega)])) ?_; refine Jl rfl rfl rfl (JO rfl) ?_; refine KA ?_; refine nK hK6 (sR fun _ hK7 => ?_); refine Ji rfl (LR rfl (Jk rfl (J7 (k := 1) rfl) rfl rfl) (LS 4 [] rfl rfl ?_)); refine Jy (show _ = Value.int .i64 ((136 * i + 136 : Nat) : Int) from congrArg (Value.int .i64) (by rw [wrap_i64 (by omega) (by omega)]; omega)) ?_; refine LS 3 [] rfl rfl ?_; refine Jy (show _ = Value.int .i64 ((136 * i + 136 : Nat) : Int) from congrArg (Value.int .i64) (by rw [wrap_i64 (by omega) (by omega)]; omega)) ?_
    refine LR rfl (JR (kl := some (136 * i)) (kh := some (136 * i + 136)) (km := some (136 * i + 136)) (sz := 1) (m := 136 * i) (q := 136 * i + 136) (z := 136 * i + 136) (off' := 136 * i) rfl rfl rfl ⟨_, rfl⟩ ⟨_, rfl⟩ ⟨_, rfl⟩ rfl rfl rfl (by omega) (Nat.le_refl _) (by omega) (fun h => by cases h) (by rw [if_neg (by omega)]; omega)) ?_; refine Jy (show _ = Value.slice (some ⟨rb, 136 * i, none⟩) 136 136 from by congr 1 <;> omega) ?_; refine WI (XT := XI (i + 1)) (XF := XF) rfl rfl rfl rfl (hY i (Jht rb i) (i + 1) ⟨by omega, rfl, rfl⟩) ?_ ?_
    all_goals refine JY rfl ?_
    all_goals refine Jf ?_
    all_goals (
     refine hK7 ?_; refine Jc rfl (fun h8 => ?_) (fun h8 => ?_)
     · try exact Bool.noConfusion h8
       all_goals try simp only [ZZ] at h8
       all_goals (
        refine Jb (Jn (Jd ?_)); refine Jd (Jn ?_); refine Jt rfl rfl .nil (fun w1 hs1 => ?_)
        obtain ⟨xs1, hx1⟩ := hs1.now
        exact ⟨⟨_, rfl⟩, hs1.keep, .inr ⟨_, hx1⟩⟩
        skip)
     · try exact Bool.noConfusion h8
       all_goals try simp only [ZZ] at h8
       all_goals (
        refine Jg (Jj (hK5 ?_)); refine Ja (Ji rfl (LR rfl (Jk rfl (J7 (k := 0) rfl) rfl rfl) ?_)); refine JY rfl ?_; refine Jy (show _ = Value.int .i64 ((136 * (i + 1) : Nat) : Int) from congrArg (Value.int .i64) (by rw [wrap_i64 (by omega) (by omega)]; omega)) ?_; refine Ji rfl (Jf (J8 ?_)); exact J2 (i + 1) (by omega) (by omega) (.cons rfl (.cons rfl (.cons rfl (.cons rfl .nil)))) (List.nil_sublist _) (fun _ _ h => h)
        skip)
     skip)
  · try simp only [ZZ] at h4
    refine JJ (Jm ?_); refine Jm (J0 ?_); refine QA rfl rfl .nil (fun w1 hs1 => ?_)
    obtain ⟨xs1, hx1⟩ := hs1.now
    exact ⟨⟨_, rfl⟩, hs1.keep, .inl ⟨i, _, (by show i = N; omega), hx1⟩⟩
theorem Jnn {a : List Nat} {i : Nat} (h : i < 32) : ((jN a i ++ List.replicate (32 - i) 0).map bV).set i (bV (UInt8.ofNat (a.getD (i / 8) 0 / 2 ^ (i % 8 * 8) % 256))) = (jN a (i + 1) ++ List.replicate (32 - (i + 1)) 0).map bV := by
  rw [← List.map_set, List.set_append_right _ _ (by rw [WQ]; exact Nat.le_refl _), WQ, Nat.sub_self, show 32 - i = (32 - (i + 1)) + 1 from by omega, List.replicate_succ, List.set_cons_zero, jN, List.append_assoc]
  rfl
theorem Jsn {t : List UInt8} {k j i : Nat} (h : 136 * j + i < t.length) : (t.map bV ++ List.replicate k (Value.int .u8 0))[136 * j + i]? = some (.int .u8 (((t.drop (136 * j)).getD i 0).toNat : Nat)) := by
  rw [List.getElem?_append_left (by rw [List.length_map]; exact h), Jc5 h]
  simp [List.getD_eq_getElem?_getD]
theorem Jc6 {s : List UInt8} (hs : s.length ≤ 1099511627776) : Pure Tryz.prog 174 [.string (bs s)].toArray (.string (bs (WU s))) := by
  refine JG Tryz.func174 rfl rfl fun w => ?_
  have hpl := jM s.length
  obtain ⟨t, ht⟩ : ∃ t, t = s ++ vx s.length := ⟨_, rfl⟩
  obtain ⟨N, hN⟩ : ∃ N, N = t.length / 136 := ⟨_, rfl⟩
  have htl : t.length = 136 * N := by have := Jft s; rw [← ht] at this; omega
  have hlim : t.length ≤ 2199023255552 := by rw [ht, List.length_append]; omega
  have hkec : WU s = jN (Jc4 t N) 32 := by unfold WU; rw [← ht, ← hN]
  refine sR fun _ hK1 => Ji rfl (nK hK1 ?_); refine sR fun _ hK2 => ?_; refine Ji rfl (LR rfl (Ke rfl rfl) (JF rfl rfl rfl (enters_of Tryz.func237 (by kernel_rfl) rfl) (Jyq hs) ?_)); refine LS 5 [] rfl rfl (nK hK2 ?_); refine sR fun _ hK3 => ?_; refine QK (cs := (z25.map uV).toArray) rfl rfl rfl rfl fun r1 => ?_; refine nK hK3 (sQ fun _ hK4 => ?_); refine sR fun _ hK5 => LS 2 [] rfl rfl ?_; refine LR rfl (V7 rfl rfl (by omega)) ?_; rw [← ht]; refine XK rfl rfl rfl rfl rfl rfl fun rb kb => ?_; refine Vx rfl rfl rfl (enters_of Tryz.func236 (by kernel_rfl) rfl) (Jsl rb t.length (t.length + kb)) fun pp => ?_
  obtain ⟨p1, p2⟩ := pp
  change HL _ _ _ [(p2, _), (p1, _), (rb, _), (r1, _)] _ _ _ _; refine nK hK5 (Js (Y0 [3, 0, 1, 2] (by decide) rfl ?_)); refine Yc (τ := Unit) (fun j (s : List Nat) => s = Jc4 t j ∧ j ≤ N) (fun s => [(r1, kO s)]) (fun _ _ => False) (fun _ => []) [(p2, _), (p1, _), (rb, _)] z25 rfl rfl (enters_of Tryz.func257 (by kernel_rfl) rfl) (Jsm (rb := rb) (cap := t.length + kb) htl (by omega) hlim p1 p2) (by rintro _ _ _ ⟨_, rfl, _⟩; rfl) rfl (by simp [chL]) rfl ⟨rfl, Nat.zero_le _⟩ ?_ ?_ ?_
  rintro q Xr Xb w3 jj _ _ a ⟨hi, rfl, rfl⟩ ⟨hsa, -⟩ Kr hKr
  have hak : SOk 25 a := by rw [hsa]; exact Jaj t jj
  obtain ⟨u, hu⟩ : ∃ u, u = t.drop (136 * jj) := ⟨_, rfl⟩
  have habk := Jai u hak
  refine Ja (Ji rfl (Jf ?_)); refine hKr _ _ ?_; clear hKr; refine Js (sQ fun _ hK6 => (sR fun _ hK7 => ?_)); refine Ji rfl (LR rfl (KM rfl rfl) (Ji rfl ?_)); refine nK hK7 ?_; refine Js (JL (σ := Nat) (fun i => i ≤ 136) (fun i => [(5, .pointer (some ⟨r1, 0, none⟩)), (23, .slice (some ⟨rb, 136 * jj, none⟩) 136 136), (24, .int .i64 136), (25, .int .i64 (i : Int))]) (fun i => [(r1, kO (abS a u i))]) (fun _ => Xb) (fun i => 136 - i) 0 (Nat.zero_le _) (.cons rfl (.cons rfl (.cons rfl (.cons rfl .nil)))) (List.Sublist.refl _) (fun _ _ h => h) ?_); intro i hi; refine sR fun _ hK8 => JY rfl (nK hK8 ?_); refine sQ fun _ hK9 => ?_; refine Jc rfl (fun h10 => ?_) (fun h10 => ?_)
  try simp only [ZZ] at h10
  refine Jg (hK9 ?_); refine sB fun _ hK11 => sR fun _ hK12 => ?_; refine Ji rfl (LR rfl (Kj (j := i) (m := 1) (off' := 136 * jj + i) rfl rfl rfl rfl rfl (by omega) (by omega)) (LR rfl (KJ rfl (J7 (k := 2) rfl) rfl (Jsn (by omega))) ?_)); rw [← hu]; refine LS 2 [] rfl rfl (nK hK12 ?_); refine Kc 12 (by kernel_rfl) (by kernel_rfl) ?_; refine Jl rfl rfl rfl (Jp rfl) ?_; refine Jl rfl rfl rfl (JA rfl rfl rfl) ?_; refine QC (show _ = Value.int .i64 ((i / 8 : Nat) : Int) from congrArg (Value.int .i64) (by rw [QR (by omega) (by omega) (by omega)]; omega)) ?_; refine Jl rfl rfl rfl (JP (j := i / 8) (m := 1) (off' := i / 8) rfl rfl rfl rfl (by omega) (by omega) (by omega)) ?_; refine Jl rfl rfl rfl (KJ rfl (kn 0 rfl) rfl (KW (by rw [(habk i).1]; omega))) ?_; refine Jl rfl rfl rfl (Jp rfl) ?_; refine Jl rfl rfl rfl (JA rfl rfl rfl) ?_; refine QC (show _ = uV (u.getD i 0).toNat from congrArg (Value.int .u64) (wrap_u64 (z := ((u.getD i 0).toNat : Int)) (by omega) (by have := Vg (u.getD i 0); omega))) ?_; refine Jl rfl rfl rfl (Jp rfl) ?_; refine Jl rfl rfl rfl (JA rfl rfl rfl) ?_; refine QC (show _ = Value.int .i64 ((i % 8 : Nat) : Int) from congrArg (Value.int .i64) (by rw [Int.tmod_eq_emod_of_nonneg (by omega)]; omega)) ?_; refine Jl rfl rfl rfl (JA rfl rfl rfl) ?_; refine QC (show _ = Value.int .i64 ((i % 8 * 8 : Nat) : Int) from congrArg (Value.int .i64) (by rw [wrap_i64 (by omega) (by omega)]; omega)) ?_; refine Jl rfl rfl rfl (zo (n := i % 8 * 8) rfl rfl rfl (show _ ≤ 64 from by omega) (xK (wu (Vg _) (by omega)))) ?_; refine Jl rfl rfl rfl (V6 (op := .xor) (b := (((abS a u i).getD (i / 8) 0 ^^^ (u.getD i 0).toNat * 2 ^ (i % 8 * 8) : Nat) : Int)) rfl rfl rfl ((habk i).get _) (wu (Vg _) (by omega)) rfl) ?_; refine Jl rfl rfl rfl (JP (j := i / 8) (m := 1) (off' := i / 8) rfl rfl rfl rfl (by omega) (by omega) (by omega)) ?_; refine KA ?_; refine KV (k := 0) (off := i / 8) (xs := (abS a u i).map uV) (ys := (abS a u (i + 1)).map uV) rfl rfl rfl rfl rfl rfl (by rw [List.length_map, (habk i).1]; omega) (WJ rfl) rfl ?_; refine Jf (Jj (hK11 ?_)); refine Ja (JY rfl (Ju (by omega) (by omega) ?_)); refine Ji rfl (Jf (J8 ?_)); exact J2 (i + 1) (by omega) (by omega) (.cons rfl (.cons rfl (.cons rfl (.cons rfl .nil)))) (List.Sublist.refl _) (fun _ _ h => h)
  try simp only [ZZ] at h10
  refine JJ (Jm ?_); refine Jm (J0 (hK6 ?_))
  have hi136 : 136 = i := by omega
  subst hi136; refine Ja (LR rfl (Jq (xs := (abS a u 136).map uV) (n := 25) rfl (kn 0 rfl) rfl rfl (by rw [List.length_map, (habk 136).1])) (JF rfl rfl rfl (enters_of Tryz.func238 (by kernel_rfl) rfl) (Jj1 (habk 136)) ?_)); refine Jz (k := 0) (n := 25) (ys := (zC (abS a u 136)).map uV) rfl rfl rfl rfl rfl (by rw [List.length_map, (Jc3 (habk 136)).1]) (by rw [List.size_toArray, List.length_map, (habk 136).1]) (Zb _) rfl ?_; refine Jf (Jj (QS (Jc4 t (jj + 1)) ⟨rfl, by omega⟩ ?_)); rw [show Jc4 t (jj + 1) = zC (abS a u 136) from by rw [hu, hsa]; rfl]; rfl
  rintro D jj a hfi ⟨hsa, -⟩
  have hjN : jj = N := hfi
  have hak : SOk 25 a := by rw [hsa]; exact Jaj t jj
  have hkec2 : WU s = jN a 32 := by rw [hkec, hsa, hjN]
  refine Jj (hK4 ?_); refine sR fun _ hK13 => ?_; refine Xg (n := 32) (b := 1) rfl rfl rfl rfl rfl rfl rfl rfl rfl (by decide) (by decide) fun r2 => ?_; refine Ji rfl (nK hK13 ?_); refine sQ fun _ hK14 => sR fun _ hK15 => ?_; refine Ji rfl (LR rfl (KM rfl rfl) (Ji rfl ?_)); refine nK hK15 ?_; refine Js (JL (σ := Nat) (fun i => i ≤ 32) (fun i => [(5, .pointer (some ⟨r1, 0, none⟩)), (9, .slice (some ⟨r2, 0, none⟩) 32 32), (47, .int .i64 32), (48, .int .i64 (i : Int))]) (fun i => [(r2, .cells ((jN a i ++ List.replicate (32 - i) 0).map bV).toArray 5 (0, 0)), (D, .deferred (some [])), (r1, kO a)]) (fun _ _ _ => True) (fun i => 32 - i) 0 (Nat.zero_le _) (.cons rfl (.cons rfl (.cons rfl (.cons rfl .nil)))) (.cons_cons _ (.cons_cons _ (.cons_cons _ (List.nil_sublist _)))) (fun _ _ h => h) ?_); intro i hi; refine sR fun _ hK16 => JY rfl (nK hK16 ?_); refine sQ fun _ hK17 => ?_; refine Jc rfl (fun h18 => ?_) (fun h18 => ?_)
  try simp only [ZZ] at h18
  refine Jg (hK17 ?_); refine sB fun _ hK19 => sR fun _ hK20 => ?_; refine LS 2 [] rfl rfl (nK hK20 ?_); refine Ja (LS 4 [] rfl rfl ?_); refine Jy (show _ = Value.int .i64 ((i / 8 : Nat) : Int) from congrArg (Value.int .i64) (by rw [QR (by omega) (by omega) (by omega)]; omega)) ?_; refine LR rfl (JP (j := i / 8) (m := 1) (off' := i / 8) rfl rfl rfl rfl (by omega) (by omega) (by omega)) ?_; refine LR rfl (KJ rfl (kn 2 rfl) rfl (KW (by rw [hak.1]; omega))) ?_; refine LS 2 [] rfl rfl ?_; refine Jy (show _ = Value.int .i64 ((i % 8 : Nat) : Int) from congrArg (Value.int .i64) (by rw [Int.tmod_eq_emod_of_nonneg (by omega)]; omega)) ?_; refine JY rfl ?_; refine Jy (show _ = Value.int .i64 ((i % 8 * 8 : Nat) : Int) from congrArg (Value.int .i64) (by rw [wrap_i64 (by omega) (by omega)]; omega)) ?_; refine LR rfl (wo (n := i % 8 * 8) rfl rfl rfl (show _ ≤ 64 from by omega) (by omega) (vJ _ _)) ?_; refine JY rfl (Jy (show _ = bV (UInt8.ofNat (a.getD (i / 8) 0 / 2 ^ (i % 8 * 8) % 256)) from jC _) (LR rfl (Kj (j := i) (m := 1) (off' := i) rfl rfl rfl rfl rfl (by omega) (by omega)) ?_)); refine KV (k := 0) (off := i) (xs := (jN a i ++ List.replicate (32 - i) 0).map bV) (ys := (jN a (i + 1) ++ List.replicate (32 - (i + 1)) 0).map bV) rfl rfl rfl rfl rfl rfl (by simp [WQ]; omega) (Jnn (by omega)) rfl ?_; refine Jf (Jj (hK19 ?_)); refine Ja (JY rfl (Ju (by omega) (by omega) ?_)); refine Ji rfl (Jf (J8 ?_)); exact J2 (i + 1) (by omega) (by omega) (.cons rfl (.cons rfl (.cons rfl (.cons rfl .nil)))) (List.Sublist.refl _) (fun _ _ h => h)
  try simp only [ZZ] at h18
  refine JJ (Jm ?_); refine Jm (J0 (hK14 ?_)); refine sQ fun _ hK21 => ?_
  have hi32 : 32 = i := by omega
  subst hi32; refine Ja (Ji rfl ?_); refine LR rfl (QV (b := jN a 32) (row := some (r2, 32, [])) (e := 5) (show _ = some (JD (jN a 32).length (some (r2, 32, []))) from by rw [WQ]; rfl) ⟨by simp [WQ], by simp [WQ]⟩ (fun p hp => .inl (by rw [List.mem_singleton.1 hp]; simp)) rfl rfl rfl) ?_; refine Ji rfl (nK hK21 ?_); refine Jb (QP (k := 1) rfl rfl ?_); refine pT rfl rfl rfl fun w1 hs1 => ?_; exact ⟨by rw [hkec2]; rfl, hs1.keep⟩
  · exact fun _ _ _ h => h.elim
section
variable {c : Cx} {l : Ko} {L : Jo} {X : XP} {d : List Deferred}
variable {i : Nat} {v : Value} {t : TypeId} {ps : String} {af : Array Edge} {gd : Option (Nat × Bool)} {ty t2 : TypeId}
end
def tXY : Nat → Nat × Nat
  | 0 => (1, 0)
  | t + 1 => ((tXY t).2, (2 * (tXY t).1 + 3 * (tXY t).2) % 5)
def tX (t : Nat) : Nat := (tXY t).1
def tY (t : Nat) : Nat := (tXY t).2
def tS (a : List Nat) : Nat → List Nat
  | 0 => a
  | t + 1 => (tS a t).set (tX t + 5 * tY t) (Jcz ((tS a t).getD (tX t + 5 * tY t) 0) ((t + 1) * (t + 2) / 2))
end Go.Proofs.YteceenlfegnigaaGreatDoor
namespace Go.SL
set_option linter.all false
open Go Go.RowKit Go.Shelf
abbrev BS : Type := List UInt8
theorem Y9 : ∀ a : BS, Op.bytesLess a a = false
  | [] => rfl
  | x :: a => by simp [Op.bytesLess, Y9 a]
theorem VS : ∀ {a b c : BS}, Op.bytesLess a b = true → Op.bytesLess b c = true → Op.bytesLess a c = true
  | _, [], _, h, _ => by simp [Op.bytesLess] at h
  | _, _ :: _, [], _, h => by simp [Op.bytesLess] at h
  | [], y :: b, z :: c, _, _ => rfl
  | x :: a, y :: b, z :: c, h, h2 => by
    simp only [Op.bytesLess, Bool.or_eq_true, decide_eq_true_eq, Bool.and_eq_true, beq_iff_eq] at h h2 ⊢
    rcases h with h | ⟨rfl, h⟩
    · rcases h2 with h2 | ⟨rfl, h2⟩
      · exact .inl (UInt8.lt_trans h h2)
      · exact .inl h
    · rcases h2 with h2 | ⟨rfl, h2⟩
      · exact .inl h2
      · exact .inr ⟨rfl, VS h h2⟩
theorem Jam : ∀ a b : BS, a = b ∨ Op.bytesLess a b = true ∨ Op.bytesLess b a = true
  | [], [] => .inl rfl
  | [], _ :: _ => .inr (.inl rfl)
  | _ :: _, [] => .inr (.inr rfl)
  | x :: a, y :: b => by
    simp only [Op.bytesLess, Bool.or_eq_true, decide_eq_true_eq, Bool.and_eq_true, beq_iff_eq]
    by_cases h1 : x < y
    · exact .inr (.inl (.inl h1))
    by_cases h2 : y < x
    · exact .inr (.inr (.inl h2))
    have e : x = y := UInt8.le_antisymm (UInt8.not_lt.1 h2) (UInt8.not_lt.1 h1)
    subst e
    rcases Jam a b with rfl | h | h
    · exact .inl rfl
    · exact .inr (.inl (.inr ⟨rfl, h⟩))
    · exact .inr (.inr (.inr ⟨rfl, h⟩))
theorem Jan {a b : BS} (h : Op.bytesLess a b = true) : Op.bytesLess b a = false := by
  cases h2 : Op.bytesLess b a
  · rfl
  · have := VS h h2; rw [Y9] at this; cases this
theorem zD {a b : BS} (h : Op.bytesLess a b = true) : a ≠ b := by rintro rfl; rw [Y9] at h; cases h
theorem Jno {a b : BS} (h : Op.bytesLess a b = false) (hn : a ≠ b) : Op.bytesLess b a = true := by
  rcases Jam a b with h1 | h1 | h1
  · exact absurd h1 hn
  · rw [h] at h1; cases h1
  · exact h1
section
variable {α : Type} (kf : α → BS)
def Vr : List α → Bool
  | [] => true
  | [_] => true
  | x :: y :: l => Op.bytesLess (kf x) (kf y) && Vr (y :: l)
abbrev KG (l : List α) : Prop := l.Pairwise fun x y => Op.bytesLess (kf x) (kf y) = true
theorem q8 : ∀ l : List α, Vr kf l = true ↔ KG kf l
  | [] => by simp [Vr]
  | [_] => by simp [Vr]
  | x :: y :: l => by
    rw [Vr, Bool.and_eq_true, q8 (y :: l)]
    refine Iff.trans ?_ List.pairwise_cons.symm
    constructor
    · rintro ⟨h1, h2⟩
      refine ⟨fun z hz => ?_, h2⟩
      rcases List.mem_cons.1 hz with rfl | hz
      · exact h1
      · exact VS h1 ((List.pairwise_cons.1 h2).1 z hz)
    · rintro ⟨h1, h2⟩
      exact ⟨h1 y List.mem_cons_self, h2⟩
def VT (k : BS) (l : List α) : Option α := l.find? fun x => kf x == k
def QF (x : α) : List α → List α
  | [] => [x]
  | y :: ys => if Op.bytesLess (kf y) (kf x) then y :: QF x ys else if kf y = kf x then x :: ys else x :: y :: ys
def q9 (k : BS) (l : List α) : List α := l.filter fun y => !(kf y == k)
variable {kf}
theorem QN {k : BS} {y : α} {l : List α} : VT kf k (y :: l) = if kf y = k then some y else VT kf k l := by
  unfold VT
  rw [List.find?_cons]
  by_cases h : kf y = k
  · simp [h]
  · rw [if_neg h, show (kf y == k) = false from by simpa using h]
theorem zE {k : BS} {y : α} {l : List α} (h : VT kf k l = some y) : kf y = k ∧ y ∈ l := ⟨by have := List.find?_some h; simpa using this, List.mem_of_find?_eq_some h⟩
theorem Jfu {k : BS} {l : List α} (h : ∀ y ∈ l, kf y ≠ k) : VT kf k l = none := by
  unfold VT; rw [List.find?_eq_none]; intro x hx; simpa using h x hx
theorem zF {y : α} : ∀ {l : List α}, KG kf l → y ∈ l → VT kf (kf y) l = some y
  | z :: l, hs, hm => by
    rw [QN]
    obtain ⟨h1, h2⟩ := List.pairwise_cons.1 hs
    rcases List.mem_cons.1 hm with rfl | hm
    · rw [if_pos rfl]
    · rw [if_neg (zD (h1 y hm)), zF h2 hm]
theorem vT {x y : α} : ∀ {l : List α}, y ∈ QF kf x l → y = x ∨ y ∈ l
  | [], h => by simpa [QF] using h
  | z :: l, h => by
    unfold QF at h
    split at h
    · rcases List.mem_cons.1 h with rfl | h
      · exact .inr List.mem_cons_self
      · exact (vT h).elim .inl fun h => .inr (List.mem_cons_of_mem _ h)
    · split at h
      · rcases List.mem_cons.1 h with rfl | h
        · exact .inl rfl
        · exact .inr (List.mem_cons_of_mem _ h)
      · exact List.mem_cons.1 h
theorem wK {x : α} : ∀ {l : List α}, KG kf l → KG kf (QF kf x l)
  | [], _ => by simp [QF]
  | z :: l, h => by
    obtain ⟨h1, h2⟩ := List.pairwise_cons.1 h
    unfold QF
    split
    · rename_i hz
      refine List.pairwise_cons.2 ⟨fun y hy => ?_, wK h2⟩
      rcases vT hy with rfl | hy
      · exact hz
      · exact h1 y hy
    · rename_i hz
      split
      · rename_i he
        exact List.pairwise_cons.2 ⟨fun y hy => he ▸ h1 y hy, h2⟩
      · rename_i he
        have hx := Jno (by simpa using hz) he
        refine List.pairwise_cons.2 ⟨fun y hy => ?_, h⟩
        rcases List.mem_cons.1 hy with rfl | hy
        · exact hx
        · exact VS hx (h1 y hy)
theorem Jc7 {x : α} {k : BS} : ∀ {l : List α}, KG kf l → VT kf k (QF kf x l) = if kf x = k then some x else VT kf k l
  | [], _ => by unfold QF; rw [QN]
  | z :: l, h => by
    obtain ⟨h1, h2⟩ := List.pairwise_cons.1 h
    unfold QF
    split
    · rename_i hz
      rw [QN, QN, Jc7 h2]
      by_cases hk : kf z = k
      · subst hk
        rw [if_pos rfl, if_neg (fun e => zD hz e.symm), if_pos rfl]
      · rw [if_neg hk, if_neg hk]
    · split
      · rename_i he
        rw [QN, QN, he]
        split <;> rfl
      · rw [QN]
theorem Jhu {x : α} : ∀ {l : List α}, KG kf l → (QF kf x l).length = if (VT kf (kf x) l).isSome then l.length else l.length + 1
  | [], _ => rfl
  | z :: l, h => by
    obtain ⟨h1, h2⟩ := List.pairwise_cons.1 h
    unfold QF
    rw [QN]
    split
    · rename_i hz
      rw [List.length_cons, Jhu h2, if_neg (zD hz)]
      split <;> rfl
    · rename_i hz
      split
      · rename_i he
        rfl
      · rename_i he
        have hx := Jno (by simpa using hz) he
        rw [Jfu (fun y hy e => ?_)]
        · rfl
        · have := VS hx (h1 y hy)
          rw [e, Y9] at this; cases this
theorem Jfv {k : BS} {l : List α} (h : KG kf l) : KG kf (q9 kf k l) := h.filter _
theorem Jc8 {k j : BS} : ∀ {l : List α}, VT kf j (q9 kf k l) = if k = j then none else VT kf j l
  | [] => by simp [q9, VT]
  | z :: l => by
    have ih := Jc8 (k := k) (j := j) (l := l)
    unfold q9 at ih ⊢
    rw [List.filter_cons, QN]
    by_cases hz : kf z = k
    · subst hz
      rw [if_neg (by simp), ih]
      split
      · rfl
      · rfl
    · rw [if_pos (by simpa using hz), QN, ih]
      by_cases hj : kf z = j
      · subst hj
        rw [if_pos rfl, if_pos rfl, if_neg (fun e => hz e.symm)]
      · rw [if_neg hj, if_neg hj]
theorem Jso {k : BS} {l : List α} {y : α} (h : y ∈ q9 kf k l) : y ∈ l := (List.mem_filter.1 h).1
theorem Jhv {x : α} : ∀ {l : List α}, q9 kf (kf x) (QF kf x l) = q9 kf (kf x) l
  | [] => by simp [q9, QF]
  | z :: l => by
    have ih := Jhv (x := x) (l := l)
    unfold q9 at ih ⊢
    unfold QF
    split
    · rw [List.filter_cons, ih, List.filter_cons]
    · split
      · rename_i he
        rw [List.filter_cons, List.filter_cons, he]
        simp
      · rw [List.filter_cons]
        simp
theorem Jnp {x : α} : ∀ {p q : List α}, (∀ y ∈ p, Op.bytesLess (kf y) (kf x) = true) → (∀ y ∈ q, Op.bytesLess (kf y) (kf x) = false) →
    QF kf x (p ++ q) = match q with
      | [] => p ++ [x]
      | y :: q' => if kf y = kf x then p ++ x :: q' else p ++ x :: y :: q'
  | [], [], _, _ => rfl
  | [], y :: q', _, h => by
    rw [List.nil_append, QF, h y List.mem_cons_self]
    simp
  | z :: p, q, h1, h2 => by
    rw [List.cons_append, QF, if_pos (h1 z List.mem_cons_self), Jnp (p := p) (fun y hy => h1 y (List.mem_cons_of_mem _ hy)) h2]
    cases q with
    | nil => rfl
    | cons y q' => dsimp only; split <;> rfl
end
def Wc : BS := List.replicate 32 0
structure W4 : Type where
  a : Nat
  b : Nat
  c : Nat
  d : Nat
deriving DecidableEq
def W4.l (w : W4) : List Nat := [w.a, w.b, w.c, w.d]
def w40 : W4 := ⟨0, 0, 0, 0⟩
def W4.of (l : List Nat) : W4 := ⟨l.getD 0 0, l.getD 1 0, l.getD 2 0, l.getD 3 0⟩
theorem W4.of_l {l : List Nat} (h : l.length = 4) : (W4.of l).l = l := by
  match l, h with
  | [a, b, c, d], _ => rfl
theorem W4.l_inj {x y : W4} (h : x.l = y.l) : x = y := by
  cases x; cases y; simp [W4.l] at h; simp [h]
structure AcE : Type where
  addr : BS
  nonce : Nat
  bal : W4
  code : BS
  slots : List (BS × BS)
deriving DecidableEq
def ac0 : AcE := ⟨[], 0, w40, [], []⟩
def vy (x : BS × BS) : Bool := decide (x.1.length ≠ 32) || decide (x.2.length ≠ 32)
def XY (x : BS × BS) : Bool := decide (x.2 = Wc)
def Yy (a : AcE) : Int := if a.addr.length ≠ 20 ∨ a.slots.any vy = true then 2 else if Vr Prod.fst a.slots = false then 11 else if a.code.length > 512 ∨ a.slots.length > 16 then 5 else if a.slots.any XY = true then 8 else 0
def Ww (last : Option BS) (a : AcE) : Int := if Yy a ≠ 2 ∧ (∃ b, last = some b ∧ Op.bytesLess b a.addr = false) then 11 else Yy a
instance (last : Option BS) (a : AcE) : Decidable (∃ b, last = some b ∧ Op.bytesLess b a.addr = false) := match last with
  | none => .isFalse (by simp)
  | some b => if h : Op.bytesLess b a.addr = false then .isTrue ⟨b, rfl, h⟩ else .isFalse (by simpa using h)
def goS : Option BS → List AcE → Int
  | _, [] => 0
  | last, a :: l => if Ww last a ≠ 0 then Ww last a else goS (some a.addr) l
def Qa (s : List AcE) : Int := if s.length > 32 then 5 else goS none s
def VJ (s : List AcE) (k : BS) : Option AcE := VT AcE.addr k s
def Jsp (s : List AcE) (a : AcE) : List AcE × Int := if Qa s ≠ 0 then (s, Qa s) else if Yy a ≠ 0 then (s, Yy a) else if (QF AcE.addr a s).length > 32 then (s, 5) else (QF AcE.addr a s, 0)
def Qn (a : AcE) (k : BS) : BS := match VT Prod.fst k a.slots with
  | some x => x.2
  | none => Wc
def Qk (l : List (BS × BS)) (k v : BS) : List (BS × BS) := if v = Wc then q9 Prod.fst k l else QF Prod.fst (k, v) l
def wM (a : AcE) (k v : BS) : AcE × Int := if Yy a ≠ 0 then (a, Yy a) else if k.length ≠ 32 ∨ v.length ≠ 32 then (a, 2) else if (Qk a.slots k v).length > 16 then (a, 5) else ({ a with slots := Qk a.slots k v }, 0)
theorem Wk {a : AcE} (h : Yy a = 0) : a.addr.length = 20 ∧ (∀ x ∈ a.slots, x.1.length = 32 ∧ x.2.length = 32 ∧ x.2 ≠ Wc) ∧ KG Prod.fst a.slots ∧ a.code.length ≤ 512 ∧ a.slots.length ≤ 16 := by
  unfold Yy at h
  split at h
  · cases h
  rename_i h1
  split at h
  · cases h
  rename_i h2
  split at h
  · cases h
  rename_i h3
  split at h
  · cases h
  rename_i h4
  simp only [not_or, Decidable.not_not] at h1 h3
  refine ⟨h1.1, fun x hx => ?_, (q8 _ _).1 (by simpa using h2), by omega, by omega⟩
  have a1 := h1.2
  simp only [Bool.not_eq_true, List.any_eq_false] at a1 h4
  have := a1 x hx
  have h5 := h4 x hx
  unfold vy at this
  unfold XY at h5
  simp at this h5
  exact ⟨this.1, this.2, h5⟩
theorem Jsq {a : AcE} (h1 : a.addr.length = 20) (h2 : ∀ x ∈ a.slots, x.1.length = 32 ∧ x.2.length = 32 ∧ x.2 ≠ Wc) (h3 : KG Prod.fst a.slots) (h4 : a.code.length ≤ 512) (h5 : a.slots.length ≤ 16) : Yy a = 0 := by
  unfold Yy
  have e1 : ¬ a.slots.any vy = true := by
    simp only [Bool.not_eq_true, List.any_eq_false]
    intro x hx
    obtain ⟨a1, a2, _⟩ := h2 x hx
    simp [vy, a1, a2]
  have e2 : ¬ a.slots.any XY = true := by
    simp only [Bool.not_eq_true, List.any_eq_false]
    intro x hx
    obtain ⟨_, _, a3⟩ := h2 x hx
    simp [XY, a3]
  have e3 := (q8 Prod.fst a.slots).2 h3
  rw [if_neg (fun h => h.elim (fun h => h h1) e1), if_neg (by rw [e3]; simp), if_neg (by omega), if_neg e2]
theorem Jhw {last : Option BS} {a : AcE} : Ww last a = 0 ↔ Yy a = 0 ∧ ∀ b, last = some b → Op.bytesLess b a.addr = true := by
  unfold Ww
  split
  · rename_i h
    obtain ⟨h1, b, h2, h3⟩ := h
    constructor
    · intro h; cases h
    · rintro ⟨_, h⟩; rw [h b h2] at h3; cases h3
  · rename_i h
    constructor
    · intro h0
      refine ⟨h0, fun b hb => ?_⟩
      cases h4 : Op.bytesLess b a.addr
      · exact absurd ⟨by omega, b, hb, h4⟩ h
      · rfl
    · exact fun h => h.1
theorem Ju6 : ∀ {last : Option BS} {s : List AcE}, goS last s = 0 ↔ (∀ a ∈ s, Yy a = 0) ∧ KG AcE.addr s ∧ (∀ b, last = some b → ∀ a ∈ s, Op.bytesLess b a.addr = true)
  | last, [] => by simp [goS]
  | last, a :: l => by
    rw [goS]
    split
    · rename_i h
      constructor
      · intro h0; exact absurd h0 h
      · rintro ⟨h1, h2, h3⟩
        exact absurd (Jhw.2 ⟨h1 a List.mem_cons_self, fun b hb => h3 b hb a List.mem_cons_self⟩) h
    · rename_i h
      have h := Jhw.1 (Decidable.not_not.1 h)
      rw [Ju6]
      constructor
      · rintro ⟨h1, h2, h3⟩
        refine ⟨fun x hx => ?_, List.pairwise_cons.2 ⟨fun x hx => h3 _ rfl x hx, h2⟩, fun b hb x hx => ?_⟩
        · rcases List.mem_cons.1 hx with rfl | hx
          · exact h.1
          · exact h1 x hx
        · rcases List.mem_cons.1 hx with rfl | hx
          · exact h.2 b hb
          · exact VS (h.2 b hb) (h3 _ rfl x hx)
      · rintro ⟨h1, h2, h3⟩
        obtain ⟨h4, h5⟩ := List.pairwise_cons.1 h2
        exact ⟨fun x hx => h1 x (List.mem_cons_of_mem _ hx), h5, fun b hb x hx => by cases hb; exact h4 x hx⟩
theorem wO {s : List AcE} : Qa s = 0 ↔ s.length ≤ 32 ∧ (∀ a ∈ s, Yy a = 0) ∧ KG AcE.addr s := by
  unfold Qa
  split
  · constructor
    · intro h; cases h
    · rintro ⟨h, _⟩; omega
  · rw [Ju6]
    constructor
    · rintro ⟨h1, h2, _⟩; exact ⟨by omega, h1, h2⟩
    · rintro ⟨_, h1, h2⟩; exact ⟨h1, h2, by simp⟩
open Go.Proofs (Enters enters_of)
structure PureT {α : Type} (P : Program) (f : FuncId) (args : Array Value) (V : α → Value) (T : Jo) (LL : α → Jo) (Rl : Jo) : Prop where
  run : ∀ w, vr T w → vr Rl w → (T.Pairwise fun p q => p.1 ≠ q.1) → (∀ p ∈ Rl, ∀ q ∈ T, p.1 ≠ q.1) → Calls P f args w fun e w' => ∃ x, e = .returned (V x) ∧ Keep (T.map (·.1)) w w' ∧ (∀ p ∈ LL x, (p.1 ∈ T.map (·.1) ∨ w.heap.size ≤ p.1) ∧ w'.heap[p.1]? = some p.2) ∧ (LL x).Pairwise fun p q => p.1 ≠ q.1
def cxT (P : Program) (w : World) (T Rl : Jo) (n : Nat) : Cx := ⟨P, none, w, T.map (·.1), [], Rl, n⟩
theorem St.startT {P : Program} {w : World} {n : Nat} {T Rl : Jo} (hT : vr T w) (hR : vr Rl w) (hd : T.Pairwise fun p q => p.1 ≠ q.1) (hne : ∀ p ∈ Rl, ∀ q ∈ T, p.1 ≠ q.1) : St (cxT P w T Rl n) T (fun _ _ => True) w :=
  ⟨Keep.refl _ _, fun p hp => ⟨.inl (List.mem_map.2 ⟨p, hp, rfl⟩), by simp [cxT], hT p hp⟩, hd, fun p hp => ⟨fun h => by obtain ⟨q, hq, e⟩ := List.mem_map.1 h; exact hne p hp q hq e.symm, by simp [cxT], hR p hp⟩, by simp [cxT], ⟨[], by simp, fun _ _ => trivial⟩⟩
theorem JI {α : Type} {P : Program} {f : FuncId} {fn : Func} {code : Code} {vs : List Value} {V : α → Value} {T Rl : Jo} {LL : α → Jo} (hf : P.funcs[f]? = some fn) (hb : fn.body = some code) (hlen : Nat.ble vs.length fn.ntmps = true)
    (h : ∀ w, HC (cxT P w T Rl fn.ntmps) [] (Vm 0 vs) T (fun _ _ => True) code (bodyPostM (FW none) 0 P fn (fun e w' => ∃ x, e = .returned (V x) ∧ St (cxT P w T Rl fn.ntmps) (LL x) (fun _ _ => True) w'))) : PureT P f vs.toArray V T LL Rl := ⟨fun w hT hR hd hne =>
  (QH (cxT P w T Rl fn.ntmps) hf hb rfl rfl rfl hlen (St.startT hT hR hd hne) (h w)).mono fun _ _ ⟨x, he, hs⟩ => ⟨x, he, by have := hs.keep; simpa [cxT] using this, fun p hp => ⟨(hs.own p hp).1, (hs.own p hp).2.2⟩, hs.distinct⟩⟩
section
variable {c : Cx} {l : Ko} {L : Jo} {X : XP} {Q : Exit → Act → World → Prop} {d : List Deferred}
variable {ops : Array Oper} {rest : List Oper} {i : Nat} {v : Value} {t : TypeId} {ps : String} {af : Array Edge} {gd : Option (Nat × Bool)} {ty t2 : TypeId}
theorem St.turnT {T L0 LL : Jo} {w w' : World} (hs : St c (T ++ L0) X w) (hk : Keep (T.map (·.1)) w w') (hL : ∀ p ∈ LL, (p.1 ∈ T.map (·.1) ∨ w.heap.size ≤ p.1) ∧ w'.heap[p.1]? = some p.2) (hd : LL.Pairwise fun p q => p.1 ≠ q.1) : St c (LL ++ L0) X w' := by
  have hT : ∀ p ∈ T, p ∈ T ++ L0 := fun p hp => List.mem_append_left _ hp
  have hle := hs.keep.size
  obtain ⟨hd1, hd2, hd3⟩ := List.pairwise_append.1 hs.distinct
  have hin : ∀ k ∈ T.map (·.1), ∃ p ∈ T, p.1 = k := fun k hk => by obtain ⟨p, hp, e⟩ := List.mem_map.1 hk; exact ⟨p, hp, e⟩
  refine ⟨hs.keep.glue hk ?_, fun p hp => ?_, ?_, hs.ext, hs.xlt, ?_⟩
  · intro k hk
    obtain ⟨p, hp, rfl⟩ := hin k hk
    exact (hs.own p (hT p hp)).1.imp (fun h => List.mem_append_left _ h) id
  · rcases List.mem_append.1 hp with hp | hp
    · obtain ⟨h1, h2⟩ := hL p hp
      rcases h1 with h1 | h1
      · obtain ⟨q, hq, e⟩ := hin _ h1
        obtain ⟨g1, g2, _⟩ := hs.own q (hT q hq)
        rw [e] at g1 g2
        exact ⟨g1, g2, h2⟩
      · exact ⟨.inr (by omega), fun hx => (by have := hs.xlt _ hx; omega), h2⟩
    · obtain ⟨g1, g2, g3⟩ := hs.own p (List.mem_append_right _ hp)
      refine ⟨g1, g2, ?_⟩
      rw [hk.block _ (Jx g3) (fun h => by obtain ⟨q, hq, e⟩ := hin _ h; exact hd3 q hq p hp e)]
      exact g3
  · refine List.pairwise_append.2 ⟨hd, hd2, fun p hp q hq => ?_⟩
    rcases (hL p hp).1 with h1 | h1
    · obtain ⟨u, hu, e⟩ := hin _ h1
      rw [← e]; exact hd3 u hu q hq
    · have := Jx (hs.own q (List.mem_append_right _ hq)).2.2
      omega
  · obtain ⟨xs, e1, e2⟩ := hs.x
    refine ⟨xs, fun k hkx => ?_, fun w2 hw2 => e2 w2 fun k hkx => (hw2 k hkx).trans (hk.block k (e1 k hkx).2.1 (fun h => by obtain ⟨q, hq, e⟩ := hin _ h; exact (e1 k hkx).2.2 q (hT q hq) e))⟩
    obtain ⟨a1, a2, a3⟩ := e1 k hkx
    refine ⟨a1, Nat.lt_of_lt_of_le a2 hk.size, fun p hp => ?_⟩
    rcases List.mem_append.1 hp with hp | hp
    · rcases (hL p hp).1 with h1 | h1
      · obtain ⟨u, hu, e⟩ := hin _ h1
        rw [← e]; exact a3 u (hT u hu)
      · omega
    · exact a3 p (List.mem_append_right _ hp)
theorem Vu {α : Type} {T L0 Rl : Jo} {f : Operand} {args : Array Operand} {at_ : Array TypeId} {g : FuncId} {vs : List Value} {V : α → Value} {LL : α → Jo}
    (hp : L.Perm (T ++ L0)) (hg : Kk l ops ⟨some i, .call ⟨.value f, args, at_⟩, ty, ps, af, gd⟩ = some true) (hi : Nat.ble (i + 1) c.n = true) (hca : Ky l f args = some (g, vs)) (eg : Enters c.P g)
    (hpt : PureT c.P g vs.toArray V T LL Rl) (hR : ∀ p ∈ Rl, known c L0 p.1 p.2) (h : ∀ x, HL c d ((i, V x) :: l) (LL x ++ L0) X ops rest Q) : HL c d l L X ops (⟨some i, .call ⟨.value f, args, at_⟩, ty, ps, af, gd⟩ :: rest) Q :=
  Yb (V := V) (L' := fun x => LL x ++ L0) (X' := fun _ => X) hg hi hca eg (fun w hs => by
    have hs := hs.perm hp
    obtain ⟨hd1, _, hd3⟩ := List.pairwise_append.1 hs.distinct
    refine (hpt.run w (fun p hp => (hs.own p (List.mem_append_left _ hp)).2.2) (fun p hp => ?_) hd1 (fun p hp q hq => ?_)).mono fun _ _ ⟨x, he, hk, h1, h2⟩ => ⟨x, he, hs.turnT hk h1 h2⟩
    · exact (hR p hp).elim (fun h => (hs.own _ (List.mem_append_right _ h)).2.2) hs.readR
    · rcases hR p hp with h | h
      · exact fun e => hd3 q hq _ h e.symm
      · rintro e
        obtain ⟨h1, _, h3⟩ := hs.ext _ h
        have h3 := Jx h3
        rcases (hs.own q (List.mem_append_left _ hq)).1 with h4 | h4
        · exact h1 (e ▸ h4)
        · simp only at h3 e; omega) h
theorem Qd {α : Type} {Rl : Jo} {f : Operand} {args : Array Operand} {at_ : Array TypeId} {g : FuncId} {vs : List Value} {V : α → Value} {LL : α → Jo}
    (hg : Kk l ops ⟨some i, .call ⟨.value f, args, at_⟩, ty, ps, af, gd⟩ = some true) (hi : Nat.ble (i + 1) c.n = true) (hca : Ky l f args = some (g, vs)) (eg : Enters c.P g)
    (hpt : PureT c.P g vs.toArray V [] LL Rl) (hR : ∀ p ∈ Rl, known c L p.1 p.2) (h : ∀ x, HL c d ((i, V x) :: l) (LL x ++ L) X ops rest Q) : HL c d l L X ops (⟨some i, .call ⟨.value f, args, at_⟩, ty, ps, af, gd⟩ :: rest) Q :=
  Vu (T := []) (L0 := L) (List.Perm.refl _) hg hi hca eg hpt hR h
theorem PureR.toT {P : Program} {f : FuncId} {args : Array Value} {v : Value} {Rl : Jo} (h : PureR P f args v Rl) : PureT (α := Unit) P f args (fun _ => v) [] (fun _ => []) Rl :=
  ⟨fun w _ hR _ _ => (h.run w hR).mono fun _ _ ⟨he, hk⟩ => ⟨(), he, hk, by simp, List.Pairwise.nil⟩⟩
theorem PureT.map {α β : Type} {P : Program} {f : FuncId} {args : Array Value} {V : α → Value} {V' : β → Value} {T Rl : Jo} {LL : α → Jo} {LL' : β → Jo} (h : PureT P f args V T LL Rl) (g : α → β) (hv : ∀ x, V x = V' (g x)) (hl : ∀ x, (LL' (g x)).Sublist (LL x)) : PureT P f args V' T LL' Rl :=
  ⟨fun w hT hR hd hne => (h.run w hT hR hd hne).mono fun _ _ ⟨x, he, hk, h1, h2⟩ => ⟨g x, he.trans (by rw [hv]), hk, fun p hp => h1 p ((hl x).subset hp), h2.sublist (hl x)⟩⟩
theorem Jc9 {P : Program} (w : World) (dT sT ty e : TypeId) (inf : TypeInfo) (hu : P.underlying dT = some (.slice e)) (hi : P.info? e = some inf) {r off dl dc r2 off2 sl sc n : Nat} {cs : Array Value} {e1 : TypeId} {vs : List Value}
    (hn : Nat.min sl dl = n) (hb : w.heap[r]? = some (.cells cs e1 (0, 0))) (hl : vs.length = n * inf.size) (hsrc : ∀ j v, vs[j]? = some v → w.cell? ((⟨r2, off2, none⟩ : Addr).add j) = some v) (hfit : off + n * inf.size ≤ cs.size) (h1 : ∀ v ∈ vs, v.oneCell' = true) :
    (Builtin.copy_ #[dT, sT] ty #[.slice (some ⟨r, off, none⟩) dl dc, .slice (some ⟨r2, off2, none⟩) sl sc]).run P w = .ok (.int .i64 n) (w.setRow r (cs.toList.take off ++ vs ++ cs.toList.drop (off + n * inf.size)).toArray) := by
  have hl1 := run_loadCells_list (P := P) w ⟨r2, off2, none⟩ vs hsrc
  rw [hl] at hl1
  have hst := run_storeCells_at (P := P) r off e1 vs 0 cs w hb (by rw [Nat.add_zero, hl]; exact hfit) h1
  rw [Nat.add_zero, hl] at hst
  have hn' : min sl dl = n := hn
  simp [Builtin.copy_, run_underlying hu, Builtin.lenOf, Builtin.firstCells, sizeOf, typeInfo, hi, hn', hl1, hst, Result.andThen, goInt]
theorem XR {x y : Operand} {e sz k r off dl dc r2 off2 sl sc n : Nat} {cs cs2 : Array Value} {e1 e2 : TypeId} {fr2 : Nat × Nat} {vs cs' : List Value} {L' : Jo}
    (hg : Kk l ops ⟨some i, .call ⟨.builtin .copy, #[x, y], #[t, t2]⟩, ty, ps, af, gd⟩ = some true) (hi : Nat.ble (i + 1) c.n = true)
    (hx : Kg l x = some (.slice (some ⟨r, off, none⟩) dl dc)) (hy : Kg l y = some (.slice (some ⟨r2, off2, none⟩) sl sc)) (hk : L[k]? = some (r, .cells cs e1 (0, 0))) (hk2 : known c L r2 (.cells cs2 e2 fr2))
    (ht : Kl c.P t = some e) (hs : KI c.P e = some sz) (hn : Nat.min sl dl = n) (hvs : (cs2.toList.drop off2).take (n * sz) = vs) (hl : vs.length = n * sz) (hone : vs.all QW = true) (hfit : off + n * sz ≤ cs.size)
    (hcs : cs.toList.take off ++ vs ++ cs.toList.drop (off + n * sz) = cs') (hL : L.set k (r, .cells cs'.toArray e1 (0, 0)) = L')
    (h : HL c d ((i, .int .i64 n) :: l) L' X ops rest Q) : HL c d l L X ops (⟨some i, .call ⟨.builtin .copy, #[x, y], #[t, t2]⟩, ty, ps, af, gd⟩ :: rest) Q := by
  obtain ⟨inf, hinf, hs'⟩ : ∃ inf, c.P.info? e = some inf ∧ inf.size = sz := by
    unfold KI at hs
    cases hq : c.P.info? e with
    | none => simp [hq] at hs
    | some inf => simp only [hq, Option.some.injEq] at hs; exact ⟨inf, rfl, hs⟩
  subst hs'
  refine Jli (v := .int .i64 n) (L' := L') hg rfl rfl hi (fun a w hf hst => ⟨w.setRow r cs'.toArray, ?_, ?_⟩) h
  · have hr := Jc9 (P := c.P) w t t2 ty e inf (Ka ht) hinf (dc := dc) (sc := sc) hn (hst.get hk) hl (Xs (hst.known hk2) hvs) hfit (fun u hu => by rw [XH]; exact List.all_eq_true.1 hone u hu)
    rw [hcs] at hr
    have ex := hf.eval hx
    have ey := hf.eval hy
    simp [execOp, resolve, Sem.run_bind, ex, ey, Result.andThen, invoke, builtin, hr]
  · subst hL
    exact hst.set hk (Keep.setRow r cs'.toArray) (setRow_heap _ _ _ _ _ _ (hst.get hk))
theorem Jfw (z : Array Value) (n : Nat) : (Builtin.zeroCells z n).toList = (List.range (n * z.size)).map (fun i => z.toList.getD (i % z.size) default) := by
  unfold Builtin.zeroCells
  simp
  intro a _
  rw [getElem!_def]
  cases z[a % z.size]? <;> rfl
theorem Jsr {o : Oper} {L' : Jo} (hg : Kk l ops o = some true) (hn : Kp o.op = true) (hd : o.dst = none)
    (hr : ∀ a w, Fr c.n d l a → St c L X w → ∃ w', (execOp a.eval o).run c.P w = .ok (.value v) w' ∧ St c L' X w') (h : HL c d l L' X ops rest Q) : HL c d l L X ops (o :: rest) Q := fun a w hf hs => by
  obtain ⟨w', h1, h2⟩ := hr a w hf hs
  refine QQ (JE hf hg) hn ?_
  rw [h1, Oper.uponIn_value, hd]
  exact h a w' hf h2
theorem Jj2 {x : Operand} {e sz k r off n cap : Nat} {z : Value} {cs : Array Value} {e1 : TypeId} {cs' : List Value} {L' : Jo}
    (hg : Kk l ops ⟨none, .call ⟨.builtin .clear, #[x], #[t]⟩, ty, ps, af, gd⟩ = some true)
    (hx : Kg l x = some (.slice (some ⟨r, off, none⟩) n cap)) (hk : L[k]? = some (r, .cells cs e1 (0, 0))) (ht : Kl c.P t = some e) (hz : QJ c.P e = some z) (hs : z.cells.size = sz) (hone : z.cells.toList.all QW = true) (hsz : 0 < sz) (hfit : off + n * sz ≤ cs.size)
    (hcs : cs.toList.take off ++ (Builtin.zeroCells z.cells n).toList ++ cs.toList.drop (off + n * sz) = cs') (hL : L.set k (r, .cells cs'.toArray e1 (0, 0)) = L')
    (h : HL c d l L' X ops rest Q) : HL c d l L X ops (⟨none, .call ⟨.builtin .clear, #[x], #[t]⟩, ty, ps, af, gd⟩ :: rest) Q := by
  have hlen : (Builtin.zeroCells z.cells n).toList.length = n * sz := by rw [Array.length_toList, size_zeroCells, hs]
  have hone' : ∀ u ∈ (Builtin.zeroCells z.cells n).toList, u.oneCell' = true := fun u hu => by
    rw [Jfw] at hu
    obtain ⟨j, hj, rfl⟩ := List.mem_map.1 hu
    rw [XH]
    have hj2 : j % z.cells.size < z.cells.toList.length := by rw [Array.length_toList]; exact Nat.mod_lt _ (by omega)
    rw [List.getD_eq_getElem?_getD, List.getElem?_eq_getElem hj2]
    exact List.all_eq_true.1 hone _ (List.getElem_mem _)
  refine Jsr (v := .tuple #[]) (L' := L') hg rfl rfl (fun a w hf hst => ?_) h
  have ex := hf.eval hx
  have hst2 := run_storeCells_at (P := c.P) r off e1 (Builtin.zeroCells z.cells n).toList 0 cs w (hst.get hk) (by rw [Nat.add_zero, hlen]; exact hfit) hone'
  rw [Nat.add_zero, hlen, hcs] at hst2
  cases n with
  | zero =>
    refine ⟨w, ?_, ?_⟩
    · simp [execOp, resolve, Sem.run_bind, ex, Result.andThen, invoke, builtin, Builtin.clear_, Qh (Ka ht)]
    · have : cs' = cs.toList := by
        rw [← hcs]
        have : (Builtin.zeroCells z.cells 0).toList = [] := List.length_eq_zero_iff.1 (by rw [hlen, Nat.zero_mul])
        rw [this, List.append_nil, Nat.zero_mul, Nat.add_zero, List.take_append_drop]
      rw [this] at hL
      have e2 : L.set k (r, .cells cs.toList.toArray e1 (0, 0)) = L := by
        obtain ⟨h1, h2⟩ := List.getElem?_eq_some_iff.1 hk
        rw [Array.toArray_toList, ← h2, List.set_getElem_self]
      rw [e2] at hL
      exact hL ▸ hst
  | succ n =>
    refine ⟨w.setRow r cs'.toArray, ?_, hL ▸ hst.set hk (Keep.setRow r cs'.toArray) (setRow_heap _ _ _ _ _ _ (hst.get hk))⟩
    simp [execOp, resolve, Sem.run_bind, ex, Result.andThen, invoke, builtin, Builtin.clear_, Qh (Ka ht), Xp hz, hst2]
theorem wP {x y : Operand} {e tn sz b r off n cap m : Nat} {kk : IntKind} {z : Value} {cs : Array Value} {e1 : TypeId} {fr : Nat × Nat} {xs : List Value} {kn : IntKind}
    (hg : Kk l ops ⟨some i, .call ⟨.builtin .append, #[x, y], #[t, tn]⟩, ty, ps, af, gd⟩ = some true) (hi : Nat.ble (i + 1) c.n = true)
    (hx : Kg l x = some (.slice (some ⟨r, off, none⟩) n cap)) (hy : Kg l y = some (.int kk (m : Int))) (hk : known c L r (.cells cs e1 fr)) (ht : Kl c.P t = some e) (htn : c.P.underlying tn = some (.int kn)) (hz : QJ c.P e = some z) (hs : KI c.P e = some sz) (hb : Jbz c.P e = some b) (hzs : z.cells.size = sz) (hsz : 0 < sz)
    (hxs : (cs.toList.drop off).take (n * sz) = xs) (hl : xs.length = n * sz) (hm : 0 < m) (hno : cap < n + m) (hcap : n ≤ cap) (h63 : n + m ≤ 9223372036854775807) (h47 : (n + m) * b ≤ 140737488355328)
    (h : ∀ r' cap' (Z spare : List Value), Z.length = m * sz → (n + m) * sz + spare.length = cap' * sz → HL c d ((i, .slice (some ⟨r', 0, none⟩) (n + m) cap') :: l) ((r', .cells (xs ++ Z ++ spare).toArray e (0, 0)) :: L) X ops rest Q) :
    HL c d l L X ops (⟨some i, .call ⟨.builtin .append, #[x, y], #[t, tn]⟩, ty, ps, af, gd⟩ :: rest) Q := by
  obtain ⟨inf, hinf, hz', hs', hb'⟩ := vG hz hs hb
  subst hs' hb'
  refine Wh (α := { p : Nat × Nat × List Value // (n + m) * inf.size + p.2.2.length = p.2.1 * inf.size }) (V := fun p => .slice (some ⟨p.1.1, 0, none⟩) (n + m) p.1.2.1)
    (L' := fun p => (p.1.1, .cells (xs ++ (Builtin.zeroCells z.cells m).toList ++ p.1.2.2).toArray e (0, 0)) :: L) (X' := fun _ => X) hg rfl rfl hi (fun a w hf hst => ?_) (fun p => h p.1.1 p.1.2.1 _ p.1.2.2 (by rw [Array.length_toList, size_zeroCells, hzs]) p.2)
  have ex := hf.eval hx
  have ey := hf.eval hy
  have hold : (Builtin.firstCells inf.size n (.slice (some ⟨r, off, none⟩) n cap)).run c.P w.drew = .ok xs.toArray w.drew :=
    run_firstCells_some (P := c.P) w.drew inf.size n ⟨r, off, none⟩ n cap xs hl (fun j u hj => Xs (hst.drew.known hk) hxs j u hj)
  have hmb : m * inf.bytes ≤ 281474976710656 := Nat.le_trans (Nat.mul_le_mul_right _ (Nat.le_add_left m n)) (by omega)
  have hr := Lib.run_append_grow_zeros (P := c.P) w t tn ty e inf z kk kn (Ka ht) htn hinf hz' (some ⟨r, off, none⟩) n cap xs hold m hm hsz hno (by omega) hmb (growslice_fits (by omega) h47)
  have hge := grownCap_ge w (n + m) cap e
  have e1 : (xs.toArray ++ Builtin.zeroCells z.cells m ++ Builtin.zeroCells z.cells (grownCap w (n + m) cap e - (n + m))) = (xs ++ (Builtin.zeroCells z.cells m).toList ++ (Builtin.zeroCells z.cells (grownCap w (n + m) cap e - (n + m))).toList).toArray := by
    apply Array.toList_inj.1; simp
  refine ⟨⟨(w.heap.size, grownCap w (n + m) cap e, (Builtin.zeroCells z.cells (grownCap w (n + m) cap e - (n + m))).toList), ?_⟩, w.drew.alloc (.cells (xs ++ (Builtin.zeroCells z.cells m).toList ++ (Builtin.zeroCells z.cells (grownCap w (n + m) cap e - (n + m))).toList).toArray e (0, 0)), ?_, hst.drew.alloc _⟩
  · simp only
    rw [Array.length_toList, size_zeroCells, hzs, ← Nat.add_mul]
    congr 1; omega
  · rw [e1] at hr
    simp [execOp, resolve, Sem.run_bind, ex, ey, Result.andThen, invoke, builtin, hr]
theorem Jfx {x y f : Operand} {e sz r1 r2 o1 o2 n1 c1 n2 c2 : Nat} {fn : Func} {g : FuncId} {at_ : Array TypeId} {cs1 cs2 : Array Value} {e1 e2 tR : TypeId}
    (hf : Kg l f = some (.func (.func g) #[] #[])) (hx : Kg l x = some (.slice (some ⟨r1, o1, none⟩) n1 c1)) (hy : Kg l y = some (.slice (some ⟨r2, o2, none⟩) n2 c2)) (hne : r1 ≠ r2) (hk1 : known c L r1 (.cells cs1 e1 (0, 0))) (hk2 : known c L r2 (.cells cs2 e2 (0, 0)))
    (ht : Kl c.P t = some e) (hs : KI c.P e = some sz) (h0 : 0 < cs2.size) (hF : c.P.funcs[g]? = some fn) (hn1 : (fn.name == "runtime.NumGoroutine") = false) (hb : fn.body.isNone = true) (hn2 : Extern.findNext fn = none) (he : Extern.find fn = some (Extern.SlicesOverlaps.overlaps #[t, t] #[tR])) :
    J5 c d l L X ⟨some i, .call ⟨.value f, #[x, y], at_⟩, ty, ps, af, gd⟩ (.bool false) := fun a w hfr hst => by
  have ef := hfr.eval hf
  have ex := hfr.eval hx
  have ey := hfr.eval hy
  have h1 := hst.known hk1
  have h2 := hst.known hk2
  have hov := Lib.run_overlaps_apart (P := c.P) w t tR e (Ka ht) sz (fun w => V2 hs w) ⟨r1, o1, none⟩ ⟨r2, o2, none⟩ n1 c1 n2 c2 hne e1 e2 cs1.size cs2.size (by simp [World.shape?, h1]) (by simp [World.shape?, h2]) (by omega) (by simp [World.frozen?, h1]) (by simp [World.frozen?, h1])
  have hcf : (callFunc g #[.slice (some ⟨r1, o1, none⟩) n1 c1, .slice (some ⟨r2, o2, none⟩) n2 c2]).run c.P w = .ok (.value (.bool false)) w := by
    rw [run_callFunc_extern hF hn1 hb hn2 he, hov]; rfl
  simp [execOp, resolve, Sem.run_bind, ef, ex, ey, Deferred.ofValue, Result.andThen, invoke, hcf]
end
open Go Go.RowKit Go.Shelf Go.ChangeShapes Go.WideShapes
section
variable {H : Type} {enc : TypeId × Value → H} {P : Program} {w : World} {base : Nat} {sp : Nat → Bool} {held : Bool}
theorem zG {a : Addr} {m : Nat} {cs : List Value} (h : w.cells? base a m = some cs) : cs.length = m ∧ ∀ i, i < m → w.cell? (a.add i) = cs[i]? := by
  unfold World.cells? at h
  split at h
  · exact ⟨by simpa using mapM_some_length h, fun i hi => mapM_some_get h i i (by simp [hi])⟩
  · cases h
theorem Jfy {a : Addr} {v : Value} (h : w.cell? a = some v) : a.spot = none ∧ ∃ all e fr, w.heap[a.block]? = some (.cells all e fr) ∧ all[a.off]? = some v := by
  unfold World.cell? at h
  split at h
  · rename_i c e fr hc
    split at h
    · cases h
    · rename_i hs
      exact ⟨by simpa using hs, c, e, fr, hc, h⟩
  · cases h
theorem Jfz {b o m : Nat} {cs : List Value} {all : Array Value} {e : TypeId} {fr : Nat × Nat} (h : w.cells? base ⟨b, o, none⟩ m = some cs) (hb : w.heap[b]? = some (.cells all e fr)) : (all.toList.drop o).take m = cs := by
  obtain ⟨hl, hg⟩ := zG h
  apply List.ext_getElem?
  intro i
  rw [List.getElem?_take]
  split
  · rename_i hi
    rw [← hg i hi, Xq, List.getElem?_drop, Array.getElem?_toList]
    simp only [World.cell?, hb]
    rfl
  · rename_i hi
    rw [List.getElem?_eq_none (by omega)]
theorem Jda {α : Type} {f : α → List Value} {m b : Nat} {all : Array Value} {e : TypeId} {fr : Nat × Nat} (hb : w.heap[b]? = some (.cells all e fr)) :
    ∀ (l : List α) (o : Nat), (∀ i x, l[i]? = some x → w.cells? base ⟨b, o + i * m, none⟩ m = some (f x)) → (all.toList.drop o).take (l.length * m) = l.flatMap f
  | [], o, _ => by simp
  | y :: l, o, h => by
    have h0 := Jfz (h 0 y rfl) hb
    have hr := Jda hb l (o + m) (fun i x hx => by
      have := h (i + 1) x hx
      rwa [Nat.succ_mul, Nat.add_comm (i * m) m, ← Nat.add_assoc] at this)
    rw [Nat.zero_mul, Nat.add_zero] at h0
    rw [List.length_cons, Nat.succ_mul, Nat.add_comm, List.take_add, h0, List.drop_drop, hr, List.flatMap_cons]
theorem Jao {α : Type} {f : α → List Value} {m : Nat} (hm : 0 < m) (hf : ∀ x, (f x).length = m) {l : List α} {a : Addr} {cap : Nat} (hle : l.length ≤ cap) (h : ∀ i x, l[i]? = some x → w.cells? base (a.add (i * m)) m = some (f x)) :
    Seg (Jff w) l.length (l.flatMap f) (some (a, cap)) := by
  refine ⟨hle, fun h0 => ?_⟩
  obtain ⟨y, hy⟩ : ∃ y, l[0]? = some y := ⟨_, List.getElem?_eq_getElem h0⟩
  have h1 := h 0 y hy
  rw [Nat.zero_mul] at h1
  have e0 : a.add 0 = a := by simp [Addr.add]
  rw [e0] at h1
  obtain ⟨hl, hg⟩ := zG h1
  have h2 := hg 0 hm
  rw [e0] at h2
  obtain ⟨v, hv⟩ : ∃ v, (f y)[0]? = some v := ⟨_, List.getElem?_eq_getElem (by omega)⟩
  rw [hv] at h2
  obtain ⟨hs, all, e, fr, hb, _⟩ := Jfy h2
  refine ⟨hs, all, e, fr, Jmg hb, ?_⟩
  rw [KT hf]
  refine Jda (base := base) hb l a.off fun i x hx => ?_
  have := h i x hx
  have e1 : a.add (i * m) = ⟨a.block, a.off + i * m, none⟩ := by
    obtain ⟨b, o, s⟩ := a
    have : s = none := hs
    subst this
    exact Xq _ _ _
  rwa [e1] at this
theorem vf {α : Type} {Q : Nat → α → Prop} : ∀ (n : Nat), (∀ i, i < n → ∃ x, Q i x) → ∃ l : List α, l.length = n ∧ ∀ i x, l[i]? = some x → Q i x
  | 0, _ => ⟨[], rfl, fun i x h => by simp at h⟩
  | n + 1, h => by
    obtain ⟨l, hl, hq⟩ := vf n (fun i hi => h i (by omega))
    obtain ⟨x, hx⟩ := h n (by omega)
    refine ⟨l ++ [x], by simp [hl], fun i y hy => ?_⟩
    rw [List.getElem?_append] at hy
    split at hy
    · exact hq i y hy
    · rename_i hi
      have hn : i = n := by
        have := (List.getElem?_eq_some_iff.1 hy).1
        simp at this; omega
      subst hn
      rw [hl, Nat.sub_self] at hy
      obtain rfl : x = y := by simpa using hy
      exact hx
theorem vg {α : Type} {f : α → List Value} {ok : α → Prop} {m t e fuel : Nat} {cs : List Value} {x : DataW H × List MemPlace} (hm : 0 < m) (hf : ∀ x, (f x).length = m) (ht : P.underlying t = some (.slice e)) (hc : P.cellsOf e = m)
    (hE : ∀ n, n < fuel → ∀ cs x, DataW.trod enc P w base sp held n e cs = some x → ∃ y, cs = f y ∧ ok y)
    (h : DataW.trod enc P w base sp held fuel t cs = some x) : ∃ (l : List α) (p : Pl), cs = [KP l.length p] ∧ Seg (Jff w) l.length (l.flatMap f) p ∧ l.length ≤ 9223372036854775807 ∧ ∀ y ∈ l, ok y := by
  rcases DataW.trod_slice ht h with ⟨rfl, _⟩ | ⟨a, len, cap, elems, rest, n, hn, rfl, _, _, hlc, hcm, hlen, hel, _⟩
  · exact ⟨[], none, rfl, rfl, by simp, fun y hy => by simp at hy⟩
  · have hex : ∀ i, i < len → ∃ y, w.cells? base (a.add (i * m)) m = some (f y) ∧ ok y := by
      intro i hi
      have h1 := hel i hi
      rw [hc] at h1
      obtain ⟨z, hz⟩ : ∃ z, elems[i]? = some z := ⟨_, List.getElem?_eq_getElem (by omega)⟩
      rw [hz, Option.bind_eq_some_iff] at h1
      obtain ⟨cs1, h2, h3⟩ := h1
      obtain ⟨y, rfl, hy⟩ := hE n (by omega) _ _ h3
      exact ⟨y, h2, hy⟩
    obtain ⟨l, rfl, hq⟩ := vf len hex
    have hcap : cap ≤ 9223372036854775807 := by simpa [maxLen] using hcm
    refine ⟨l, some (a, cap), rfl, Jao hm hf hlc (fun i y hy => (hq i y hy).1), by omega, fun y hy => ?_⟩
    obtain ⟨i, hi, rfl⟩ := List.mem_iff_getElem.1 hy
    exact (hq i _ (List.getElem?_eq_getElem hi)).2
theorem V9 {t tf off m fuel i : Nat} {fs : Array Field} {cs : List Value} {x : DataW H × List MemPlace} (ht : P.underlying t = some (.struct fs)) (hi : (fs[i]?).map (fun f => (f.type, f.offset)) = some (tf, off)) (hm : P.cellsOf tf = m)
    (h : DataW.trod enc P w base sp held fuel t cs = some x) : ∃ n y, n < fuel ∧ DataW.trod enc P w base sp held n tf ((cs.drop off).take m) = some y := by
  obtain ⟨xs, n, rfl, _, _, hl, hg⟩ := DataW.trod_struct ht h
  obtain ⟨f, hf, he⟩ := Option.map_eq_some_iff.1 hi
  obtain ⟨rfl, rfl⟩ := Prod.mk.inj he
  have hi2 : i < xs.length := by rw [hl]; exact (Array.getElem?_eq_some_iff.1 hf).1
  subst hm
  exact ⟨n, xs[i], by omega, by rw [hg i f hf]; exact List.getElem?_eq_getElem hi2⟩
theorem qA {t m fuel : Nat} {fs : Array Field} {cs : List Value} {x : DataW H × List MemPlace} (ht : P.underlying t = some (.struct fs)) (hm : P.cellsOf t = m) (h : DataW.trod enc P w base sp held fuel t cs = some x) : cs.length = m := by
  obtain ⟨xs, n, rfl, _, hl, _, _⟩ := DataW.trod_struct ht h
  rw [hl, hm]
theorem Jnr {t fuel : Nat} {cs : List Value} {x : DataW H × List MemPlace} (ht : P.underlying t = some (.int .u64)) (h : DataW.trod enc P w base sp held fuel t cs = some x) : ∃ n : Nat, cs = [uV n] ∧ XD n := by
  obtain ⟨n, rfl, _, hw⟩ := DataW.trod_int ht h
  have := bounds_u64 hw
  exact ⟨n.toNat, by unfold uV; congr 2; omega, by unfold XD; omega⟩
theorem Jss {t e fuel : Nat} {cs : List Value} {x : DataW H × List MemPlace} (ht : P.underlying t = some (.array 4 e)) (hc : P.cellsOf t = 4) (he : P.cellsOf e = 1) (hu : P.underlying e = some (.int .u64)) (h : DataW.trod enc P w base sp held fuel t cs = some x) :
    ∃ a b c d : Nat, cs = [uV a, uV b, uV c, uV d] ∧ XD a ∧ XD b ∧ XD c ∧ XD d := by
  cases fuel with
  | zero => simp [DataW.trod] at h
  | succ fuel =>
    obtain ⟨hl, xs, h1, _⟩ := (Jmd ht hc he).1 h
    obtain ⟨zs, rfl, _, hz⟩ := zr (V := uV) (D := fun n : Nat => .lit (.int .u64 (n : Int))) (ok := XD) (fun c x hx => by
      obtain ⟨n, h2, h3, h4⟩ := DataW.trod_int hu hx
      have h5 := bounds_u64 h4
      refine ⟨n.toNat, ?_, ?_, by unfold XD; omega⟩
      · rw [List.singleton_inj.1 h2]; unfold uV; congr 1; omega
      · rw [h3]; congr 3; omega) _ _ h1
    rw [List.length_map] at hl
    match zs, hl, hz with
    | [a, b, c, d], _, hz => exact ⟨a, b, c, d, rfl, hz a (by simp), hz b (by simp), hz c (by simp), hz d (by simp)⟩
theorem Jdb {t : Nat} {fs : Array Field} {r : Reach} {b0 : Nat} {v : Value} (ht : P.underlying t = some (.struct fs)) (h : Value.okWide P w r b0 t v) {cs : List Value} (hc : v.cells.toList = cs) : v = .agg cs.toArray := by
  obtain ⟨c1, rfl, _⟩ := okWide_struct ht h
  subst hc
  simp [Value.cells]
end
abbrev J3 (s : BS) : Value := .string (bs s)
structure W4.ok (w : W4) : Prop where
  a : XD w.a
  b : XD w.b
  c : XD w.c
  d : XD w.d
theorem W4.ok.wok {w : W4} (h : w.ok) : WOk w.l := ⟨rfl, fun x hx => by
  unfold W4.l at hx
  simp only [List.mem_cons, List.not_mem_nil, or_false] at hx
  rcases hx with rfl | rfl | rfl | rfl
  · exact h.a
  · exact h.b
  · exact h.c
  · exact h.d⟩
theorem Wx : XD 0 := by unfold XD; decide
theorem Jwn : w40.ok := ⟨Wx, Wx, Wx, Wx⟩
structure Rec : Type where
  number : Nat
  time : Nat
  base : W4
  blob : W4
  overhead : W4
  scalar : Nat
  extra : Nat
  operator : Nat
deriving DecidableEq
def Jwo : Rec := ⟨0, 0, w40, w40, w40, 0, 0, 0⟩
def Rec.nats (r : Rec) : List Nat := [r.number, r.time, r.base.a, r.base.b, r.base.c, r.base.d, r.blob.a, r.blob.b, r.blob.c, r.blob.d, r.overhead.a, r.overhead.b, r.overhead.c, r.overhead.d, r.scalar, r.extra, r.operator]
def Rec.cells (r : Rec) : List Value := r.nats.map uV
def Rec.val (r : Rec) : Value := .agg r.cells.toArray
theorem Rec.len (r : Rec) : r.cells.length = 17 := rfl
theorem Rec.one (r : Rec) : r.cells.all QW = true := rfl
structure Rec.ok (r : Rec) : Prop where
  number : XD r.number
  time : XD r.time
  base : r.base.ok
  blob : r.blob.ok
  overhead : r.overhead.ok
  scalar : XD r.scalar
  extra : XD r.extra
  operator : XD r.operator
def QY (x : BS × BS) : List Value := [J3 x.1, J3 x.2]
theorem Kn (x : BS × BS) : (QY x).length = 2 := rfl
theorem jO (x : BS × BS) : (QY x).all QW = true := rfl
def wQ (l : List (BS × BS)) : List Value := l.flatMap QY
abbrev WR : Nat := 9223372036854775807
structure AcL : Type where
  addr : BS
  nonce : Nat
  bal : W4
  code : BS
  slots : List (BS × BS)
  p : Pl
def AcL.cells (a : AcL) : List Value := [J3 a.addr, uV a.nonce, uV a.bal.a, uV a.bal.b, uV a.bal.c, uV a.bal.d, J3 a.code, KP a.slots.length a.p]
def AcL.val (a : AcL) : Value := .agg a.cells.toArray
def AcL.er (a : AcL) : AcE := ⟨a.addr, a.nonce, a.bal, a.code, a.slots⟩
theorem AcL.len (a : AcL) : a.cells.length = 8 := rfl
theorem AcL.one (a : AcL) : a.cells.all QW = true := rfl
structure AcL.In (R : Jo) (a : AcL) : Prop where
  addr : a.addr.length ≤ WR
  nonce : XD a.nonce
  bal : a.bal.ok
  code : a.code.length ≤ WR
  len : a.slots.length ≤ WR
  seg : Seg R a.slots.length (wQ a.slots) a.p
  slots : ∀ x ∈ a.slots, x.1.length ≤ WR ∧ x.2.length ≤ WR
theorem AcL.In.mono {R R' : Jo} {a : AcL} (h : a.In R) (hs : ∀ q ∈ R, q ∈ R') : a.In R' := ⟨h.addr, h.nonce, h.bal, h.code, h.len, h.seg.mono hs, h.slots⟩
def ac0L : AcL := ⟨[], 0, w40, [], [], none⟩
theorem Jns {R : Jo} : ac0L.In R := ⟨Nat.zero_le _, Wx, Jwn, Nat.zero_le _, Nat.zero_le _, rfl, by simp [ac0L]⟩
def jP (l : List AcL) : List Value := l.flatMap AcL.cells
structure StL : Type where
  accts : List AcL
  p : Pl
def StL.cells (s : StL) : List Value := [KP s.accts.length s.p]
def StL.val (s : StL) : Value := .agg s.cells.toArray
def StL.er (s : StL) : List AcE := s.accts.map AcL.er
theorem StL.er_len (s : StL) : s.er.length = s.accts.length := by simp [StL.er]
structure StL.In (R : Jo) (s : StL) : Prop where
  len : s.accts.length ≤ WR
  seg : Seg R s.accts.length (jP s.accts) s.p
  accts : ∀ a ∈ s.accts, a.In R
theorem StL.In.mono {R R' : Jo} {s : StL} (h : s.In R) (hs : ∀ q ∈ R, q ∈ R') : s.In R' := ⟨h.len, h.seg.mono hs, fun a ha => (h.accts a ha).mono hs⟩
def st0L : StL := ⟨[], none⟩
theorem qB {R : Jo} : st0L.In R := ⟨Nat.zero_le _, rfl, by simp [st0L]⟩
theorem Jnt {α : Type} {f : α → List Value} {m : Nat} (hf : ∀ x, (f x).length = m) {l : List α} {j k : Nat} {x : α} {v : Value} (h : l[j]? = some x) (hk : (f x)[k]? = some v) : (l.flatMap f)[j * m + k]? = some v := by
  have h1 := XL hf h
  have hlt : k < m := by have := (List.getElem?_eq_some_iff.1 hk).1; rwa [hf] at this
  rw [← h1, List.getElem?_take, if_pos hlt, List.getElem?_drop] at hk
  exact hk
section
variable {c : Cx} {l : Ko} {L : Jo} {X : XP} {d : List Deferred} {i : Nat} {t : TypeId} {ps : String} {af : Array Edge} {gd : Option (Nat × Bool)} {ty : TypeId}
theorem KL {α : Type} {f : α → List Value} {m : Nat} (hf : ∀ x, (f x).length = m) {x : Operand} {p : Pl} {R : Jo} {xs : List α} {j : Nat} {y : α} (hR : ∀ q ∈ R, known c L q.1 q.2) (hx : Kg l x = some (.pointer (some ⟨plB p, vN p + j * m, none⟩))) (hs : Seg R xs.length (xs.flatMap f) p) (hy : xs[j]? = some y) (ht : Wf c.P t = some true) (hm : KI c.P t = some m) :
    J5 c d l L X ⟨some i, .load t x, ty, ps, af, gd⟩ (.agg (f y).toArray) :=
  Xl hR hx hs (jF hy) ht hm (XL hf hy) (hf y)
theorem jQ {α : Type} {f : α → List Value} {m k : Nat} (hf : ∀ x, (f x).length = m) {x : Operand} {p : Pl} {R : Jo} {xs : List α} {j : Nat} {y : α} {v : Value} (hR : ∀ q ∈ R, known c L q.1 q.2) (hx : Kg l x = some (.pointer (some ⟨plB p, vN p + (j * m + k), none⟩))) (hs : Seg R xs.length (xs.flatMap f) p) (hy : xs[j]? = some y) (hv : (f y)[k]? = some v) (ht : Wf c.P t = some false) :
    J5 c d l L X ⟨some i, .load t x, ty, ps, af, gd⟩ v :=
  jE hR hx hs (jF hy) ht (Jnt hf hy hv)
end
section
variable {H : Type} {enc : TypeId × Value → H} {P : Program} {w : World} {base : Nat} {sp : Nat → Bool} {held : Bool}
theorem jR {t fuel : Nat} {cs : List Value} {x : DataW H × List MemPlace} (ht : P.underlying t = some .string) (h : DataW.trod enc P w base sp held fuel t cs = some x) : ∃ s : BS, cs = [J3 s] ∧ s.length ≤ WR := by
  obtain ⟨s, rfl, _, hl⟩ := DataW.trod_string ht h
  exact ⟨s.data.toList, by unfold J3; rw [bs_data], by rw [Array.length_toList]; exact hl⟩
theorem Jst {tT tS fuel : Nat} {fs : Array Field} (ht : P.underlying tT = some (.struct fs)) (hT : P.cellsOf tT = 2) (h0 : (fs[0]?).map (fun f => (f.type, f.offset)) = some (tS, 0)) (h1 : (fs[1]?).map (fun f => (f.type, f.offset)) = some (tS, 1)) (hS : P.underlying tS = some .string) (hSc : P.cellsOf tS = 1)
    {cs : List Value} {x : DataW H × List MemPlace} (h : DataW.trod enc P w base sp held fuel tT cs = some x) : ∃ y : BS × BS, cs = QY y ∧ (y.1.length ≤ WR ∧ y.2.length ≤ WR) := by
  have hl := qA ht hT h
  match cs, hl with
  | [a, b], _ =>
    obtain ⟨n0, y0, _, e0⟩ := V9 ht h0 hSc h
    obtain ⟨n1, y1, _, e1⟩ := V9 ht h1 hSc h
    obtain ⟨k, ek, hk⟩ := jR hS e0
    obtain ⟨v, ev, hv⟩ := jR hS e1
    obtain rfl : a = J3 k := by simpa using ek
    obtain rfl : b = J3 v := by simpa using ev
    exact ⟨(k, v), rfl, hk, hv⟩
theorem Jsu {tA tT tS tL tW tu tI fuel : Nat} {fs fa : Array Field} (ht : P.underlying tT = some (.struct fs)) (hT : P.cellsOf tT = 2) (h0 : (fs[0]?).map (fun f => (f.type, f.offset)) = some (tS, 0)) (h1 : (fs[1]?).map (fun f => (f.type, f.offset)) = some (tS, 1)) (hS : P.underlying tS = some .string) (hSc : P.cellsOf tS = 1)
    (ha : P.underlying tA = some (.struct fa)) (hA : P.cellsOf tA = 8) (a0 : (fa[0]?).map (fun f => (f.type, f.offset)) = some (tS, 0)) (a1 : (fa[1]?).map (fun f => (f.type, f.offset)) = some (tI, 1)) (a2 : (fa[2]?).map (fun f => (f.type, f.offset)) = some (tW, 2)) (a3 : (fa[3]?).map (fun f => (f.type, f.offset)) = some (tS, 6)) (a4 : (fa[4]?).map (fun f => (f.type, f.offset)) = some (tL, 7))
    (hI : P.underlying tI = some (.int .u64)) (hIc : P.cellsOf tI = 1) (hW : P.underlying tW = some (.array 4 tu)) (hWc : P.cellsOf tW = 4) (hu : P.underlying tu = some (.int .u64)) (huc : P.cellsOf tu = 1) (hL : P.underlying tL = some (.slice tT)) (hLc : P.cellsOf tL = 1)
    {cs : List Value} {x : DataW H × List MemPlace} (h : DataW.trod enc P w base sp held fuel tA cs = some x) : ∃ a : AcL, cs = a.cells ∧ a.In (Jff w) := by
  have hl := qA ha hA h
  match cs, hl with
  | [c0, c1, c2, c3, c4, c5, c6, c7], _ =>
    obtain ⟨n0, y0, _, e0⟩ := V9 ha a0 hSc h
    obtain ⟨n1, y1, _, e1⟩ := V9 ha a1 hIc h
    obtain ⟨n2, y2, _, e2⟩ := V9 ha a2 hWc h
    obtain ⟨n3, y3, _, e3⟩ := V9 ha a3 hSc h
    obtain ⟨n4, y4, _, e4⟩ := V9 ha a4 hLc h
    obtain ⟨s, es, hs⟩ := jR hS e0
    obtain ⟨n, en, hn⟩ := Jnr hI e1
    obtain ⟨w0, w1, w2, w3, ew, k0, k1, k2, k3⟩ := Jss hW hWc huc hu e2
    obtain ⟨cd, ec, hc⟩ := jR hS e3
    obtain ⟨l, p, ep, hsg, hlen, hok⟩ := vg (f := QY) (ok := fun y => y.1.length ≤ WR ∧ y.2.length ≤ WR) (by decide) Kn hL hT (fun m hm cs x hx => Jst ht hT h0 h1 hS hSc hx) e4
    obtain rfl : c0 = J3 s := by simpa using es
    obtain rfl : c1 = uV n := by simpa using en
    obtain ⟨rfl, rfl, rfl, rfl⟩ : c2 = uV w0 ∧ c3 = uV w1 ∧ c4 = uV w2 ∧ c5 = uV w3 := by simpa using ew
    obtain rfl : c6 = J3 cd := by simpa using ec
    obtain rfl : c7 = KP l.length p := by simpa using ep
    exact ⟨⟨s, n, ⟨w0, w1, w2, w3⟩, cd, l, p⟩, rfl, ⟨hs, hn, ⟨k0, k1, k2, k3⟩, hc, hlen, hsg, hok⟩⟩
theorem open_st {tP tX tA tT tS tL tW tu tI : Nat} {fs fa fp : Array Field} (ht : P.underlying tT = some (.struct fs)) (hT : P.cellsOf tT = 2) (h0 : (fs[0]?).map (fun f => (f.type, f.offset)) = some (tS, 0)) (h1 : (fs[1]?).map (fun f => (f.type, f.offset)) = some (tS, 1)) (hS : P.underlying tS = some .string) (hSc : P.cellsOf tS = 1)
    (ha : P.underlying tA = some (.struct fa)) (hA : P.cellsOf tA = 8) (a0 : (fa[0]?).map (fun f => (f.type, f.offset)) = some (tS, 0)) (a1 : (fa[1]?).map (fun f => (f.type, f.offset)) = some (tI, 1)) (a2 : (fa[2]?).map (fun f => (f.type, f.offset)) = some (tW, 2)) (a3 : (fa[3]?).map (fun f => (f.type, f.offset)) = some (tS, 6)) (a4 : (fa[4]?).map (fun f => (f.type, f.offset)) = some (tL, 7))
    (hI : P.underlying tI = some (.int .u64)) (hIc : P.cellsOf tI = 1) (hW : P.underlying tW = some (.array 4 tu)) (hWc : P.cellsOf tW = 4) (hu : P.underlying tu = some (.int .u64)) (huc : P.cellsOf tu = 1) (hL : P.underlying tL = some (.slice tT)) (hLc : P.cellsOf tL = 1)
    (hp : P.underlying tP = some (.struct fp)) (hPc : P.cellsOf tP = 1) (p0 : (fp[0]?).map (fun f => (f.type, f.offset)) = some (tX, 0)) (hX : P.underlying tX = some (.slice tA)) (hXc : P.cellsOf tX = 1)
    {r : Reach} {b0 : Nat} {v : Value} {d : DataW H} {ps : List MemPlace} (hval : Value.okWide P w r b0 tP v) (hd : DataW.Trod enc P w base sp held tP v d ps) : ∃ s : StL, v = s.val ∧ s.In (Jff w) := by
  obtain ⟨fuel, h⟩ := hd
  have hl := qA hp hPc h
  generalize hcs : v.cells.toList = cs at h hl
  match cs, hl with
  | [c0], _ =>
    obtain ⟨n0, y0, _, e0⟩ := V9 hp p0 hXc h
    obtain ⟨l, p, ep, hsg, hlen, hok⟩ := vg (f := AcL.cells) (ok := AcL.In (Jff w)) (by decide) AcL.len hX hA (fun m hm cs x hx => Jsu ht hT h0 h1 hS hSc ha hA a0 a1 a2 a3 a4 hI hIc hW hWc hu huc hL hLc hx) e0
    obtain rfl : c0 = KP l.length p := by simpa using ep
    exact ⟨⟨l, p⟩, Jdb hp hval hcs, ⟨hlen, hsg, hok⟩⟩
end
theorem Jwp {l : List Nat} (hl : WOk l) : jg (XJ l 32) = l := by
  have : jg (XJ l 32) = jb (dg l) 32 := q5 fun i hi => by
    have h := Y4 l (n := 32) (m := 31 - i) (by omega)
    have e : 32 - 1 - (31 - i) = i := by omega
    rw [e] at h
    rw [List.getD_eq_getElem?_getD, h, Option.getD_some, UInt8.toNat_ofNat', Nat.mod_eq_of_lt (zp l i)]
  rw [this, Jg4 hl]
def bW (w : W4) : BS := XJ w.l 32
def uW (s : BS) : W4 := W4.of (vv s).1
theorem Jnu (s : BS) : WOk (vv s).1 := by
  unfold vv; split
  · exact Jg3 _
  · exact Jyg
theorem Jz6 (s : BS) : (uW s).l = (vv s).1 := W4.of_l (Jnu s).1
theorem Jz7 {w : W4} (h : w.ok) : uW (bW w) = w := by
  apply W4.l_inj
  rw [Jz6]
  unfold vv bW
  rw [if_pos (QX _ _)]
  exact Jwp h.wok
def wN1 (n : Nat) : W4 := ⟨n, 0, 0, 0⟩
def Jj3 (n : Nat) : BS := bW (wN1 n)
def Jj4 : Nat → Nat
  | 0 => 0
  | 1 => 1
  | 2 => 5
  | 3 => 6
  | 4 => 3
  | 5 => 7
  | _ => 8
def Jf0 (f : Int) : Nat → Bool
  | 0 => true
  | 1 => true
  | 2 => decide (f ≤ 2)
  | 3 => decide (f ≤ 2)
  | 4 => decide (f ≥ 3)
  | 5 => decide (f ≥ 3)
  | _ => decide (f = 5)
def wR (r : Rec) : Nat → W4
  | 0 => ⟨r.number, r.time, 0, 0⟩
  | 1 => r.base
  | 2 => r.overhead
  | 3 => ⟨r.scalar, 0, 0, 0⟩
  | 4 => ⟨r.scalar, r.extra, 0, 0⟩
  | 5 => r.blob
  | _ => ⟨r.operator, 0, 0, 0⟩
def Jhx (r : Rec) (w : W4) : Nat → Rec
  | 0 => { r with number := w.a, time := w.b }
  | 1 => { r with base := w }
  | 2 => { r with overhead := w }
  | 3 => { r with scalar := w.a }
  | 4 => { r with scalar := w.a, extra := w.b }
  | 5 => { r with blob := w }
  | _ => { r with operator := w.a }
theorem Jnv {r : Rec} (h : r.ok) (i : Nat) : (wR r i).ok := by
  unfold wR
  split
  · exact ⟨h.number, h.time, Wx, Wx⟩
  · exact h.base
  · exact h.overhead
  · exact ⟨h.scalar, Wx, Wx, Wx⟩
  · exact ⟨h.scalar, h.extra, Wx, Wx⟩
  · exact h.blob
  · exact ⟨h.operator, Wx, Wx, Wx⟩
def wS (f : Int) (g : Nat → W4) : List Nat → Rec → Rec
  | [], out => out
  | i :: l, out => wS f g l (if Jf0 f i then Jhx out (g i) i else out)
def tab : List Nat := [0, 1, 2, 3, 4, 5, 6]
def Jnw (f : Int) (r : Rec) : Rec := wS f (wR r) tab Jwo
def Jhy (f : Int) (a : AcE) : Rec := wS f (fun i => uW (Qn a (Jj3 (Jj4 i)))) tab Jwo
def jn (f : Int) : Prop := 0 ≤ f ∧ f ≤ 5
instance (f : Int) : Decidable (jn f) := inferInstanceAs (Decidable (_ ∧ _))
theorem Jap {f : Int} (h : jn f) : f = 0 ∨ f = 1 ∨ f = 2 ∨ f = 3 ∨ f = 4 ∨ f = 5 := by unfold jn at h; omega
def Jhz (f : Int) (r : Rec) : Bool := !((decide (f ≥ 3) && decide (r.overhead ≠ w40)) || (decide (f < 3) && (decide (r.extra ≠ 0) || decide (r.blob ≠ w40))) || (decide (f < 5) && decide (r.operator ≠ 0)))
theorem Jnx {f : Int} {r : Rec} (h : jn f) : Jnw f r = r ↔ Jhz f r = true := by
  obtain ⟨n, t, b, l, o, s, e, p⟩ := r
  rcases Jap h with rfl | rfl | rfl | rfl | rfl | rfl <;>
    (simp [Jnw, wS, tab, Jf0, Jhx, wR, Jhz, Jwo]; try (constructor <;> (intro h; simp_all <;> omega)))
def Jdc (which : Int) : BS := if which < 0 ∨ which > 1 then [] else 66 :: (List.replicate 18 0 ++ [UInt8.ofNat (1 + which).toNat])
def Jz8 : BS := [111, 110, 101]
def Jz9 : BS := [116, 119, 111]
def Jwq : BS := [116, 104, 114, 101, 101]
def Jyt : BS := [102, 105, 118, 101]
def J0a : BS := [102, 101, 101]
def zH (f which : Int) : BS × Bool := if which = 1 then (if f ≥ 2 then (J0a, true) else ([], false)) else if f = 0 then (Jz8, true) else if f ≤ 2 then (Jz9, true) else if f ≤ 4 then (Jwq, true) else (Jyt, true)
def A0 : BS := Jdc 0
def A1 : BS := Jdc 1
theorem vh {l : List (BS × BS)} {k v : BS} (h : KG Prod.fst l) : KG Prod.fst (Qk l k v) := by
  unfold Qk; split
  · exact Jfv h
  · exact wK h
theorem Jj5 {l : List (BS × BS)} {k v j : BS} (h : KG Prod.fst l) : VT Prod.fst j (Qk l k v) = if k = j then (if v = Wc then none else some (k, v)) else VT Prod.fst j l := by
  unfold Qk
  by_cases hv : v = Wc
  · rw [if_pos hv, if_pos hv, Jc8]
  · rw [if_neg hv, if_neg hv, Jc7 h]
theorem wT {l : List (BS × BS)} {k v : BS} {x : BS × BS} (h : x ∈ Qk l k v) : (x = (k, v) ∧ v ≠ Wc) ∨ x ∈ l := by
  unfold Qk at h
  split at h
  · exact .inr (Jso h)
  · rename_i hv; exact (vT h).imp (fun h => ⟨h, hv⟩) id
theorem Jwr {a : AcE} {k v : BS} (h1 : Yy a = 0) (h2 : k.length = 32) (h3 : v.length = 32) (h4 : (Qk a.slots k v).length ≤ 16) : wM a k v = ({ a with slots := Qk a.slots k v }, 0) := by
  unfold wM
  rw [if_neg (by omega), if_neg (by omega), if_neg (by omega)]
theorem Jsv {a : AcE} {k v : BS} (h1 : Yy a = 0) (h2 : k.length = 32) (h3 : v.length = 32) (h4 : (Qk a.slots k v).length ≤ 16) : Yy { a with slots := Qk a.slots k v } = 0 := by
  obtain ⟨g1, g2, g3, g4, g5⟩ := Wk h1
  refine Jsq g1 (fun x hx => ?_) (vh g3) g4 h4
  rcases wT hx with ⟨rfl, hv⟩ | hx
  · exact ⟨h2, h3, hv⟩
  · exact g2 x hx
theorem Jj6 {a : AcE} {k v j : BS} (h : KG Prod.fst a.slots) : Qn { a with slots := Qk a.slots k v } j = if k = j then v else Qn a j := by
  unfold Qn
  simp only
  rw [Jj5 h]
  by_cases hk : k = j
  · rw [if_pos hk, if_pos hk]
    by_cases hv : v = Wc
    · rw [if_pos hv]; exact hv.symm
    · rw [if_neg hv]
  · rw [if_neg hk, if_neg hk]
def Jaq : AcE → List (BS × BS) → AcE × Int
  | a, [] => (a, 0)
  | a, x :: l => if (wM a x.1 x.2).2 ≠ 0 then wM a x.1 x.2 else Jaq (wM a x.1 x.2).1 l
structure RowsOk (a b : AcE) (l : List (BS × BS)) : Prop where
  lk : Yy b = 0
  addr : b.addr = a.addr
  nonce : b.nonce = a.nonce
  bal : b.bal = a.bal
  code : b.code = a.code
  at_ : ∀ x ∈ l, Qn b x.1 = x.2
  off : ∀ k, (∀ x ∈ l, x.1 ≠ k) → Qn b k = Qn a k
theorem Jny {a : AcE} (h : Yy a = 0) {x : BS × BS} (hx : x ∈ a.slots) : Qn a x.1 = x.2 ∧ x.2 ≠ Wc := by
  obtain ⟨_, g2, g3, _⟩ := Wk h
  unfold Qn
  rw [zF g3 hx]
  exact ⟨rfl, (g2 x hx).2.2⟩
theorem Jnz {a : AcE} {k : BS} (h : Qn a k ≠ Wc) : (k, Qn a k) ∈ a.slots := by
  unfold Qn at h ⊢
  cases hl : VT Prod.fst k a.slots with
  | none => rw [hl] at h; exact absurd rfl h
  | some x =>
    obtain ⟨h1, h2⟩ := zE hl
    simp only
    rw [← h1]; exact h2
theorem Jar {α : Type} {kf : α → BS} : ∀ {m l : List α}, KG kf m → KG kf l → (∀ y ∈ l, y ∈ m) → l.length ≤ m.length
  | [], [], _, _, _ => Nat.le_refl _
  | [], y :: l, _, _, h => absurd (h y List.mem_cons_self) (by simp)
  | z :: m, [], _, _, _ => Nat.zero_le _
  | z :: m, y :: l, hm, hl, h => by
    obtain ⟨m1, m2⟩ := List.pairwise_cons.1 hm
    obtain ⟨l1, l2⟩ := List.pairwise_cons.1 hl
    rcases List.mem_cons.1 (h y List.mem_cons_self) with e | hy
    · rw [e] at l1
      have := Jar (m := m) (l := l) m2 l2 fun x hx => by
        rcases List.mem_cons.1 (h x (List.mem_cons_of_mem _ hx)) with rfl | hx2
        · have := l1 _ hx; rw [Y9] at this; cases this
        · exact hx2
      simp only [List.length_cons]; omega
    · have := Jar (m := m) (l := y :: l) m2 hl fun x hx => by
        rcases List.mem_cons.1 (h x hx) with rfl | hx2
        · have a1 := m1 y hy
          rcases List.mem_cons.1 hx with rfl | hx3
          · rw [Y9] at a1; cases a1
          · have := VS a1 (l1 _ hx3); rw [Y9] at this; cases this
        · exact hx2
      simp only [List.length_cons] at this ⊢; omega
theorem fill {a : AcE} (ha : Yy a = 0) : ∀ (l : List (BS × BS)) (x : AcE), Yy x = 0 → (∀ k, Qn x k = Qn a k ∨ Qn x k = Wc) → (∀ p ∈ l, p.1.length = 32 ∧ p.2.length = 32 ∧ (p.2 = Qn a p.1 ∨ p.2 = Wc)) → (Jaq x l).2 = 0
  | [], _, _, _, _ => rfl
  | p :: l, x, hx, hs, hp => by
    obtain ⟨p1, p2, p3⟩ := hp p List.mem_cons_self
    have hsx := (Wk hx).2.2.1
    have hlen : (Qk x.slots p.1 p.2).length ≤ 16 := by
      refine Nat.le_trans (Jar (kf := Prod.fst) (Wk ha).2.2.1 (vh hsx) fun y hy => ?_) (Wk ha).2.2.2.2
      have hne : y.2 ≠ Wc ∧ y.2 = Qn a y.1 := by
        rcases wT hy with ⟨rfl, hv⟩ | hy
        · exact ⟨hv, p3.resolve_right hv⟩
        · obtain ⟨e1, e2⟩ := Jny hx hy
          refine ⟨e2, ?_⟩
          rcases hs y.1 with h | h
          · rw [← e1, h]
          · rw [← e1] at e2; exact absurd h e2
      have h3 := Jnz (a := a) (k := y.1) (by rw [← hne.2]; exact hne.1)
      rw [← hne.2] at h3
      exact h3
    unfold Jaq
    rw [Jwr hx p1 p2 hlen, if_neg (by simp)]
    refine fill ha l _ (Jsv hx p1 p2 hlen) (fun k => ?_) fun q hq => hp q (List.mem_cons_of_mem _ hq)
    rw [Jj6 hsx]
    split
    · rename_i e; subst e; exact p3
    · exact hs k
theorem Jas {s : List AcE} (hs : Qa s = 0) {k : BS} {a : AcE} (h : VJ s k = some a) : a.addr = k ∧ Yy a = 0 := by
  obtain ⟨h1, h2⟩ := zE h
  exact ⟨h1, (wO.1 hs).2.1 a h2⟩
def Jsw (f : Int) (r : Rec) (i : Nat) : BS × BS := (Jj3 (Jj4 i), if Jf0 f i then bW (wR r i) else Wc)
def Jf1 (k : BS) : Prop := ∃ i ∈ tab, Jj3 (Jj4 i) = k
def Jf2 (t : List AcE) (which : Int) : AcE := { (VJ t (Jdc which)).getD ac0 with addr := Jdc which }
theorem Jn0 {s : List AcE} (hs : Qa s = 0) {w : Int} {a : AcE} (h : VJ s (Jdc w) = some a) : Jf2 s w = a := by
  unfold Jf2
  rw [h]
  obtain ⟨h1, _⟩ := Jas hs h
  cases a
  simp only at h1
  simp [h1]
structure Wrote (f : Int) (s t : List AcE) (r : Rec) : Prop where
  forked : jn f
  fits : Jhz f r = true
  old : Qa s = 0
  new : Qa t = 0
  acct : ∃ b0, VJ t A0 = some b0 ∧ Yy b0 = 0 ∧ b0.addr = A0 ∧ b0.nonce = (Jf2 s 0).nonce ∧ b0.bal = (Jf2 s 0).bal ∧ b0.code = (zH f 0).1 ∧ (∀ i ∈ tab, Qn b0 (Jj3 (Jj4 i)) = (Jsw f r i).2) ∧ ∀ k, ¬ Jf1 k → Qn b0 k = Qn (Jf2 s 0) k
  others : ∀ k, k ≠ A0 → k ≠ A1 → VJ t k = VJ s k
  fee : if (zH f 1).2 = true then VJ t A1 = some { Jf2 s 1 with code := (zH f 1).1 } else VJ t A1 = VJ s A1
def zI (s : List AcE) (k : BS) : AcE := (VJ s k).getD ac0
theorem wU {f : Int} {g g' : Nat → W4} : ∀ {l : List Nat} {out : Rec}, (∀ i ∈ l, Jf0 f i = true → g i = g' i) → wS f g l out = wS f g' l out
  | [], _, _ => rfl
  | i :: l, out, h => by
    unfold wS
    have e : (if Jf0 f i then Jhx out (g i) i else out) = if Jf0 f i then Jhx out (g' i) i else out := by
      by_cases hi : Jf0 f i = true
      · rw [if_pos hi, if_pos hi, h i List.mem_cons_self hi]
      · rw [if_neg hi, if_neg hi]
    rw [e]
    exact wU fun j hj => h j (List.mem_cons_of_mem _ hj)
theorem Jj7 {f : Int} {a : AcE} {r : Rec} (hf : jn f) (hr : r.ok) (hb : Jhz f r = true) (h : ∀ i ∈ tab, Qn a (Jj3 (Jj4 i)) = (Jsw f r i).2) : Jhy f a = r := by
  have e : Jhy f a = Jnw f r := wU fun i hi hh => by
    rw [h i hi]
    unfold Jsw
    simp only
    rw [if_pos hh]
    exact Jz7 (Jnv hr i)
  rw [e]
  exact (Jnx hf).2 hb
structure Checked (f : Int) (s : List AcE) (a : AcE) : Prop where
  forked : jn f
  st : Qa s = 0
  at0 : VJ s A0 = some a
  code : a.code = (zH f 0).1
  rows : ∀ i ∈ tab, Qn a (Jj3 (Jj4 i)) = (Jsw f (Jhy f a) i).2
  fee : (zH f 1).2 = true → ∃ b, VJ s A1 = some b ∧ b.code = (zH f 1).1
theorem Wrote.checked {f : Int} {s t : List AcE} {r : Rec} (h : Wrote f s t r) (hr : r.ok) : ∃ a, Checked f t a ∧ Jhy f a = r := by
  obtain ⟨h1, h2, h3, h4, ⟨b0, c1, c2, c3, c4, c5, c6, c7, c8⟩, h6, h7⟩ := h
  have e := Jj7 h1 hr h2 c7
  refine ⟨b0, ⟨h1, h4, c1, c6, by rw [e]; exact c7, fun hf => ?_⟩, e⟩
  rw [if_pos hf] at h7
  exact ⟨_, h7, rfl⟩
theorem Checked.lk {f : Int} {s : List AcE} {a : AcE} (h : Checked f s a) : Yy a = 0 := (Jas h.st h.at0).2
theorem Checked.addr {f : Int} {s : List AcE} {a : AcE} (h : Checked f s a) : a.addr = A0 := (Jas h.st h.at0).1
theorem Checked.old {f : Int} {s : List AcE} {a : AcE} (h : Checked f s a) : Jf2 s 0 = a := Jn0 h.st h.at0
structure Kept (s t : List AcE) : Prop where
  others : ∀ k, k ≠ A0 → k ≠ A1 → VJ t k = VJ s k
  there : ∀ k, (VJ s k).isSome = true → (VJ t k).isSome = true
  nonce : ∀ k, (zI t k).nonce = (zI s k).nonce
  bal : ∀ k, (zI t k).bal = (zI s k).bal
  slot : ∀ k j, (k = A0 → ¬ Jf1 j) → Qn (zI t k) j = Qn (zI s k) j
theorem Kept.refl (s : List AcE) : Kept s s := ⟨fun _ _ _ => rfl, fun _ h => h, fun _ => rfl, fun _ => rfl, fun _ _ _ => rfl⟩
theorem Kept.trans {s t u : List AcE} (h : Kept s t) (k : Kept t u) : Kept s u :=
  ⟨fun x a b => (k.others x a b).trans (h.others x a b), fun x hx => k.there x (h.there x hx), fun x => (k.nonce x).trans (h.nonce x), fun x => (k.bal x).trans (h.bal x), fun x j hj => (k.slot x j hj).trans (h.slot x j hj)⟩
def Way (f g : Int) : Prop := 0 ≤ f ∧ f ≤ g ∧ g ≤ 5
instance (f g : Int) : Decidable (Way f g) := inferInstanceAs (Decidable (_ ∧ _))
def plS (sz a : Nat) : Pl → Pl
  | none => none
  | some (⟨b, o, s⟩, cap) => some (⟨b, if cap = a then o else o + a * sz, s⟩, cap - a)
theorem Seg.slice {R : Jo} {n sz a b : Nat} {cs : List Value} {p : Pl} (h : Seg R n cs p) (hl : cs.length = n * sz) (hab : a < b) (hb : b ≤ n) : Seg R (b - a) ((cs.drop (a * sz)).take ((b - a) * sz)) (plS sz a p) := by
  cases p with
  | none => have h : n = 0 := h; omega
  | some q =>
    obtain ⟨⟨r, o, s⟩, cap⟩ := q
    obtain ⟨h1, h2⟩ := h
    obtain ⟨h3, all, e, fr, h4, h5⟩ := h2 (by omega)
    have hne : ¬ cap = a := by omega
    simp only [plS, if_neg hne]
    have hlen : ((cs.drop (a * sz)).take ((b - a) * sz)).length = (b - a) * sz := by
      rw [List.length_take, List.length_drop, hl, ← Nat.sub_mul]
      exact Nat.min_eq_left (Nat.mul_le_mul_right _ (by omega))
    refine ⟨by omega, fun _ => ⟨h3, all, e, fr, h4, ?_⟩⟩
    rw [hlen]
    exact Jce h5 rfl hlen
section
variable {c : Cx} {l : Ko} {L : Jo} {X : XP} {Q : Exit → Act → World → Prop} {d : List Deferred}
variable {ops : Array Oper} {rest : List Oper} {i : Nat} {v : Value} {t : TypeId} {ps : String} {af : Array Edge} {gd : Option (Nat × Bool)} {ty t2 : TypeId}
theorem Jj8 {x lo hi : Operand} {p : Pl} {R : Jo} {cs : List Value} {n e sz a b : Nat} {ka kb : IntKind} {za zb : Int} (hx : Kg l x = some (KP n p)) (hs : Seg R n cs p) (hlo : Kg l lo = some (.int ka za)) (hhi : Kg l hi = some (.int kb zb)) (ea : za = (a : Int)) (eb : zb = (b : Int)) (ht : Kl c.P t = some e) (hz : KI c.P e = some sz) (hab : a < b) (hb : b ≤ n) {m : Nat} (hm : b - a = m) :
    J5 c d l L X ⟨some i, .slice t x (some lo) (some hi) none, ty, ps, af, gd⟩ (KP m (plS sz a p)) := by
  subst ea eb hm
  cases p with
  | none => have h : n = 0 := hs; omega
  | some q =>
    obtain ⟨⟨r, o, s⟩, cap⟩ := q
    obtain ⟨h1, h2⟩ := hs
    have h3 : s = none := (h2 (by omega)).1
    subst h3
    exact JR (kl := some a) (kh := some b) (km := none) hx ht hz ⟨_, hlo⟩ ⟨_, hhi⟩ trivial rfl rfl rfl (by omega) (by show b ≤ cap; omega) (Nat.le_refl _) (fun h => by cases h) rfl
theorem Jh0 {x y : Operand} {a b : List UInt8} (hx : Kg l x = some (.string (bs a))) (hy : Kg l y = some (.string (bs b))) :
    J5 c d l L X ⟨some i, .binOp .geq t x y t2, ty, ps, af, gd⟩ (.bool (!Op.bytesLess a b)) := fun a' w hf _ => by
  simp only [execOp]
  rw [hf.eval hx, hf.eval hy]
  simp only [binOp, eqGuard, Op.stringOp, Sem.run_bind, Ye]
  rfl
theorem Jsx {x y : Operand} {a b : List UInt8} (hx : Kg l x = some (.string (bs a))) (hy : Kg l y = some (.string (bs b))) :
    J5 c d l L X ⟨some i, .binOp .gtr t x y t2, ty, ps, af, gd⟩ (.bool (Op.bytesLess b a)) := fun a' w hf _ => by
  simp only [execOp]
  rw [hf.eval hx, hf.eval hy]
  have e : (!(Op.bytesLess a b || decide (a = b))) = Op.bytesLess b a := by
    rcases Jam a b with h | h | h
    · subst h; rw [Y9]; simp
    · rw [h, Jan h]; simp
    · rw [h, Jan h]; simp [(zD h).symm]
  rw [← e]
  have e2 : (a == b) = decide (a = b) := by by_cases h : a = b <;> simp [h]
  rw [← e2]
  simp only [binOp, eqGuard, Op.stringOp, Sem.run_bind, Ye]
  rfl
theorem Jf3 {x y : Operand} {e sz n cap : Nat} {a : Option Addr} {r2 : Option Addr} {c2 : Nat} (hg : Kk l ops ⟨some i, .call ⟨.builtin .append, #[x, y], #[t, t]⟩, ty, ps, af, gd⟩ = some true) (hi : Nat.ble (i + 1) c.n = true)
    (hx : Kg l x = some (.slice a n cap)) (hy : Kg l y = some (.slice r2 0 c2)) (ht : Kl c.P t = some e) (hs : KI c.P e = some sz) (hle : n ≤ cap)
    (h : HL c d ((i, .slice a n cap) :: l) L X ops rest Q) : HL c d l L X ops (⟨some i, .call ⟨.builtin .append, #[x, y], #[t, t]⟩, ty, ps, af, gd⟩ :: rest) Q := by
  obtain ⟨inf, hinf, hs'⟩ : ∃ inf, c.P.info? e = some inf ∧ inf.size = sz := by
    unfold KI at hs
    cases hq : c.P.info? e with
    | none => simp [hq] at hs
    | some inf => simp only [hq, Option.some.injEq] at hs; exact ⟨inf, rfl, hs⟩
  refine j0 hg rfl rfl hi (fun a' w hf _ => ?_) h
  have ex := hf.eval hx
  have ey := hf.eval hy
  have hl : ∀ (q : Addr), (loadCells q 0).run c.P w = .ok #[] w := fun q => by simpa using run_loadCells_list (P := c.P) w q [] (by simp)
  cases r2 <;> cases a <;> simp [execOp, resolve, Sem.run_bind, ex, ey, Result.andThen, invoke, builtin, Builtin.append_, Qh (Ka ht), sizeOf, typeInfo, hinf, Builtin.lenOf, hle, Builtin.firstCells, hl, storeCells]
theorem Jh1 {x : Operand} {p : Option Addr} {n cap : Nat} {e : TypeId} (hx : Kg l x = some (.slice p n cap)) (ht : Kl c.P t = some e) :
    J5 c d l L X ⟨some i, .call ⟨.builtin .cap, #[x], #[t]⟩, ty, ps, af, gd⟩ (.int .i64 cap) := fun a w hf _ => by
  have ex := hf.eval hx
  simp [execOp, resolve, Sem.run_bind, ex, Result.andThen, invoke, builtin, Builtin.cap_, Qh (Ka ht), goInt]
theorem vi {x y f : Operand} {e sz k r1 r2 o1 o2 n1 c1 n2 c2 : Nat} {fn : Func} {g : FuncId} {at_ : Array TypeId} {cs1 cs2 : Array Value} {e1 e2 tR : TypeId}
    (hf : Kg l f = some (.func (.func g) #[] #[])) (hx : Kg l x = some (.slice (some ⟨r1, o1, none⟩) n1 c1)) (hy : Kg l y = some (.slice (some ⟨r2, o2, none⟩) n2 c2)) (hk1 : (r1, Obj.cells cs1 e1 (0, 0)) ∈ c.R) (hk2 : L[k]? = some (r2, .cells cs2 e2 (0, 0)))
    (ht : Kl c.P t = some e) (hs : KI c.P e = some sz) (h0 : 0 < cs2.size) (hF : c.P.funcs[g]? = some fn) (hn1 : (fn.name == "runtime.NumGoroutine") = false) (hb : fn.body.isNone = true) (hn2 : Extern.findNext fn = none) (he : Extern.find fn = some (Extern.SlicesOverlaps.overlaps #[t, t] #[tR])) :
    J5 c d l L X ⟨some i, .call ⟨.value f, #[x, y], at_⟩, ty, ps, af, gd⟩ (.bool false) := fun a w hfr hst =>
  Jfx hf hx hy (hst.apart hk2 _ hk1) (Or.inr hk1) (vC hk2) ht hs h0 hF hn1 hb hn2 he a w hfr hst
theorem Xy {e sz : Nat} (hg : Kk l ops ⟨some i, .buildSlice t 0 #[], ty, ps, af, gd⟩ = some true) (hi : Nat.ble (i + 1) c.n = true) (ht : Kl c.P t = some e) (hs : KI c.P e = some sz)
    (h : ∀ q, HL c d ((i, .slice (some ⟨q, 0, none⟩) 0 0) :: l) ((q, .cells #[] e (0, 0)) :: L) X ops rest Q) : HL c d l L X ops (⟨some i, .buildSlice t 0 #[], ty, ps, af, gd⟩ :: rest) Q := by
  refine Wh (V := fun q => .slice (some ⟨q, 0, none⟩) 0 0) (L' := fun q => (q, .cells #[] e (0, 0)) :: L) (X' := fun _ => X) hg rfl rfl hi (fun a w hfr hst => ⟨w.heap.size, w.alloc (.cells #[] e), ?_, hst.alloc _⟩) h
  simp [execOp, Instr.buildSlice, Sem.run_bind, Qh (Ka ht), V2 hs, Result.andThen, Instr.fill, newRow]
  rw [show Array.range 0 = (#[] : Array Nat) from by decide]
  simp
theorem wW {x y : Operand} {k r e sz b n : Nat} {z : Value} {q : Addr × Nat} {cs : List Value} {R L0 : Jo}
    (hg : Kk l ops ⟨some i, .call ⟨.builtin .append, #[x, y], #[t, t]⟩, ty, ps, af, gd⟩ = some true) (hi : Nat.ble (i + 1) c.n = true) (hx : Kg l x = some (.slice (some ⟨r, 0, none⟩) 0 0)) (hk : L[k]? = some (r, .cells #[] e (0, 0))) (hL : L.eraseIdx k = L0)
    (hy : Kg l y = some (KP n (some q))) (hs : Seg R n cs (some q)) (hR : ∀ q ∈ R, known c L q.1 q.2) (ht : Kl c.P t = some e) (hz : QJ c.P e = some z) (hsz : KI c.P e = some sz) (hb : Jbz c.P e = some b) (hzs : z.cells.size = sz) (h0 : 0 < sz)
    (hcs : cs.length = n * sz) (hone : cs.all QW = true) (h63 : n ≤ 9223372036854775807) (h47 : n * b ≤ 140737488355328)
    (h : ∀ row, rowOk sz n cs row → HL c d ((i, JD n row) :: l) (JV e cs row ++ L0) X ops rest Q) : HL c d l L X ops (⟨some i, .call ⟨.builtin .append, #[x, y], #[t, t]⟩, ty, ps, af, gd⟩ :: rest) Q := by
  obtain ⟨⟨r2, o2, s2⟩, cap⟩ := q
  obtain ⟨hs1, hs2⟩ := hs
  by_cases hn : n = 0
  · subst hn
    have hc0 : cs = [] := List.length_eq_zero_iff.1 (by rw [hcs, Nat.zero_mul])
    subst hc0
    refine Jf3 hg hi hx hy ht hsz (Nat.le_refl _) ?_
    refine KC ?_ (h (some (r, 0, [])) ⟨by simp, by simp⟩)
    have h1 := (List.getElem?_eq_some_iff.1 hk)
    have := wk h1.1 (r, Obj.cells #[] e (0, 0))
    rw [hL, ← h1.2, List.set_getElem_self, h1.2] at this
    exact this
  · obtain ⟨h3, all, e', fr, h4, h5⟩ := hs2 (by omega)
    have h3 : s2 = none := h3
    subst h3
    rw [hcs] at h5
    refine W1 hg hi hx hy (hR _ h4) ht hz hsz hb hzs h0 h5 hcs hone (by omega) (SlOwn.own (n := 0) (cap := 0) (xs := []) hk (by simp) (by simp) (by simp) hL) (by omega) (by rw [Nat.zero_add]; exact h47) fun r' cap' spare hsp => ?_
    have := h (some (r', cap', spare)) ⟨hcs, by rw [Nat.zero_add] at hsp; exact hsp⟩
    simpa [JD, JV] using this
end
def YB {α : Type} (pr : α → Bool) (xs : List α) : Int := match xs.findIdx? pr with
  | some i => (i : Int)
  | none => -1
theorem Jdd {α : Type} {pr : α → Bool} {xs : List α} (h : ∀ (j : Nat) x, xs[j]? = some x → pr x = false) : YB pr xs = -1 := by
  unfold YB
  have : xs.findIdx? pr = none := by
    rw [List.findIdx?_eq_none_iff]
    intro x hx
    obtain ⟨j, hj, rfl⟩ := List.mem_iff_getElem.1 hx
    simpa using h j _ (List.getElem?_eq_getElem hj)
  rw [this]
theorem Jde {α : Type} {pr : α → Bool} {xs : List α} {i : Nat} {x : α} (hx : xs[i]? = some x) (hp : pr x = true) (h : ∀ j, j < i → ∀ y, xs[j]? = some y → pr y = false) : YB pr xs = (i : Int) := by
  unfold YB
  obtain ⟨h1, h2⟩ := List.getElem?_eq_some_iff.1 hx
  have : xs.findIdx? pr = some i := by
    rw [List.findIdx?_eq_some_iff_getElem]
    exact ⟨h1, by rw [h2]; exact hp, fun j hj => by simpa using h j hj _ (List.getElem?_eq_getElem (by omega))⟩
  rw [this]
theorem Jsy {α : Type} {pr : α → Bool} {xs : List α} : decide (YB pr xs ≥ 0) = xs.any pr := by
  unfold YB
  cases h : xs.findIdx? pr with
  | none =>
    rw [List.findIdx?_eq_none_iff] at h
    have : xs.any pr = false := by rw [List.any_eq_false]; intro x hx; simpa using h x hx
    rw [this]; rfl
  | some i =>
    rw [List.findIdx?_eq_some_iff_getElem] at h
    obtain ⟨h1, h2, _⟩ := h
    have : xs.any pr = true := List.any_eq_true.2 ⟨xs[i], List.getElem_mem _, h2⟩
    rw [this]; simp
theorem wX {α : Type} {pr : α → Bool} {xs : List α} : (YB pr xs < 0 ∧ xs.find? pr = none) ∨ ∃ (i : Nat) (x : α), YB pr xs = (i : Int) ∧ xs[i]? = some x ∧ xs.find? pr = some x := by
  unfold YB
  cases h : xs.findIdx? pr with
  | none =>
    rw [List.findIdx?_eq_none_iff] at h
    exact .inl ⟨by simp, by rw [List.find?_eq_none]; intro x hx; simpa using h x hx⟩
  | some i =>
    rw [List.findIdx?_eq_some_iff_getElem] at h
    obtain ⟨h1, h2, h3⟩ := h
    refine .inr ⟨i, xs[i], rfl, List.getElem?_eq_getElem h1, ?_⟩
    rw [List.find?_eq_some_iff_getElem]
    exact ⟨h2, i, h1, rfl, fun j hj => by simpa using h3 j hj⟩
theorem Jh2 {α : Type} {pr : α → Bool} {xs : List α} (h : 0 ≤ YB pr xs) : ∃ (i : Nat) (x : α), YB pr xs = (i : Int) ∧ xs[i]? = some x ∧ xs.find? pr = some x := by
  rcases wX (pr := pr) (xs := xs) with ⟨h1, _⟩ | h1
  · omega
  · exact h1
theorem wY {α : Type} {pr : α → Bool} {xs : List α} (h : YB pr xs < 0) : xs.find? pr = none := by
  rcases wX (pr := pr) (xs := xs) with ⟨_, h1⟩ | ⟨i, x, h1, _⟩
  · exact h1
  · omega
section
variable {α : Type} {kf : α → BS}
def vz (a b : BS) : Int := if Op.bytesLess a b then -1 else if Op.bytesLess b a then 1 else 0
theorem Jh3 (a b : BS) : decide (vz a b < 0) = Op.bytesLess a b := by
  unfold vz
  cases Op.bytesLess a b
  · cases Op.bytesLess b a <;> rfl
  · rfl
theorem Jdf (a b : BS) : (vz a b == 0) = decide (a = b) := by
  unfold vz
  rcases Jam a b with h | h | h
  · subst h; rw [Y9]; simp
  · rw [h]; simp [zD h]
  · rw [h, Jan h]; simp [(zD h).symm]
def jy (kf : α → BS) (k : BS) (xs : List α) : Nat := (xs.takeWhile fun x => Op.bytesLess (kf x) k).length
def VZ (kf : α → BS) (k : BS) (xs : List α) : Bool := match xs[jy kf k xs]? with
  | some x => decide (kf x = k)
  | none => false
theorem Jn1 (k : BS) (xs : List α) : jy kf k xs ≤ xs.length := by
  unfold jy
  have := (List.takeWhile_prefix (p := fun x => Op.bytesLess (kf x) k) (l := xs)).length_le
  exact this
theorem Jn2 {k : BS} : ∀ {xs : List α} {i : Nat}, i ≤ xs.length → (∀ q y, q < i → xs[q]? = some y → Op.bytesLess (kf y) k = true) → (∀ y, xs[i]? = some y → Op.bytesLess (kf y) k = false) → i = jy kf k xs
  | [], i, h, _, _ => by simp [jy] at h ⊢; exact h
  | x :: xs, 0, _, _, h2 => by
    have := h2 x rfl
    simp [jy, List.takeWhile_cons, this]
  | x :: xs, i + 1, h, h1, h2 => by
    have h0 := h1 0 x (by omega) rfl
    have := Jn2 (xs := xs) (i := i) (by simpa using h) (fun q y hq hy => h1 (q + 1) y (by omega) hy) (fun y hy => h2 y hy)
    unfold jy at this ⊢
    rw [List.takeWhile_cons, h0]
    simp only [if_true, List.length_cons]
    omega
theorem Ju7 {k : BS} : ∀ {xs : List α} {q : Nat} {y : α}, q < jy kf k xs → xs[q]? = some y → Op.bytesLess (kf y) k = true
  | [], q, y, h, _ => by simp [jy] at h
  | x :: xs, q, y, h, hy => by
    unfold jy at h
    rw [List.takeWhile_cons] at h
    split at h
    · rename_i hx
      cases q with
      | zero => obtain rfl : x = y := by simpa using hy
                exact hx
      | succ q => exact Ju7 (xs := xs) (q := q) (by simpa [jy] using h) (by simpa using hy)
    · simp at h
theorem Ju8 {k : BS} : ∀ {xs : List α} {q : Nat} {y : α}, KG kf xs → jy kf k xs ≤ q → xs[q]? = some y → Op.bytesLess (kf y) k = false
  | [], q, y, _, _, hy => by simp at hy
  | x :: xs, q, y, hs, h, hy => by
    obtain ⟨s1, s2⟩ := List.pairwise_cons.1 hs
    unfold jy at h
    rw [List.takeWhile_cons] at h
    split at h
    · cases q with
      | zero => simp at h
      | succ q => exact Ju8 (xs := xs) (q := q) s2 (by simpa [jy] using h) (by simpa using hy)
    · rename_i hx
      have hx : Op.bytesLess (kf x) k = false := by simpa using hx
      cases q with
      | zero => obtain rfl : x = y := by simpa using hy
                exact hx
      | succ q =>
        have hm : y ∈ xs := List.mem_of_getElem? (by simpa using hy)
        cases hyk : Op.bytesLess (kf y) k
        · rfl
        · rw [VS (s1 y hm) hyk] at hx; cases hx
theorem Jdg {k : BS} {xs : List α} (hs : KG kf xs) {h : Nat} {x : α} (hx : xs[h]? = some x) (hb : Op.bytesLess (kf x) k = true) : ∀ q y, q < h + 1 → xs[q]? = some y → Op.bytesLess (kf y) k = true := fun q y hq hy => by
  rcases Nat.lt_succ_iff_lt_or_eq.1 hq with hq | rfl
  · have hp := List.pairwise_iff_getElem.1 hs q h (List.getElem?_eq_some_iff.1 hy).1 (List.getElem?_eq_some_iff.1 hx).1 hq
    rw [(List.getElem?_eq_some_iff.1 hy).2, (List.getElem?_eq_some_iff.1 hx).2] at hp
    exact VS hp hb
  · rw [hx] at hy; cases hy; exact hb
theorem Jdh {k : BS} {xs : List α} (hs : KG kf xs) {h : Nat} {x : α} (hx : xs[h]? = some x) (hb : Op.bytesLess (kf x) k = false) : ∀ q y, h ≤ q → xs[q]? = some y → Op.bytesLess (kf y) k = false := fun q y hq hy => by
  rcases Nat.lt_or_eq_of_le hq with hq | rfl
  · have hp := List.pairwise_iff_getElem.1 hs h q (List.getElem?_eq_some_iff.1 hx).1 (List.getElem?_eq_some_iff.1 hy).1 hq
    rw [(List.getElem?_eq_some_iff.1 hy).2, (List.getElem?_eq_some_iff.1 hx).2] at hp
    cases hyk : Op.bytesLess (kf y) k
    · rfl
    · rw [VS hp hyk] at hb; cases hb
  · rw [hx] at hy; cases hy; exact hb
theorem Jdi {k : BS} {xs : List α} {x : α} (h : xs[jy kf k xs]? = some x) : VZ kf k xs = decide (kf x = k) := by unfold VZ; rw [h]
theorem qC {k : BS} {xs : List α} (h : xs.length ≤ jy kf k xs) : VZ kf k xs = false := by unfold VZ; rw [List.getElem?_eq_none h]
theorem Jn3 {x : α} {xs : List α} (hs : KG kf xs) : QF kf x xs = if VZ kf (kf x) xs = true then xs.set (jy kf (kf x) xs) x else xs.take (jy kf (kf x) xs) ++ x :: xs.drop (jy kf (kf x) xs) := by
  obtain ⟨i, hi⟩ : ∃ i, i = jy kf (kf x) xs := ⟨_, rfl⟩
  have hle : i ≤ xs.length := hi ▸ Jn1 _ _
  have h := Jnp (kf := kf) (x := x) (p := xs.take i) (q := xs.drop i) (fun y hy => by
    obtain ⟨j, e⟩ := List.mem_iff_getElem?.1 hy
    have hj := (List.getElem?_eq_some_iff.1 e).1
    rw [List.length_take] at hj
    rw [List.getElem?_take, if_pos (by omega)] at e
    exact Ju7 (by omega) e) (fun y hy => by
    obtain ⟨j, e⟩ := List.mem_iff_getElem?.1 hy
    rw [List.getElem?_drop] at e
    exact Ju8 hs (by omega) e)
  rw [List.take_append_drop] at h
  rw [h]
  unfold VZ
  rw [← hi]
  by_cases hlt : i < xs.length
  · rw [List.getElem?_eq_getElem hlt, List.drop_eq_getElem_cons hlt]
    simp only [decide_eq_true_eq]
    split
    · rw [List.set_eq_take_append_cons_drop, if_pos hlt]
    · rfl
  · rw [List.getElem?_eq_none (by omega), List.drop_of_length_le (by omega)]
    simp
end
def fV (f : FuncId) : Value := .func (.func f) #[] #[]
theorem ZH {α : Type} {kf : α → BS} : ∀ {xs : List α}, (∀ (j : Nat) x y, xs[j]? = some x → xs[j + 1]? = some y → Op.bytesLess (kf x) (kf y) = true) → Vr kf xs = true
  | [], _ => rfl
  | [_], _ => rfl
  | x :: y :: xs, h => by
    rw [Vr, h 0 x y rfl rfl, Bool.true_and]
    exact ZH fun j u v hu hv => h (j + 1) u v (by simpa using hu) (by simpa using hv)
theorem jS {α : Type} {kf : α → BS} : ∀ {xs : List α} {j : Nat} {x y : α}, xs[j]? = some x → xs[j + 1]? = some y → Op.bytesLess (kf x) (kf y) = false → Vr kf xs = false
  | [], _, _, _, h, _, _ => by simp at h
  | [_], _, _, _, _, h, _ => by simp at h
  | a :: b :: xs, 0, x, y, hx, hy, h => by
    obtain rfl : a = x := by simpa using hx
    obtain rfl : b = y := by simpa using hy
    rw [Vr, h, Bool.false_and]
  | a :: b :: xs, j + 1, x, y, hx, hy, h => by
    rw [Vr, jS (xs := b :: xs) (j := j) (by simpa using hx) (by simpa using hy) h, Bool.and_false]
theorem YC {α : Type} {f : α → List Value} (h : ∀ x, (f x).all QW = true) : ∀ l : List α, (l.flatMap f).all QW = true
  | [] => rfl
  | x :: l => by rw [List.flatMap_cons, List.all_append, h, YC h l]; rfl
theorem cut {l : List Value} {a : Nat} (h : a ≤ l.length) : ∃ x y, l = x ++ y ∧ x.length = a := ⟨l.take a, l.drop a, (List.take_append_drop ..).symm, by rw [List.length_take]; omega⟩
theorem Jdj {α : Type} {kf : α → BS} {k : BS} {xs : List α} (h : VZ kf k xs = true) : jy kf k xs < xs.length := by
  rcases Nat.lt_or_ge (jy kf k xs) xs.length with h1 | h1
  · exact h1
  · rw [qC h1] at h; cases h
theorem row_some {sz n : Nat} {xs : List Value} {row : V5} (h : rowOk sz n xs row) (hn : 0 < n) : ∃ r cap sp, row = some (r, cap, sp) := by
  cases row with
  | none => have := h.1; omega
  | some q => obtain ⟨r, cap, sp⟩ := q; exact ⟨r, cap, sp, rfl⟩
theorem Xz {P M S V : List Value} {o n : Nat} (ho : P.length = o) (hn : M.length = n) : (P ++ (M ++ S)).take o ++ V ++ (P ++ (M ++ S)).drop (o + n) = P ++ (V ++ S) := by
  subst ho hn
  rw [List.take_left' rfl, ← List.drop_drop, List.drop_left' rfl, List.drop_left' rfl, List.append_assoc]
theorem Jh4 {α : Type} {f : α → List Value} {m : Nat} (hf : ∀ x, (f x).length = m) {xs : List α} {j : Nat} (hj : j < xs.length) (y : α) (sp : List Value) :
    (xs.flatMap f ++ sp).take (j * m) ++ f y ++ (xs.flatMap f ++ sp).drop (j * m + m) = (xs.set j y).flatMap f ++ sp := by
  have e : xs = xs.take j ++ xs[j] :: xs.drop (j + 1) := by rw [← List.drop_eq_getElem_cons hj, List.take_append_drop]
  have e1 : xs.flatMap f ++ sp = (xs.take j).flatMap f ++ (f xs[j] ++ ((xs.drop (j + 1)).flatMap f ++ sp)) := by
    rw [show xs.flatMap f = (xs.take j ++ xs[j] :: xs.drop (j + 1)).flatMap f from congrArg (List.flatMap f) e, List.flatMap_append, List.flatMap_cons, List.append_assoc, List.append_assoc]
  have e2 : (xs.set j y).flatMap f ++ sp = (xs.take j).flatMap f ++ (f y ++ ((xs.drop (j + 1)).flatMap f ++ sp)) := by
    rw [List.set_eq_take_append_cons_drop, if_pos hj]
    simp [List.flatMap_append, List.flatMap_cons]
  rw [e1, e2]
  exact Xz (by rw [KT hf, List.length_take]; congr 1; omega) (hf _)
theorem Pure.toR {P : Program} {f : FuncId} {args : Array Value} {v : Value} {R : Jo} (h : Pure P f args v) : PureR P f args v R := ⟨fun w _ => h.run w⟩
theorem Jj9 {α : Type} {f : α → List Value} {m : Nat} (hf : ∀ x, (f x).length = m) {xs : List α} {i : Nat} {x y : α} (hx : xs[i]? = some x) (hy : xs[i + 1]? = some y) : ((xs.flatMap f).drop (i * m)).take (2 * m) = [x, y].flatMap f := by
  have h1 := XL hf hx
  have h2 := XL hf hy
  rw [show 2 * m = m + m by omega, List.take_add, h1, List.drop_drop, show i * m + m = (i + 1) * m by rw [Nat.succ_mul], h2]
  simp
def Wl (s : StL) (k : BS) : AcL := (s.accts.find? fun a => decide (a.addr = k)).getD ac0L
def WX (s : StL) (k : BS) : Bool := (s.accts.find? fun a => decide (a.addr = k)).isSome
theorem Jdk {l : List AcL} {k : BS} : VT AcE.addr k (l.map AcL.er) = (l.find? fun a => decide (a.addr = k)).map AcL.er := by
  induction l with
  | nil => rfl
  | cons a l ih =>
    rw [List.map_cons, QN, ih, List.find?_cons]
    by_cases h : a.addr = k
    · rw [if_pos (show a.er.addr = k from h), decide_eq_true h]; rfl
    · rw [if_neg (show ¬ a.er.addr = k from h), decide_eq_false h]
theorem Jn4 (s : StL) (k : BS) : WX s k = (VJ s.er k).isSome := by
  unfold WX VJ StL.er
  rw [Jdk]
  cases s.accts.find? fun a => decide (a.addr = k) <;> rfl
theorem Jsz (s : StL) (k : BS) : (Wl s k).er = (VJ s.er k).getD ac0 := by
  unfold Wl VJ StL.er
  rw [Jdk]
  cases s.accts.find? fun a => decide (a.addr = k) <;> rfl
theorem Js0 {R : Jo} {s : StL} (h : s.In R) (k : BS) : (Wl s k).In R := by
  unfold Wl
  cases hx : s.accts.find? fun a => decide (a.addr = k) with
  | none => exact Jns
  | some a => exact h.accts a (List.mem_of_find?_eq_some hx)
theorem Jdl {s : StL} {k : BS} {a : AcL} (h : (s.accts.find? fun a => decide (a.addr = k)) = some a) : Wl s k = a ∧ WX s k = true := by
  unfold Wl WX; rw [h]; exact ⟨rfl, rfl⟩
theorem zJ {s : StL} {k : BS} (h : (s.accts.find? fun a => decide (a.addr = k)) = none) : Wl s k = ac0L ∧ WX s k = false := by
  unfold Wl WX; rw [h]; exact ⟨rfl, rfl⟩
theorem Jn5 {a : AcE} {k : BS} {x : BS × BS} (h : (a.slots.find? fun y => decide (y.1 = k)) = some x) : Qn a k = x.2 := by
  unfold Qn VT
  rw [show (fun y : BS × BS => y.1 == k) = fun y => decide (y.1 = k) from funext fun y => by by_cases e : y.1 = k <;> simp [e], h]
theorem Jka {a : AcE} {k : BS} (h : (a.slots.find? fun y => decide (y.1 = k)) = none) : Qn a k = Wc := by
  unfold Qn VT
  rw [show (fun y : BS × BS => y.1 == k) = fun y => decide (y.1 = k) from funext fun y => by by_cases e : y.1 = k <;> simp [e], h]
theorem Jf4 {α : Type} {kf : α → BS} (x y : α) : Vr kf [x, y] = Op.bytesLess (kf x) (kf y) := by
  rw [Vr, Vr, Bool.and_true]
def Yl (l : List AcE) : Nat → Option BS
  | 0 => none
  | i + 1 => l[i]?.map AcE.addr
theorem Js1 {l : List AcE} {i : Nat} {a : AcE} (h : l[i]? = some a) : goS (Yl l i) (l.drop i) = if Ww (Yl l i) a ≠ 0 then Ww (Yl l i) a else goS (Yl l (i + 1)) (l.drop (i + 1)) := by
  rw [jc h, goS, show Yl l (i + 1) = some a.addr from by show Option.map AcE.addr l[i]? = _; rw [h]; rfl]
theorem YD {s : StL} {i : Nat} {a : AcL} (h : s.accts[i]? = some a) : s.er[i]? = some a.er := by unfold StL.er; rw [List.getElem?_map, h]; rfl
theorem Seg.two {α : Type} {f : α → List Value} {m : Nat} (hf : ∀ x, (f x).length = m) {R : Jo} {xs : List α} {p : Pl} (h : Seg R xs.length (xs.flatMap f) p) {i j : Nat} {x y : α} (hx : xs[j]? = some x) (hy : xs[i]? = some y) (e : j + 1 = i) : Seg R [x, y].length ([x, y].flatMap f) (plS m j p) := by
  subst e
  have hlt := (List.getElem?_eq_some_iff.1 hy).1
  have h1 := h.slice (sz := m) (a := j) (b := j + 2) (KT hf xs) (by omega) (by omega)
  rw [show j + 2 - j = 2 by omega, Jj9 hf hx hy] at h1
  exact h1
theorem Js2 {last : Option BS} {a : AcE} {b : BS} (h : Yy a ≠ 2) (hl : last = some b) (hb : Op.bytesLess b a.addr = false) : Ww last a = 11 := by unfold Ww; rw [if_pos ⟨h, b, hl, hb⟩]
theorem Js3 {last : Option BS} {a : AcE} (h : Yy a = 2 ∨ last = none ∨ ∃ b, last = some b ∧ Op.bytesLess b a.addr = true) : Ww last a = Yy a := by
  unfold Ww
  rw [if_neg]
  rintro ⟨h1, b, h2, h3⟩
  rcases h with h | h | ⟨c, h, h4⟩
  · exact h1 h
  · rw [h] at h2; cases h2
  · rw [h] at h2; cases h2; rw [h3] at h4; cases h4
theorem Js4 {s : StL} {i j : Nat} {x : AcL} (hx : s.accts[j]? = some x) (e : j + 1 = i) : Yl s.er i = some x.addr := by
  subst e; show Option.map AcE.addr s.er[j]? = _; rw [YD hx]; rfl
theorem Js5 (s : StL) : (32 < (s.accts.length : Int) → Qa s.er = 5) ∧ (¬ 32 < (s.accts.length : Int) → Qa s.er = goS none s.er) := by
  unfold Qa
  rw [s.er_len]
  exact ⟨fun h => by rw [if_pos (by omega)], fun h => by rw [if_neg (by omega)]⟩
theorem PureR.mono {P : Program} {f : FuncId} {args : Array Value} {v : Value} {R R' : Jo} (h : PureR P f args v R) (hs : ∀ q ∈ R, q ∈ R') : PureR P f args v R' := ⟨fun w hw => h.run w fun p hp => hw p (hs p hp)⟩
def Vv : V5 → Pl
  | none => none
  | some (r, cap, _) => some (⟨r, 0, none⟩, cap)
theorem Wm (n : Nat) (row : V5) (h : row = none → n = 0) : KP n (Vv row) = JD n row := by
  cases row with
  | none => rw [h rfl]; rfl
  | some q => rfl
theorem Ql {sz n e : Nat} {cs : List Value} {row : V5} (h : rowOk sz n cs row) (h0 : 0 < sz) : Seg (JV e cs row) n cs (Vv row) := by
  cases row with
  | none => exact h.1
  | some q =>
    obtain ⟨r, cap, sp⟩ := q
    obtain ⟨h1, h2⟩ := h
    exact ⟨Nat.le_of_mul_le_mul_right (by omega : n * sz ≤ cap * sz) h0, fun _ => ⟨rfl, _, e, (0, 0), List.mem_cons_self, by simp⟩⟩
theorem Js6 {α : Type} {pr : α → Bool} {xs : List α} {i : Nat} (h : YB pr xs = (i : Int)) : i < xs.length ∧ (xs.take (i + 1)).filter (fun x => !pr x) = xs.take i := by
  unfold YB at h
  split at h
  · rename_i j hj
    obtain rfl : j = i := by omega
    rw [List.findIdx?_eq_some_iff_getElem] at hj
    obtain ⟨h1, h2, h3⟩ := hj
    refine ⟨h1, ?_⟩
    rw [List.take_succ_eq_append_getElem h1, List.filter_append, List.filter_eq_self.2, List.filter_eq_nil_iff.2, List.append_nil]
    · intro x hx
      rw [List.mem_singleton.1 hx]; simp [h2]
    · intro x hx
      obtain ⟨q, hq, rfl⟩ := List.mem_iff_getElem.1 hx
      rw [List.getElem_take]
      simp only [List.length_take] at hq
      simpa using h3 q (by omega)
  · omega
theorem Js7 {α : Type} {pr : α → Bool} {xs : List α} (h : YB pr xs < 0) : xs.filter (fun x => !pr x) = xs := by
  rw [List.filter_eq_self]
  intro x hx
  have := wY h
  rw [List.find?_eq_none] at this
  simpa using this x hx
theorem Ym {α : Type} {pr : α → Bool} {xs : List α} {j : Nat} {x : α} (hx : xs[j]? = some x) : (xs.take (j + 1)).filter pr = (xs.take j).filter pr ++ (if pr x then [x] else []) := by
  obtain ⟨h1, h2⟩ := List.getElem?_eq_some_iff.1 hx
  rw [List.take_succ_eq_append_getElem h1, List.filter_append, h2]
  congr 1
  by_cases h : pr x = true <;> simp [h]
theorem Jdm {α : Type} {f : α → List Value} {xs : List α} {j : Nat} {x : α} (hx : xs[j]? = some x) : (xs.drop j).flatMap f = f x ++ (xs.drop (j + 1)).flatMap f := by rw [jc hx, List.flatMap_cons]
structure AcRes (R : Jo) (e : AcE × Int) : Type where
  a : AcL
  err : Int
  L : Jo
  ok : a.In (L ++ R)
  eq : (a.er, err) = e
structure StRes (R : Jo) (e : List AcE × Int) : Type where
  s : StL
  err : Int
  L : Jo
  ok : s.In (L ++ R)
  eq : (s.er, err) = e
def AcRes.val {R : Jo} {e : AcE × Int} (x : AcRes R e) : Value := .tuple #[x.a.val, .int .i64 x.err]
def StRes.val {R : Jo} {e : List AcE × Int} (x : StRes R e) : Value := .tuple #[x.s.val, .int .i64 x.err]
theorem Zk (n : Nat) (row : V5) : QW (JD n row) = true := by cases row <;> rfl
theorem Jf5 {k v : BS} {l : List (BS × BS)} : (QF Prod.fst (k, v) l).filter (fun x => !decide (x.1 = k)) = q9 Prod.fst k l := by
  rw [← Jhv (kf := Prod.fst) (x := (k, v)) (l := l)]
  unfold q9
  refine List.filter_congr fun x _ => ?_
  by_cases h : x.1 = k <;> simp [h]
theorem Jf6 (a : AcL) : ∀ l : List AcL, (QF AcL.addr a l).map AcL.er = QF AcE.addr a.er (l.map AcL.er)
  | [] => rfl
  | x :: l => by
    rw [List.map_cons, QF, QF]
    show _ = if Op.bytesLess x.addr a.addr then _ else if x.addr = a.addr then _ else _
    split
    · rw [List.map_cons, Jf6 a l]
    · split <;> rfl
theorem Jkb (s : StL) : KG AcL.addr s.accts ↔ KG AcE.addr s.er := by
  unfold StL.er KG
  rw [List.pairwise_map]
  exact Iff.rfl
theorem wZ {R L : Jo} {a : AcL} (ha : a.In R) {k v : BS} (hk : k.length = 32) (hv : v.length = 32) (hlen : (Qk a.slots k v).length ≤ 9223372036854775807) {p : Pl} (hp : Seg L (Qk a.slots k v).length (wQ (Qk a.slots k v)) p) : AcL.In (L ++ R) ⟨a.addr, a.nonce, a.bal, a.code, Qk a.slots k v, p⟩ :=
  ⟨ha.addr, ha.nonce, ha.bal, ha.code, hlen, hp.mono fun q hq => List.mem_append_left _ hq, fun x hx => by
    rcases wT hx with ⟨rfl, _⟩ | hx
    · exact ⟨by show k.length ≤ _; rw [hk]; decide, by show v.length ≤ _; rw [hv]; decide⟩
    · exact ha.slots x hx⟩
inductive EqF (P : Program) (xs ys : List Value) : List Field → Bool → Prop
  | nil : EqF P xs ys [] true
  | scal {f : Field} {fs : List Field} {a b : Value} {r : Bool} (hn : (f.name == "_") = false) (he : Wf P f.type = some false) (ga : Wy xs f.offset = some a) (gb : Wy ys f.offset = some b) (ha : Wi P f.type a = true) (hb : Wi P f.type b = true) (h : EqF P xs ys fs r) : EqF P xs ys (f :: fs) (eqS a b && r)
  | arr {f : Field} {fs : List Field} {n e : Nat} {va vb : List Value} {r : Bool} (hn : (f.name == "_") = false) (ht : jA P f.type = some (n, e)) (hz : KI P f.type = some n) (he : Wf P e = some false) (hs : KI P e = some 1) (ga : (xs.drop f.offset).take n = va) (gb : (ys.drop f.offset).take n = vb) (hla : va.length = n) (hlb : vb.length = n)
      (h1 : va.all (Wi P e) = true) (h2 : vb.all (Wi P e) = true) (h : EqF P xs ys fs r) : EqF P xs ys (f :: fs) (Vq va vb && r)
theorem zK {P : Program} {t n : Nat} {cs va : List Value} {off : Nat} {e m : Nat} (ht : jA P t = some (m, e)) (hz : KI P t = some n) (ga : (cs.drop off).take n = va) (hl : va.length = n) (w : World) : (part t cs.toArray off).run P w = .ok (.agg va.toArray) w := by
  have e1 : (cs.toArray.extract off (off + n)) = va.toArray := by
    apply Array.toList_inj.1
    rw [← ga, List.extract_toArray, List.extract_eq_take_drop, Nat.add_sub_cancel_left]
  unfold part
  simp only [Sem.run_bind, j5 (show Wf P t = some true from by unfold Wf; rw [vE ht]), Result.andThen, V2 hz, if_true, e1]
  rfl
theorem Jat {P : Program} {xs ys : List Value} {d : Nat} {w : World} : ∀ {fs : List Field} {b : Bool}, EqF P xs ys fs b → (Op.eqFields (d + 2) xs.toArray ys.toArray fs).run P w = .ok b w := by
  intro fs b h
  induction h with
  | nil => simp [Op.eqFields]
  | @scal f fs a b r hn he ga gb ha hb h ih =>
    have hn' : f.name ≠ "_" := by intro e; rw [e] at hn; simp at hn
    simp only [Op.eqFields, Sem.run_ite, if_pos hn', Sem.run_bind, Zz he (show xs.toArray[f.offset]? = some a from by rw [List.getElem?_toArray, ← Vk]; exact ga), Zz he (show ys.toArray[f.offset]? = some b from by rw [List.getElem?_toArray, ← Vk]; exact gb), Result.andThen, xD ha hb]
    cases hab : eqS a b
    · simp
    · simpa using ih
  | @arr f fs n e va vb r hn ht hz he hs ga gb hla hlb h1 h2 h ih =>
    have hn' : f.name ≠ "_" := by intro e; rw [e] at hn; simp at hn
    simp only [Op.eqFields, Sem.run_ite, if_pos hn', Sem.run_bind, zK ht hz ga hla, zK ht hz gb hlb, Result.andThen, qy ht he hs hla hlb h1 h2]
    cases hab : Vq va vb
    · simp
    · simpa using ih
section
variable {c : Cx} {l : Ko} {L : Jo} {X : XP} {d : List Deferred}
variable {i : Nat} {t : TypeId} {ps : String} {af : Array Edge} {gd : Option (Nat × Bool)} {ty t2 : TypeId}
theorem Jh5 {x y : Operand} {xs ys : List Value} {b : Bool} (hx : Kg l x = some (.agg xs.toArray)) (hy : Kg l y = some (.agg ys.toArray)) (ht : c.P.underlying t = some (.struct (c.P.fieldsOf t))) (hp : c.P.stoodInHeld t = false) (hgt : c.P.eqGuardType c.P.depth t = false) (hE : EqF c.P xs ys (c.P.fieldsOf t).toList b) :
    J5 c d l L X ⟨some i, .binOp .neq t x y t2, ty, ps, af, gd⟩ (.bool (!b)) := fun a' w hf _ => by
  have hr := run_equalIn_struct (P := c.P) w 9999 t xs.toArray ys.toArray ht hp
  rw [Jat hE] at hr
  have h0 := run_neq_struct (P := c.P) w t xs.toArray ys.toArray
  rw [hr] at h0
  simp only [execOp]
  rw [hf.eval hx, hf.eval hy]
  simp only [Sem.run_bind, run_eqGuard_agg w .neq t x y _ _ hgt, Result.andThen, h0]
  rfl
end
theorem Jh6 (a b : BS) : eqS (J3 a) (J3 b) = decide (a = b) := xC a b
theorem Jh7 (x y : BS × BS) : (eqS (J3 x.1) (J3 y.1) && (eqS (J3 x.2) (J3 y.2) && true)) = decide (x = y) := by
  rw [Jh6, Jh6]
  obtain ⟨a, b⟩ := x
  obtain ⟨c, d⟩ := y
  by_cases h1 : a = c <;> by_cases h2 : b = d <;> simp [h1, h2]
theorem Jn6 {α : Type} {xs ys : List α} {i : Nat} (hl : xs.length = ys.length) (hi : xs.length ≤ i) (h : ∀ j, j < i → xs[j]? = ys[j]?) : xs = ys := by
  apply List.ext_getElem?
  intro j
  by_cases hj : j < i
  · exact h j hj
  · rw [List.getElem?_eq_none (by omega), List.getElem?_eq_none (by omega)]
theorem Jn7 {α : Type} {xs ys : List α} {i : Nat} {x y : α} (hx : xs[i]? = some x) (hy : ys[i]? = some y) (h : ¬ x = y) : ¬ xs = ys := by
  rintro rfl; rw [hx] at hy; exact h (Option.some.inj hy)
theorem eqU (a b : Nat) : eqS (uV a) (uV b) = decide (a = b) := by
  show ((a : Int) == (b : Int)) = _
  by_cases h : a = b
  · subst h; simp
  · have : ¬ (a : Int) = b := by omega
    simp [h, this]
theorem eqW (x y : W4) : Vq [uV x.a, uV x.b, uV x.c, uV x.d] [uV y.a, uV y.b, uV y.c, uV y.d] = decide (x = y) := by
  simp only [Vq, eqU]
  obtain ⟨a, b, c, d⟩ := x
  obtain ⟨a', b', c', d'⟩ := y
  by_cases h1 : a = a' <;> by_cases h2 : b = b' <;> by_cases h3 : c = c' <;> by_cases h4 : d = d' <;> simp [h1, h2, h3, h4]
section
variable {c : Cx} {l : Ko} {L : Jo} {X : XP} {Q : Exit → Act → World → Prop} {d : List Deferred}
variable {ops : Array Oper} {rest : List Oper} {i : Nat} {v : Value} {t : TypeId} {ps : String} {af : Array Edge} {gd : Option (Nat × Bool)} {ty : TypeId}
end
theorem Jdn {ι : Type} {P : Program} {f : FuncId} {fn : Func} {code : Code} {caps : List Value} {Rl : Jo} {p0 : ι} {nx : ι → List Value → Jo → ι → Prop} {fin : ι → Prop} (hf : P.funcs[f]? = some fn) (hb : fn.body = some code) (hlen : Nat.ble (caps.length + 1) fn.ntmps = true)
    (h : ∀ (q : Nat) (xids : List Nat) (w2 : World) (XI : ι → XP) (XF : XP),
      (∀ i v B i', nx i v B i' → ∀ xs w, (∀ k ∈ xs, k < w.heap.size ∧ (k ∈ xids ∨ w2.heap.size ≤ k)) → Keep ([] ++ xids) w2 w → YX xs (XI i) w → vr B w → (∀ p ∈ B, p.1 ∉ xs ∧ p.1 ∉ xids) → YS P q v.toArray xs w (XI i') XF) →
      HC ⟨P, none, w2, [], xids, Rl, fn.ntmps⟩ [] (Vm 0 (.func (.yield q) #[] #[] :: caps)) [] (XI p0) code
        (bodyPostM (FW none) 0 P fn (fun e w' => (∃ v, e = .returned v) ∧ Keep ([] ++ xids) w2 w' ∧ ((∃ i xs, fin i ∧ XI i xs w') ∨ ∃ xs, XF xs w')))) : Jlp P f caps Rl p0 nx fin :=
  fun q xids w2 XI XF hR hlt h0 hY =>
    QH ⟨P, none, w2, [], xids, Rl, fn.ntmps⟩ hf hb rfl rfl rfl hlen
      ⟨Keep.refl _ _, by simp, by simp, fun p hp => ⟨by simp, (hR p hp).1, (hR p hp).2⟩, hlt, xids, fun k hk => ⟨.inl hk, hlt k hk, by simp⟩, h0⟩ (h q xids w2 XI XF hY)
section
variable {c : Cx} {d : List Deferred} {l : Ko} {E : Jo} {X : XP} {S : Jo} {ops : Array Oper} {tb : jI} {rest : List Nat} {T : Jo → Act → Prop} {k i : Nat}
theorem Qe {α : Type} {x0 : α} {V : α → Value} {LL : α → Jo} {Rl : Jo} {f : Operand} {args : Array Operand} {at_ : Array TypeId} {g : FuncId} {vs : List Value} {ty : TypeId} {ps : String} {af : Array Edge} {gd : Option (Nat × Bool)}
    (hk : Wy ops.toList k = some ⟨some i, .call ⟨.value f, args, at_⟩, ty, ps, af, gd⟩) (hg : Kk l ops ⟨some i, .call ⟨.value f, args, at_⟩, ty, ps, af, gd⟩ = some true) (hi : Nat.ble (i + 1) c.n = true) (hA : tb k = .grow (Qz x0 V LL)) (hca : Ky l f args = some (g, vs)) (eg : Enters c.P g)
    (hp : PureT c.P g vs.toArray V [] LL Rl) (hR : ∀ p ∈ Rl, p ∈ S ∨ p ∈ c.R) (h : ∀ x, HB c d ((i, V x) :: l) (LL x ++ E) X S ops tb rest T) : HB c d l E X S ops tb (k :: rest) T :=
  xZ (e := Qz x0 V LL) hk hg rfl hi hA (fun E' hE a w hf hs => Xu hf hca eg ((hp.run w (fun p hp => by cases hp) (fun p hp => (hR p hp).elim (fun h => (hs.own _ (hE p h)).2.2) hs.readR) List.Pairwise.nil (fun p _ q hq => by cases hq)).mono fun _ _ ⟨x, he, hk, h1, h2⟩ => ⟨V x, he, x, rfl, hk, (fun p hp => ⟨((h1 p hp).1).elim (fun h => by cases h) id, (h1 p hp).2⟩), h2⟩)) h
end
theorem Js8 {c : Cx} {d : List Deferred} {l : Ko} {L L' : Jo} {X : XP} {code : Code} {Q : Exit → Act → World → Prop} (hp : L.Perm L') (h : HC c d l L' X code Q) : HC c d l L X code Q := fun a w hf hs => h a w hf (hs.perm hp)
theorem Jdo {α : Type} (A B C : List α) : (A ++ (B ++ C)).Perm (B ++ (A ++ C)) := by
  rw [← List.append_assoc, ← List.append_assoc]
  exact List.perm_append_comm.append_right C
structure AcSt (R : Jo) : Type where
  a : AcL
  L : Jo
  ok : a.In (L ++ R)
structure StSt (R : Jo) : Type where
  s : StL
  L : Jo
  ok : s.In (L ++ R)
def AcSt.next {R : Jo} (s : AcSt R) {e : AcE × Int} (x : AcRes (s.L ++ R) e) : AcSt R := ⟨x.a, x.L ++ s.L, by rw [List.append_assoc]; exact x.ok⟩
def StSt.next {R : Jo} (s : StSt R) {L' : Jo} {e : List AcE × Int} (x : StRes (L' ++ (s.L ++ R)) e) : StSt R := ⟨x.s, x.L ++ (L' ++ s.L), by rw [List.append_assoc, List.append_assoc]; exact x.ok⟩
theorem map_drop {α : Type} (f : Nat → α) {i : Nat} (h : i < 7) : (tab.map f).drop i = f i :: (tab.map f).drop (i + 1) := by
  have : i = 0 ∨ i = 1 ∨ i = 2 ∨ i = 3 ∨ i = 4 ∨ i = 5 ∨ i = 6 := by omega
  rcases this with rfl | rfl | rfl | rfl | rfl | rfl | rfl <;> rfl
def z32 : List UInt8 := List.replicate 32 0
def pairUp : List (List UInt8) → List (List UInt8)
  | a :: b :: l => WU (a ++ b) :: pairUp l
  | _ => []
def Q0 (l : List (List UInt8)) (z : List UInt8) : List (List UInt8) := if l.length % 2 = 1 then l ++ [z] else l
def VU : Nat → List (List UInt8) → List UInt8 → List UInt8
  | 0, l, z => l.headD z
  | k + 1, l, z => VU k (pairUp (Q0 l z)) (WU (z ++ z))
def zM : Nat → List (List UInt8) → List UInt8
  | 0, l => l.headD []
  | k + 1, l => zM k (pairUp l)
theorem W9 : ∀ l : List (List UInt8), (pairUp l).length = l.length / 2
  | [] => by simp [pairUp]
  | [_] => by simp [pairUp]
  | a :: b :: l => by rw [pairUp, List.length_cons, W9 l, List.length_cons, List.length_cons]; omega
theorem yf : ∀ {l m : List (List UInt8)}, l.length % 2 = 0 → pairUp (l ++ m) = pairUp l ++ pairUp m
  | [], m, _ => rfl
  | [_], _, h => by simp at h
  | a :: b :: l, m, h => by
    have h2 : l.length % 2 = 0 := by simp only [List.length_cons] at h; omega
    rw [List.cons_append, List.cons_append, pairUp, pairUp, yf h2, List.cons_append]
theorem yg (z : List UInt8) : ∀ m : Nat, pairUp (List.replicate (2 * m) z) = List.replicate m (WU (z ++ z))
  | 0 => rfl
  | m + 1 => by rw [show 2 * (m + 1) = 2 * m + 1 + 1 by omega, List.replicate_succ, List.replicate_succ, pairUp, yg z m, List.replicate_succ]
theorem X0 (l : List (List UInt8)) (z : List UInt8) : (Q0 l z).length = l.length + l.length % 2 := by
  unfold Q0
  split
  · rename_i h; rw [List.length_append, h]; rfl
  · omega
theorem Jf7 {l : List (List UInt8)} {z : List UInt8} {n : Nat} (h : l.length ≤ 2 * n) : Q0 l z ++ List.replicate (2 * n - (Q0 l z).length) z = l ++ List.replicate (2 * n - l.length) z := by
  rw [X0]
  unfold Q0
  split
  · rename_i h1
    rw [List.append_assoc, h1]
    congr 1
    rw [show 2 * n - l.length = (2 * n - (l.length + 1)) + 1 by omega, List.replicate_succ]; rfl
  · rename_i h1
    rw [show l.length % 2 = 0 by omega]; rfl
theorem Jh8 : ∀ (k : Nat) {l : List (List UInt8)} (z : List UInt8), l.length ≤ 2 ^ k → VU k l z = zM k (l ++ List.replicate (2 ^ k - l.length) z)
  | 0, [], z, _ => rfl
  | 0, [a], z, _ => rfl
  | 0, _ :: _ :: _, z, h => by simp at h
  | k + 1, l, z, h => by
    rw [Nat.pow_succ, Nat.mul_comm] at h
    have h2 := X0 l z
    have hp : (Q0 l z).length % 2 = 0 := by rw [h2]; omega
    rw [VU, zM, Nat.pow_succ, Nat.mul_comm, ← Jf7 h, yf hp, show 2 * 2 ^ k - (Q0 l z).length = 2 * (2 ^ k - (Q0 l z).length / 2) by omega, yg]
    rw [Jh8 k (WU (z ++ z)) (by rw [W9]; omega), W9]
theorem jo (l : List (List UInt8)) : ∀ x ∈ pairUp l, x.length = 32 := by
  induction l using pairUp.induct with
  | case1 a b l ih =>
    intro x hx
    rw [pairUp] at hx
    rcases List.mem_cons.1 hx with hx | hx
    · rw [hx]; exact ZG _
    · exact ih x hx
  | case2 l h =>
    intro x hx
    rw [pairUp.eq_2 l h] at hx
    cases hx
theorem Jkc (k : Nat) : ∀ {l : List (List UInt8)}, l.length = 2 ^ k → (∀ x ∈ l, x.length = 32) → (zM k l).length = 32 := by
  induction k with
  | zero =>
    intro l h1 h2
    match l, h1 with
    | [a], _ => exact h2 a List.mem_cons_self
  | succ k ih =>
    intro l h1 _
    rw [Nat.pow_succ, Nat.mul_comm] at h1
    rw [zM]
    exact ih (by rw [W9, h1]; omega) (jo l)
def lg (m : Nat) : Nat := if m ≤ 1 then 0 else Nat.log2 (m - 1) + 1
theorem Jh9 (m : Nat) : m ≤ 2 ^ lg m := by
  unfold lg
  split
  · simpa using ‹m ≤ 1›
  · have := @Nat.lt_log2_self (m - 1)
    omega
theorem Ju9 {m j : Nat} (h : j < lg m) : 2 ^ j < m := by
  unfold lg at h
  split at h
  · cases h
  · have h1 : 2 ^ j ≤ 2 ^ Nat.log2 (m - 1) := Nat.pow_le_pow_right (by decide) (by omega)
    have h2 := Nat.log2_self_le (n := m - 1) (by omega)
    omega
theorem Jyu {m d : Nat} (h : m ≤ 2 ^ d) : lg m ≤ d := by
  rcases Nat.lt_or_ge d (lg m) with h1 | h1
  · have := Ju9 h1; omega
  · exact h1
def Js9 (n : Nat) (l : List (List UInt8)) : List (List UInt8) := l ++ List.replicate (n - l.length) z32
def Vi (l : List (List UInt8)) (m : Nat) : List UInt8 := zM (lg m) (Js9 (2 ^ lg m) l)
theorem YE {l : List (List UInt8)} {m : Nat} (h : l.length ≤ m) : VU (lg m) l z32 = Vi l m := Jh8 _ _ (Nat.le_trans h (Jh9 m))
theorem Jn8 {n : Nat} {l : List (List UInt8)} (h : l.length ≤ n) : (Js9 n l).length = n := by
  unfold Js9; rw [List.length_append, List.length_replicate]; omega
theorem Jn9 {n : Nat} {l : List (List UInt8)} (h : ∀ x ∈ l, x.length = 32) : ∀ x ∈ Js9 n l, x.length = 32 := by
  intro x hx
  rcases List.mem_append.1 hx with hx | hx
  · exact h x hx
  · rw [(List.mem_replicate.1 hx).2]; rfl
theorem Wd {l : List (List UInt8)} {m : Nat} (h : l.length ≤ m) (h2 : ∀ x ∈ l, x.length = 32) : (Vi l m).length = 32 := Jkc _ (Jn8 (Nat.le_trans h (Jh9 m))) (Jn9 h2)
end Go.SL
namespace Go.Proofs.YteceenlfegnigaaGreatDoor
set_option linter.all false
open Go.SL Go.RowKit Go.Shelf
abbrev VG (r : Nat) : Value := .pointer (some ⟨r, 0, none⟩)
def WG (l : List BS) : List Value := l.map J3
theorem Jta (l : List BS) : (WG l).length = l.length := by unfold WG; rw [List.length_map]
theorem Jau {l : List BS} {i : Nat} {s : BS} (h : l[i]? = some s) : (WG l)[i]? = some (J3 s) := by unfold WG; rw [List.getElem?_map, h]; rfl
theorem Jtb (l : List BS) : (WG l).all QW = true := by
  rw [List.all_eq_true]; intro x hx
  obtain ⟨b, _, rfl⟩ := List.mem_map.1 hx
  rfl
theorem Jf8 (n : Nat) (row : V5) : (JD n row).cells = #[JD n row] := by cases row <;> rfl
theorem Jkd (n : Nat) (row : V5) : QW (JD n row) = true := by cases row <;> rfl
theorem Jf9 {s : BS} (h : s.length ≤ 32) : Pure Tryz.prog 175 [J3 s].toArray (J3 (Y8 s)) := by
  unfold Y8
  refine JG Tryz.func175 rfl rfl fun w => ?_; refine sR fun _ hK1 => Ji rfl (nK hK1 ?_); refine sR fun _ hK2 => LS 2 [] rfl rfl ?_; refine LR rfl (Ke rfl rfl) ?_
  refine JY rfl ?_; refine Jy (show _ = Value.int .i64 ((32 - s.length : Nat) : Int) from by rw [wrap_i64 (by omega) (by omega)]; congr 1 <;> omega) ?_; refine JF rfl rfl rfl Jv8 (q6 (n := 32 - s.length) (by omega)) ?_; rw [jk]; refine LR rfl (V7 (a := s) (b := List.replicate (32 - s.length) 0) rfl rfl (by rw [List.length_replicate]; omega)) ?_; refine Ji rfl (nK hK2 ?_); refine Jb (pT rfl rfl rfl fun w1 hs1 => ?_); exact ⟨rfl, hs1.keep⟩
theorem Joa {R : Jo} {l : List BS} {p : Pl} (hl : l.length ≤ 100000) (hs : Seg R l.length (WG l) p) :
    PureT (α := { row : V5 // rowOk 1 l.length (WG l) row }) Tryz.prog 176 [KP l.length p].toArray (fun x => JD l.length x.1) [] (fun x => JV 9 (WG l) x.1) R := by
  cases p with
  | none =>
    have h0 : l = [] := List.length_eq_zero_iff.1 hs
    subst h0; refine JI Tryz.func176 rfl rfl fun w => ?_; refine sR fun _ hK1 => Ji rfl (nK hK1 ?_); refine sQ fun _ hK2 => sR fun _ hK3 => ?_; refine LS 2 [] rfl rfl (nK hK3 ?_); refine Jc rfl (fun h4 => ?_) (fun h4 => ?_)
    try simp only [ZZ] at h4
    refine sR fun _ hK5 => Ji rfl (nK hK5 ?_); refine Jb (Jd ?_); refine pT rfl rfl rfl fun w1 hs1 => ?_; exact ⟨⟨none, rfl, rfl⟩, rfl, hs1⟩
    try exact Bool.noConfusion h4
  | some q =>
    refine JI Tryz.func176 rfl rfl fun w => ?_; refine sR fun _ hK1 => Ji rfl (nK hK1 ?_); refine sQ fun _ hK2 => sR fun _ hK3 => ?_; refine LS 2 [] rfl rfl (nK hK3 ?_); refine Jc rfl (fun h4 => ?_) (fun h4 => ?_)
    try exact Bool.noConfusion h4
    · try simp only [ZZ] at h4
      refine Jg (hK2 ?_); refine sR fun _ hK6 => ?_; refine Xy rfl rfl rfl rfl fun r1 => ?_; refine Ji rfl (wW (k := 0) (b := 16) (sz := 1) rfl rfl rfl rfl rfl rfl hs (fun q hq => Or.inr hq) rfl rfl rfl rfl rfl (by decide) (by rw [Jta, Nat.mul_one]) (Jtb l) (by omega) (by omega) fun row hrow => (Ji rfl ?_)); refine nK hK6 (Jb ?_); refine pT rfl rfl rfl fun w1 hs1 => ?_; exact ⟨⟨row, hrow⟩, rfl, hs1.weakL (List.sublist_append_left _ _)⟩
theorem Jdp (n : Nat) (row : V5) : PureE (α := Nat) Tryz.prog 177 [JD n row].toArray (fun r => .func (.func 239) #[] #[VG r]) (fun r => [(r, .cells #[JD n row] 109 (0, 0))]) := by
  refine V4 Tryz.func177 rfl rfl fun w => ?_; refine sR fun _ hK1 => ?_; refine Va (cs := #[JD n row]) rfl rfl rfl (Jf8 n row) fun r1 => ?_; refine Ji rfl (nK hK1 ?_); refine sR fun _ hK2 => ?_; refine LR rfl (Ku rfl rfl) ?_; refine Ji rfl (nK hK2 ?_); refine Jb (pT rfl rfl rfl fun w1 hs1 => ?_); exact ⟨r1, rfl, hs1⟩
def Jva (l : List BS) : Nat → List Value → Jo → Nat → Prop := fun i v B i' => 2 * i + 1 < l.length ∧ i' = i + 1 ∧ v = [J3 (l.getD (2 * i) []), J3 (l.getD (2 * i + 1) [])] ∧ B = []
theorem zN {l : List BS} : ∀ i v B i', Jva l i v B i' → v.length = 2 := by rintro _ _ _ _ ⟨_, _, rfl, _⟩; rfl
theorem yh {l : List BS} {i : Nat} (h : i < l.length) : l[i]? = some (l.getD i []) := by rw [List.getD_eq_getElem?_getD, List.getElem?_eq_getElem h]; rfl
theorem Jdq {l : List BS} {row : V5} (hl : l.length ≤ 1000000) (hrow : rowOk 1 l.length (WG l) row) (r : Nat) :
    Jlp Tryz.prog 239 [VG r] ((r, .cells #[JD l.length row] 109 (0, 0)) :: JV 9 (WG l) row) 0 (Jva l) (fun i => ¬ 2 * i + 1 < l.length) := by
  have hs : Seg ((r, .cells #[KP l.length (Vv row)] 109 (0, 0)) :: JV 9 (WG l) row) l.length (WG l) (Vv row) := (Ql hrow (by decide)).mono fun q hq => List.mem_cons_of_mem _ hq
  rw [← Wm _ _ hrow.zero]; refine Jdn Tryz.func239 rfl rfl fun q xids w2 XI XF hY => ?_; refine sR fun _ hK1 => Ji rfl (nK hK1 ?_); refine Js (JL (σ := Nat) (fun i => 2 * i ≤ l.length + 1) (fun i => [(0, .func (.yield q) #[] #[]), (1, VG r), (3, .int .i64 ((2 * i : Nat) : Int))]) (fun _ => []) (fun i => XI i) (fun i => l.length + 1 - 2 * i) 0 (by omega) (.cons rfl (.cons rfl (.cons rfl .nil))) (List.Sublist.refl _) (fun _ _ h => h) ?_); intro i hi1; refine sQ fun _ hK2 => sR fun _ hK3 => ?_; refine Ji rfl ?_
  refine JY rfl ?_; refine Jy (show _ = Value.int .i64 ((2 * i + 1 : Nat) : Int) from by rw [wrap_i64 (by omega) (by omega)]; congr 1 <;> omega) ?_; refine LR rfl (Jk rfl (J7 (k := 0) rfl) rfl rfl) ?_; refine LR rfl (J4 rfl hs rfl) ?_; refine JY rfl (nK hK3 ?_); refine Jc rfl (fun h4 => ?_) (fun h4 => ?_)
  · try simp only [ZZ] at h4
    refine Jg (hK2 ?_); refine sB fun _ hK5 => sQ fun _ hK6 => ?_; refine Kc 10 (by kernel_rfl) (by kernel_rfl) ?_; refine Jl rfl rfl rfl (Jp rfl) ?_; refine Jl rfl rfl rfl (Jk rfl (J7 (k := 0) rfl) rfl rfl) ?_; refine Jl rfl rfl rfl (Jp rfl) ?_
    refine Jl rfl rfl rfl (Jr (j := (2 * i)) rfl hs rfl rfl rfl (by first | rfl | omega) (by omega)) ?_; refine Jl rfl rfl rfl (ZC (fun q hq => Or.inr hq) rfl hs (by omega) rfl (Jau (yh (i := 2 * i) (by omega)))) ?_; refine Jl rfl rfl rfl (Jk rfl (J7 (k := 0) rfl) rfl rfl) ?_; refine Jl rfl rfl rfl (Jp rfl) ?_
    refine Jl rfl rfl rfl (JA rfl rfl rfl) ?_; refine QC (show _ = Value.int .i64 ((2 * i + 1 : Nat) : Int) from by rw [wrap_i64 (by omega) (by omega)]; congr 1 <;> omega) ?_
    refine Jl rfl rfl rfl (Jr (j := (2 * i + 1)) rfl hs rfl rfl rfl (by first | rfl | omega) (by omega)) ?_; refine Jl rfl rfl rfl (ZC (fun q hq => Or.inr hq) rfl hs (by omega) rfl (Jau (yh (i := 2 * i + 1) (by omega)))) ?_; refine KA ?_; refine zk (B := []) (XT := XI (i + 1)) (XF := XF) rfl rfl rfl rfl (hY i [J3 (l.getD (2 * i) []), J3 (l.getD (2 * i + 1) [])] [] (i + 1) ⟨by omega, rfl, rfl, rfl⟩) (fun q hq => nomatch hq) ?_ ?_
    all_goals refine JY rfl ?_
    all_goals refine Jf ?_
    all_goals (
     refine hK6 ?_; refine Jc rfl (fun h7 => ?_) (fun h7 => ?_)
     · try exact Bool.noConfusion h7
       all_goals try simp only [ZZ] at h7
       all_goals (
        refine Jb (Jn (Jd ?_)); refine Jd (Jn ?_); refine Jt rfl rfl .nil (fun w1 hs1 => ?_)
        obtain ⟨xs1, hx1⟩ := hs1.now
        exact ⟨⟨_, rfl⟩, hs1.keep, .inr ⟨_, hx1⟩⟩
        skip)
     · try exact Bool.noConfusion h7
       all_goals try simp only [ZZ] at h7
       all_goals (
        refine Jg (Jj (hK5 ?_)); refine Ja (Ji rfl ?_)
        refine JY rfl ?_; refine Jy (show _ = Value.int .i64 ((2 * (i + 1) : Nat) : Int) from by rw [wrap_i64 (by omega) (by omega)]; congr 1 <;> omega) ?_; refine Ji rfl (Jf (J8 ?_)); exact J2 (i + 1) (by omega) (by omega) (.cons rfl (.cons rfl (.cons rfl .nil))) (List.Sublist.refl _) (fun _ _ h => h)
        skip)
     skip)
  · try simp only [ZZ] at h4
    refine JJ (Jm ?_); refine Jm (J0 ?_); refine QA rfl rfl .nil (fun w1 hs1 => ?_)
    obtain ⟨xs1, hx1⟩ := hs1.now
    exact ⟨⟨_, rfl⟩, hs1.keep, .inl ⟨i, _, by omega, hx1⟩⟩
end Go.Proofs.YteceenlfegnigaaGreatDoor
namespace Go.SL
set_option linter.all false
open Go Go.RowKit Go.Shelf
open Go.Proofs (Enters enters_of)
section
variable {c : Cx} {l : Ko} {L : Jo} {X : XP} {Q : Exit → Act → World → Prop} {d : List Deferred}
theorem Jtc {L' : Jo} {code : Code} (hL : L'.Sublist L) (h : HC c d l L' X code Q) : HC c d l L X code Q := fun a w hf hs => h a w hf (hs.weakL hL)
theorem jT {L' : Jo} {K : Act → World → Prop} (hL : L'.Sublist L) (h : HQ c d l L' X K) : HQ c d l L X K := fun a w hf hs => h a w hf (hs.weakL hL)
def Job {σ : Type} (c : Cx) (DD : σ → List Deferred) (I : σ → Prop) (lI : σ → Ko) (LI : σ → Jo) (XI : σ → XP) (μ : σ → Nat) (s : σ) : Act → World → Prop := fun a w =>
  ∃ s', I s' ∧ μ s' < μ s ∧ Fr c.n (DD s') (lI s') a ∧ St c (LI s') (XI s') w
theorem Joc {σ : Type} {body : Code} (DD : σ → List Deferred) (I : σ → Prop) (lI : σ → Ko) (LI : σ → Jo) (XI : σ → XP) (μ : σ → Nat) (s0 : σ) (hd : DD s0 = d) (h0 : I s0) (hl : LookAll l (lI s0)) (hL : (LI s0).Sublist L) (hX : ∀ xs w, X xs w → XI s0 xs w)
    (hr : ∀ s, I s → HC c (DD s) (lI s) (LI s) (XI s) body (Exit.then (Job c DD I lI LI XI μ s) Q)) : HC c d l L X (.loop body) Q := fun a w hf hs => by
  have least : ∀ p : Nat → Prop, (∃ m, p m) → ∃ m, p m ∧ ∀ k, p k → m ≤ k := by
    intro p ⟨m, hm⟩
    induction m using Nat.strongRecOn with
    | _ m ih =>
      by_cases hx : ∃ k, k < m ∧ p k
      obtain ⟨k, hk, hp⟩ := hx; exact ih k hk hp
      exact ⟨m, hm, fun k hp => Nat.le_of_not_lt fun hlt => hx ⟨k, hlt, hp⟩⟩
  let p : Act → World → Nat → Prop := fun a w m => ∃ s, I s ∧ Fr c.n (DD s) (lI s) a ∧ St c (LI s) (XI s) w ∧ μ s = m
  have meas : ∃ f : Act → World → Nat, ∀ a w, (∃ m, p a w m) → p a w (f a w) ∧ ∀ k, p a w k → f a w ≤ k := by
    have h1 : ∀ a w, ∃ m, (∃ m, p a w m) → p a w m ∧ ∀ k, p a w k → m ≤ k := fun a w => by
      by_cases hx : ∃ m, p a w m
      obtain ⟨m, hm⟩ := least _ hx; exact ⟨m, fun _ => hm⟩
      exact ⟨0, fun hy => absurd hy hx⟩
    exact ⟨fun a w => Classical.choose (h1 a w), fun a w => Classical.choose_spec (h1 a w)⟩
  obtain ⟨f, hfm⟩ := meas
  refine wpIn_loop (fun a w => ∃ m, p a w m) f ⟨μ s0, s0, h0, hd ▸ hf.weak hl.get, (hs.weakL hL).weakX hX, rfl⟩ ?_
  intro a w hp
  obtain ⟨⟨s, h1, h2, h3, h4⟩, _⟩ := hfm a w hp
  refine wpIn_mono (hr s h1 a w h2 h3) ?_
  intro e a' w' hq
  cases e with
  | normal =>
    obtain ⟨s', g1, g2, g3, g4⟩ := hq
    have hp' : p a' w' (μ s') := ⟨s', g1, g3, g4, rfl⟩
    refine ⟨⟨_, hp'⟩, ?_⟩
    have := (hfm a' w' ⟨_, hp'⟩).2 _ hp'
    omega
  | _ => exact hq
theorem zO {σ : Type} {DD : σ → List Deferred} {I : σ → Prop} {lI : σ → Ko} {LI : σ → Jo} {XI : σ → XP} {μ : σ → Nat} {s : σ} (s' : σ) (hd : DD s' = d) (h1 : I s') (h2 : μ s' < μ s) (h3 : LookAll l (lI s')) (h4 : (LI s').Sublist L) (h5 : ∀ xs w, X xs w → XI s' xs w) :
    HQ c d l L X (Job c DD I lI LI XI μ s) := fun _ _ hf hs => ⟨s', h1, h2, hd ▸ hf.weak h3.get, (hs.weakL h4).weakX h5⟩
def WY (Ds : List Nat) : Jo := Ds.map fun D => (D, .deferred (some []))
theorem yi {fn : Func} {R : Ending → World → Prop} {P : Program} : ∀ (Ds : List Nat) (h : HQ c d l L X (bodyPostM (FW none) 0 P fn R .ret)), HQ c (Ds.map Vc ++ d) l (WY Ds ++ L) X (bodyPostM (FW none) 0 P fn R .ret)
  | [], h => h
  | D :: Ds, h => QP (k := 0) rfl rfl (jT (List.sublist_cons_self _ _) (yi Ds h))
end
end Go.SL
namespace Go.Proofs.YteceenlfegnigaaGreatDoor
set_option linter.all false
open Go.SL Go.RowKit Go.Shelf
theorem Jod {k m : Nat} : 2 ^ k < m ↔ k < lg m := by
  constructor
  · intro h
    rcases Nat.lt_or_ge k (lg m) with h1 | h1
    · exact h1
    · have h2 := Jh9 m
      have h3 : 2 ^ lg m ≤ 2 ^ k := Nat.pow_le_pow_right (by decide) h1
      omega
  · exact Ju9
theorem zP (l : List BS) : ∀ {i : Nat}, 2 * i + 1 < l.length → (SL.pairUp l).take (i + 1) = (SL.pairUp l).take i ++ [WU (l.getD (2 * i) [] ++ l.getD (2 * i + 1) [])] := by
  induction l using SL.pairUp.induct with
  | case1 a b l ih =>
    intro i hi
    cases i with
    | zero => rw [SL.pairUp]; rfl
    | succ i =>
      rw [SL.pairUp, List.take_succ_cons, List.take_succ_cons, ih (by simp only [List.length_cons] at hi; omega), show 2 * (i + 1) = 2 * i + 1 + 1 by omega, show 2 * i + 1 + 1 + 1 = 2 * i + 1 + 1 + 1 by rfl]
      rfl
  | case2 l h =>
    intro i hi
    match l, h with
    | [], _ => simp at hi
    | [a], _ => simp at hi
    | a :: b :: l, h => exact absurd rfl (h a b l)
theorem vj (l : List BS) (z : BS) : (Q0 l z).length % 2 = 0 := by rw [X0]; omega
theorem yj {l : List BS} {z : BS} (h : ∀ x ∈ l, x.length = 32) (hz : z.length = 32) : ∀ x ∈ Q0 l z, x.length = 32 := by
  intro x hx
  unfold Q0 at hx
  split at hx
  · rcases List.mem_append.1 hx with hx | hx
    · exact h x hx
    · rw [List.mem_singleton.1 hx]; exact hz
  · exact h x hx
theorem jU {l : List BS} (h : ∀ x ∈ l, x.length = 32) {i : Nat} (hi : i < l.length) : (l.getD i []).length = 32 := h _ (List.mem_of_getElem? (yh hi))
theorem Jdr {n : Nat} (h : n ≤ 65536) : IntKind.i64.wrap ((n : Int) * 2) = ((n * 2 : Nat) : Int) := by
  rw [wrap_i64 (by omega) (by omega)]; omega
structure TreeI (l0 : List BS) (m : Nat) (k : Nat) (ls : List BS) (row : V5) (z : BS) : Prop where
  le : k ≤ lg m
  ok : rowOk 1 ls.length (WG ls) row
  eq : VU (lg m - k) ls z = Vi l0 m
  len : ls.length ≤ 2 ^ (lg m - k)
  mem : ∀ x ∈ ls, x.length = 32
  zl : z.length = 32
set_option maxHeartbeats 1000000 in
theorem vU {R : Jo} {l : List BS} {p : Pl} {m : Nat} (hl : l.length ≤ m) (hm2 : m ≤ 65536) (hs : Seg R l.length (WG l) p) (h32 : ∀ s ∈ l, s.length = 32) :
    PureR Tryz.prog 134 [KP l.length p, .int .i64 (m : Int)].toArray (J3 (Vi l m)) R := by
  have hlg : lg m ≤ 16 := Jyu (by simpa using hm2)
  have h0 := YE hl
  refine Je Tryz.func134 rfl rfl fun w => ?_; refine sR fun _ hK1 => Ji rfl (nK hK1 ?_); refine sR fun _ hK2 => Ji rfl (Qd rfl rfl rfl (enters_of Tryz.func176 (by kernel_rfl) rfl) (Joa (by omega) hs) (fun q hq => Or.inr hq) fun x => ?_)
  obtain ⟨row, hrow⟩ := x
  refine KC (List.perm_append_comm (l₂ := [])) ?_; change HL _ _ ((11, JD l.length row) :: _) (JV 9 (WG l) row) _ _ _ _; refine Ji rfl (nK hK2 ?_); refine sR fun _ hK3 => ?_; refine JF rfl rfl rfl Jmr (Jf9 (s := []) (by decide)) ?_; refine Jy (show _ = J3 z32 from rfl) ?_; refine Ji rfl (nK hK3 ?_); refine sQ fun _ hK4 => sR fun _ hK5 => ?_; refine Ji rfl (nK hK5 ?_); refine Js (Joc (σ := Nat × List BS × V5 × BS × List Nat) (fun q => q.2.2.2.2.map Vc ++ []) (fun q => TreeI l m q.1 q.2.1 q.2.2.1 q.2.2.2.1) (fun q => [(0, JD q.2.1.length q.2.2.1), (1, .int .i64 (m : Int)), (5, J3 q.2.2.2.1), (6, .int .i64 ((2 ^ q.1 : Nat) : Int))]) (fun q => WY q.2.2.2.2 ++ JV 9 (WG q.2.1) q.2.2.1) (fun _ _ _ => True) (fun q => lg m - q.1) (0, l, row, z32, []) rfl ⟨Nat.zero_le _, hrow, h0, Nat.le_trans hl (Jh9 m), h32, rfl⟩ (.cons rfl (.cons rfl (.cons rfl (.cons rfl .nil)))) (List.Sublist.refl _) (fun _ _ h => h) ?_); rintro ⟨k, ls, row, z, Ds⟩ hi; simp only at hi; change HC _ (Ds.map Vc ++ []) [(0, JD ls.length row), (1, _), (5, J3 z), (6, .int .i64 ((2 ^ k : Nat) : Int))] (WY Ds ++ JV _ (WG ls) row) _ _ _; refine sQ fun _ hK6 => sR fun _ hK7 => ?_; refine LS 3 [] rfl rfl (nK hK7 ?_); refine Jc rfl (fun h8 => ?_) (fun h8 => ?_)
  · try simp only [ZZ] at h8
    refine Jg (hK6 ?_); refine sB fun _ hK9 => sQ fun _ hK10 => ?_; refine sQ fun _ hK11 => ?_
    have hk : k < lg m := Jod.1 (by omega)
    obtain ⟨K, hK⟩ : ∃ K, lg m - k = K + 1 := ⟨lg m - k - 1, by omega⟩
    have heq := hi.eq
    have hlen := hi.len
    rw [hK, VU] at heq; rw [hK, Nat.pow_succ] at hlen
    have hK16 : 2 ^ K ≤ 65536 := by have := Nat.pow_le_pow_right (n := 2) (i := K) (j := 16) (by decide) (by omega); simpa using this
    have hzl := hi.zl
    have hk16 : 2 ^ k ≤ 65536 := by have := Nat.pow_le_pow_right (n := 2) (i := k) (j := 16) (by decide) (by omega); simpa using this
    refine Ja (Ji rfl (LR rfl (Xt rfl hi.ok.zero rfl) ?_)); refine JY rfl (Jy (show _ = Value.int .i64 ((ls.length % 2 : Nat) : Int) from congrArg (Value.int .i64) (WE _ 2)) (JY rfl ?_)); refine nK hK11 ?_; refine Jc rfl (fun h12 => ?_) (fun h12 => ?_)
    · try simp only [ZZ] at h12
      refine Ja (LS 2 [] rfl rfl ?_); refine Ki (vs := [_]) (zs := [_]) (r := [_]) rfl rfl rfl rfl rfl rfl rfl rfl rfl (by show (madeCells #[_] _).toList = _; rw [VP]; exact rfl) rfl fun r1 => ?_; refine Km (L0 := _ :: WY Ds) (xs := WG ls) (row := row) (n := ls.length) (sz := 1) (b := 16) (news := [_]) (List.perm_append_comm (l₁ := _ :: WY Ds)) rfl rfl rfl rfl (kn 0 rfl) rfl rfl rfl rfl rfl (by decide) rfl rfl rfl (by decide) hi.ok (by omega) (by omega) fun ra cap sp hra => ?_; refine Ji rfl (nK hK10 ?_); refine sQ fun _ hK13 => ?_
      (have e : Q0 ls z = ls ++ [z] := by unfold Q0; rw [if_pos (by omega)]
       refine Js8 (List.perm_append_comm (l₁ := [_])) ?_; refine Jtc (L' := WY Ds ++ JV 9 (WG ls ++ [J3 z]) (some (ra, cap, sp))) (.cons _ (List.Sublist.refl _)) ?_; change HC _ _ ((0, JD (ls.length + 1) (some (ra, cap, sp))) :: _) _ _ _ _
       generalize hn2 : ls.length + 1 = n2 at hra ⊢
       generalize hc2 : WG ls ++ [J3 z] = xs2 at hra ⊢
       generalize (some (ra, cap, sp) : V5) = row2 at hra ⊢
       obtain rfl : n2 = (Q0 ls z).length := by rw [e, ← hn2, List.length_append]; rfl
       obtain rfl : xs2 = WG (Q0 ls z) := by rw [e, ← hc2]; unfold WG; rw [List.map_append]; rfl)
      have hm2e := yj hi.mem hi.zl
      have hev := vj ls z
      have hl2 := X0 ls z
      obtain ⟨ls2, hls2⟩ : ∃ x, x = Q0 ls z := ⟨_, rfl⟩
      rw [← hls2] at hm2e hev hl2 hra heq ⊢
      have hl2b : ls2.length ≤ 2 ^ K * 2 := by omega
      refine Ja (LN rfl fun r1 => ?_); refine nK hK13 (sQ fun _ hK14 => ?_); refine sR fun _ hK15 => ?_; refine Ji rfl (Vx rfl rfl rfl (enters_of Tryz.func177 (by kernel_rfl) rfl) (Jdp ls2.length row2) fun rb => (KC ((List.Perm.swap _ _ _).trans (List.Perm.cons _ List.perm_middle.symm)) ?_)); change HL _ _ _ ((r1, .cells #[.slice none 0 0] 109 (0, 0)) :: (WY Ds ++ ((rb, .cells #[JD ls2.length row2] 109 (0, 0)) :: JV 9 (WG ls2) row2))) _ _ _ _; refine nK hK15 (Js ?_); refine qv (τ := Unit) (fun i (s : Nat × List Value × V5) => 2 * i ≤ ls2.length ∧ s.1 = i ∧ s.2.1 = WG ((SL.pairUp ls2).take i) ∧ rowOk 1 i s.2.1 s.2.2) (fun s => (r1, .cells #[JD s.1 s.2.2] 109 (0, 0)) :: JV 9 s.2.1 s.2.2) (fun _ _ => False) (fun _ => []) (WY Ds ++ ((rb, .cells #[JD ls2.length row2] 109 (0, 0)) :: JV 9 (WG ls2) row2)) (0, [], none) rfl rfl (enters_of Tryz.func239 (by kernel_rfl) rfl) (Jdq (by omega) hra rb) zN rfl (fun q hq => .inl (List.mem_append_right _ hq)) rfl ⟨Nat.zero_le _, rfl, rfl, rfl, rfl⟩ ?_ ?_ ?_
      rintro q Xr Xb w3 i _ _ _ ⟨n, xs, row3⟩ ⟨hii, rfl, rfl, rfl⟩ ⟨h2i, hn, hxs, hr3⟩ Kr hKr
      simp only at hn hxs hr3; rw [← hn] at hr3; refine sR fun _ hK16 => Ji rfl (nK hK16 ?_); refine Ja (Ji rfl (Jf ?_)); refine hKr _ _ ?_; clear hKr; refine Js ?_
      have hg1 := jU hm2e (i := 2 * i) (by omega)
      have hg2 := jU hm2e (i := 2 * i + 1) (by omega)
      have hkc := Jc6 (s := ls2.getD (2 * i) [] ++ ls2.getD (2 * i + 1) []) (by rw [List.length_append]; omega)
      obtain ⟨sv, hsv⟩ : ∃ x, x = WU (ls2.getD (2 * i) [] ++ ls2.getD (2 * i + 1) []) := ⟨_, rfl⟩
      rw [← hsv] at hkc; refine Jb4 [(r1, .cells #[JD n row3] 109 (0, 0))] [(0, .pure), (1, .pure), (2, .pure), (3, .pure), (4, .pure), (5, .act (Jgy (slV 1) (.cells #[J3 sv] 9 (0, 0))))] 6 (by kernel_rfl) (by kernel_rfl) (fun p hp => List.mem_singleton.1 hp ▸ List.mem_cons_self) ?_; refine Jb5 rfl rfl rfl rfl (fun _ hS => (Jk rfl (.inl (hS _ (Kw (n := 0) rfl))) rfl rfl)) ?_; refine Jb5 rfl rfl rfl rfl (fun _ hS => (Jp rfl)) ?_; refine Jb5 rfl rfl rfl rfl (fun _ hS => (Jp rfl)) ?_; refine Jb5 rfl rfl rfl rfl (fun _ hS => (V7 (a := ls2.getD (2 * i) []) (b := ls2.getD (2 * i + 1) []) rfl rfl (by omega))) ?_; refine Jb6 rfl rfl rfl rfl Jcg hkc ?_; refine ja (n := 1) (sz := 1) (vs := [_]) (zs := [_]) (r := [J3 sv]) rfl rfl rfl rfl rfl rfl rfl rfl rfl rfl (by show (madeCells #[_] _).toList = _; rw [VP]; exact rfl) rfl (fun p hp => List.mem_singleton.1 hp ▸ List.mem_cons_self) fun rv => ?_; refine Jlz ?_; refine Km (L0 := [_, _]) (xs := xs) (row := row3) (n := n) (sz := 1) (b := 16) (news := [J3 sv]) (List.perm_append_comm (l₁ := [_, _])) rfl rfl rfl rfl (kn 0 rfl) rfl rfl rfl rfl rfl (by decide) rfl rfl rfl (by decide) hr3 (by omega) (by omega) fun ra cap sp hra => ?_; refine Kx (k := 2) (cs' := #[JD (n + 1) (some (ra, cap, sp))]) rfl rfl rfl rfl rfl rfl rfl rfl rfl rfl ?_; refine Jf (Jj (Vo [2, 0] (L' := [_, _]) (by decide) rfl ?_)); exact QS (n + 1, xs ++ [J3 sv], some (ra, cap, sp)) ⟨by omega, by simp only; omega, by simp only; rw [zP ls2 hii, ← hsv, hxs]; unfold WG; rw [List.map_append]; rfl, by rw [← hn]; exact hra⟩ rfl
      rintro D i ⟨n, xs, row3⟩ hfi ⟨h2i, hn, hxs, hr3⟩
      simp only at hn hxs hr3
      have hi2 : 2 * i = ls2.length := by omega
      have hpl := W9 ls2
      rw [List.take_of_length_le (by omega)] at hxs
      obtain rfl : n = (SL.pairUp ls2).length := by omega
      subst hxs; rw [← hn] at hr3; refine Jj (hK14 ?_)
      have hkz := Jc6 (s := z ++ z) (by rw [List.length_append]; omega)
      obtain ⟨z2, hz2⟩ : ∃ x, x = WU (z ++ z) := ⟨_, rfl⟩
      rw [← hz2] at hkz heq; refine Kc 7 (by kernel_rfl) (by kernel_rfl) ?_; refine Jl rfl rfl rfl (Jk (v := JD (SL.pairUp ls2).length row3) rfl (kn 1 rfl) rfl rfl) ?_; refine Jl rfl rfl rfl (Jp rfl) ?_; refine Jl rfl rfl rfl (Jp rfl) ?_; refine Jl rfl rfl rfl (V7 (a := z) (b := z) rfl rfl (by omega)) ?_; refine QB rfl rfl rfl Jcg hkz ?_; refine Jl rfl rfl rfl (JO rfl) ?_; refine Jl rfl rfl rfl (JO rfl) ?_; refine KA ?_; refine Jf (Jj (hK9 ?_)); refine Ja (LS 2 [] rfl rfl (Jy (show _ = Value.int .i64 ((2 ^ (k + 1) : Nat) : Int) from congrArg (Value.int .i64) ((Jdr hk16).trans (by rw [Nat.pow_succ]))) ?_)); refine Ji rfl (Jf (J8 ?_)); refine xA (List.Perm.cons _ (Jdo (_ :: JV 9 (WG (SL.pairUp ls2)) row3) (WY Ds) _)) ?_; exact zO (k + 1, SL.pairUp ls2, row3, z2, D :: Ds) rfl ⟨hk, hr3, by rw [show lg m - (k + 1) = K by omega]; exact heq, by rw [show lg m - (k + 1) = K by omega]; simp only; omega, jo ls2, by rw [hz2]; exact ZG _⟩ (by simp only; omega) (.cons rfl (.cons rfl (.cons rfl (.cons rfl .nil)))) (.cons_cons _ ((List.Sublist.refl _).append (.cons _ (List.sublist_append_left _ _)))) (fun _ _ h => h)
      exact fun _ _ _ h => h.elim
    · try simp only [ZZ] at h12
      refine Jg (hK10 ?_); refine sQ fun _ hK17 => ?_
      (have e : Q0 ls z = ls := by unfold Q0; rw [if_neg (by omega)]
       have hra := hi.ok
       generalize row = row2 at hra ⊢
       generalize hn2 : ls.length = n2 at hra ⊢
       generalize hc2 : WG ls = xs2 at hra ⊢
       obtain rfl : n2 = (Q0 ls z).length := by rw [e, ← hn2]
       obtain rfl : xs2 = WG (Q0 ls z) := by rw [e, ← hc2])
      have hm2e := yj hi.mem hi.zl
      have hev := vj ls z
      have hl2 := X0 ls z
      obtain ⟨ls2, hls2⟩ : ∃ x, x = Q0 ls z := ⟨_, rfl⟩
      rw [← hls2] at hm2e hev hl2 hra heq ⊢
      have hl2b : ls2.length ≤ 2 ^ K * 2 := by omega
      refine Ja (LN rfl fun r1 => ?_); refine nK hK17 (sQ fun _ hK18 => ?_); refine sR fun _ hK19 => ?_; refine Ji rfl (Vx rfl rfl rfl (enters_of Tryz.func177 (by kernel_rfl) rfl) (Jdp ls2.length row2) fun rb => (KC ((List.Perm.swap _ _ _).trans (List.Perm.cons _ List.perm_middle.symm)) ?_)); change HL _ _ _ ((r1, .cells #[.slice none 0 0] 109 (0, 0)) :: (WY Ds ++ ((rb, .cells #[JD ls2.length row2] 109 (0, 0)) :: JV 9 (WG ls2) row2))) _ _ _ _; refine nK hK19 (Js ?_); refine qv (τ := Unit) (fun i (s : Nat × List Value × V5) => 2 * i ≤ ls2.length ∧ s.1 = i ∧ s.2.1 = WG ((SL.pairUp ls2).take i) ∧ rowOk 1 i s.2.1 s.2.2) (fun s => (r1, .cells #[JD s.1 s.2.2] 109 (0, 0)) :: JV 9 s.2.1 s.2.2) (fun _ _ => False) (fun _ => []) (WY Ds ++ ((rb, .cells #[JD ls2.length row2] 109 (0, 0)) :: JV 9 (WG ls2) row2)) (0, [], none) rfl rfl (enters_of Tryz.func239 (by kernel_rfl) rfl) (Jdq (by omega) hra rb) zN rfl (fun q hq => .inl (List.mem_append_right _ hq)) rfl ⟨Nat.zero_le _, rfl, rfl, rfl, rfl⟩ ?_ ?_ ?_
      rintro q Xr Xb w3 i _ _ _ ⟨n, xs, row3⟩ ⟨hii, rfl, rfl, rfl⟩ ⟨h2i, hn, hxs, hr3⟩ Kr hKr
      simp only at hn hxs hr3; rw [← hn] at hr3; refine sR fun _ hK20 => Ji rfl (nK hK20 ?_); refine Ja (Ji rfl (Jf ?_)); refine hKr _ _ ?_; clear hKr; refine Js ?_
      have hg1 := jU hm2e (i := 2 * i) (by omega)
      have hg2 := jU hm2e (i := 2 * i + 1) (by omega)
      have hkc := Jc6 (s := ls2.getD (2 * i) [] ++ ls2.getD (2 * i + 1) []) (by rw [List.length_append]; omega)
      obtain ⟨sv, hsv⟩ : ∃ x, x = WU (ls2.getD (2 * i) [] ++ ls2.getD (2 * i + 1) []) := ⟨_, rfl⟩
      rw [← hsv] at hkc; refine Jb4 [(r1, .cells #[JD n row3] 109 (0, 0))] [(0, .pure), (1, .pure), (2, .pure), (3, .pure), (4, .pure), (5, .act (Jgy (slV 1) (.cells #[J3 sv] 9 (0, 0))))] 6 (by kernel_rfl) (by kernel_rfl) (fun p hp => List.mem_singleton.1 hp ▸ List.mem_cons_self) ?_; refine Jb5 rfl rfl rfl rfl (fun _ hS => (Jk rfl (.inl (hS _ (Kw (n := 0) rfl))) rfl rfl)) ?_; refine Jb5 rfl rfl rfl rfl (fun _ hS => (Jp rfl)) ?_; refine Jb5 rfl rfl rfl rfl (fun _ hS => (Jp rfl)) ?_; refine Jb5 rfl rfl rfl rfl (fun _ hS => (V7 (a := ls2.getD (2 * i) []) (b := ls2.getD (2 * i + 1) []) rfl rfl (by omega))) ?_; refine Jb6 rfl rfl rfl rfl Jcg hkc ?_; refine ja (n := 1) (sz := 1) (vs := [_]) (zs := [_]) (r := [J3 sv]) rfl rfl rfl rfl rfl rfl rfl rfl rfl rfl (by show (madeCells #[_] _).toList = _; rw [VP]; exact rfl) rfl (fun p hp => List.mem_singleton.1 hp ▸ List.mem_cons_self) fun rv => ?_; refine Jlz ?_; refine Km (L0 := [_, _]) (xs := xs) (row := row3) (n := n) (sz := 1) (b := 16) (news := [J3 sv]) (List.perm_append_comm (l₁ := [_, _])) rfl rfl rfl rfl (kn 0 rfl) rfl rfl rfl rfl rfl (by decide) rfl rfl rfl (by decide) hr3 (by omega) (by omega) fun ra cap sp hra => ?_; refine Kx (k := 2) (cs' := #[JD (n + 1) (some (ra, cap, sp))]) rfl rfl rfl rfl rfl rfl rfl rfl rfl rfl ?_; refine Jf (Jj (Vo [2, 0] (L' := [_, _]) (by decide) rfl ?_)); exact QS (n + 1, xs ++ [J3 sv], some (ra, cap, sp)) ⟨by omega, by simp only; omega, by simp only; rw [zP ls2 hii, ← hsv, hxs]; unfold WG; rw [List.map_append]; rfl, by rw [← hn]; exact hra⟩ rfl
      rintro D i ⟨n, xs, row3⟩ hfi ⟨h2i, hn, hxs, hr3⟩
      simp only at hn hxs hr3
      have hi2 : 2 * i = ls2.length := by omega
      have hpl := W9 ls2
      rw [List.take_of_length_le (by omega)] at hxs
      obtain rfl : n = (SL.pairUp ls2).length := by omega
      subst hxs; rw [← hn] at hr3; refine Jj (hK18 ?_)
      have hkz := Jc6 (s := z ++ z) (by rw [List.length_append]; omega)
      obtain ⟨z2, hz2⟩ : ∃ x, x = WU (z ++ z) := ⟨_, rfl⟩
      rw [← hz2] at hkz heq; refine Kc 7 (by kernel_rfl) (by kernel_rfl) ?_; refine Jl rfl rfl rfl (Jk (v := JD (SL.pairUp ls2).length row3) rfl (kn 1 rfl) rfl rfl) ?_; refine Jl rfl rfl rfl (Jp rfl) ?_; refine Jl rfl rfl rfl (Jp rfl) ?_; refine Jl rfl rfl rfl (V7 (a := z) (b := z) rfl rfl (by omega)) ?_; refine QB rfl rfl rfl Jcg hkz ?_; refine Jl rfl rfl rfl (JO rfl) ?_; refine Jl rfl rfl rfl (JO rfl) ?_; refine KA ?_; refine Jf (Jj (hK9 ?_)); refine Ja (LS 2 [] rfl rfl (Jy (show _ = Value.int .i64 ((2 ^ (k + 1) : Nat) : Int) from congrArg (Value.int .i64) ((Jdr hk16).trans (by rw [Nat.pow_succ]))) ?_)); refine Ji rfl (Jf (J8 ?_)); refine xA (List.Perm.cons _ (Jdo (_ :: JV 9 (WG (SL.pairUp ls2)) row3) (WY Ds) _)) ?_; exact zO (k + 1, SL.pairUp ls2, row3, z2, D :: Ds) rfl ⟨hk, hr3, by rw [show lg m - (k + 1) = K by omega]; exact heq, by rw [show lg m - (k + 1) = K by omega]; simp only; omega, jo ls2, by rw [hz2]; exact ZG _⟩ (by simp only; omega) (.cons rfl (.cons rfl (.cons rfl (.cons rfl .nil)))) (.cons_cons _ ((List.Sublist.refl _).append (.cons _ (List.sublist_append_left _ _)))) (fun _ _ h => h)
      exact fun _ _ _ h => h.elim
  · try simp only [ZZ] at h8
    refine JJ (Jm ?_); refine Jm (J0 (hK4 ?_)); refine sQ fun _ hK21 => sQ fun _ hK22 => ?_
    have hkl : ¬ k < lg m := fun h => by have := Jod.2 h; omega
    obtain rfl : k = lg m := by have := hi.le; omega
    have heq := hi.eq
    have hlen := hi.len
    rw [Nat.sub_self] at heq hlen; refine Ja (Ji rfl (LR rfl (Xt rfl hi.ok.zero rfl) ?_)); refine JY rfl (nK hK22 ?_); refine Jc rfl (fun h23 => ?_) (fun h23 => ?_)
    try simp only [ZZ] at h23
    refine sR fun _ hK24 => LS 2 [] rfl rfl (nK hK24 ?_); refine Jb (Jd ?_); refine yi Ds ?_; refine pT rfl rfl rfl fun w1 hs1 => ?_; refine ⟨?_, hs1.keep⟩
    (obtain rfl : ls = [] := List.eq_nil_of_length_eq_zero (by omega)
     rw [← heq]; rfl)
    · try simp only [ZZ] at h23
      refine Jg (hK21 ?_); refine sQ fun _ hK25 => ?_
      obtain ⟨s0, hls1⟩ : ∃ s0, ls = [s0] := by
        match ls, hlen with
        | [a], _ => exact ⟨a, rfl⟩
        | [], _ => exact absurd rfl (by assumption)
        | _ :: _ :: _, h => simp at h
      refine Ja (Ji rfl ?_); refine LR rfl (Jr (p := Vv row) (j := 0) (show _ = some (KP ls.length (Vv row)) from by rw [Wm _ _ hi.ok.zero]; rfl) (Ql (e := 9) hi.ok (by decide)) rfl rfl rfl rfl (by omega)) ?_; refine LR rfl (ZC (p := Vv row) (fun q hq => Or.inl (List.mem_append_right _ hq)) rfl (Ql (e := 9) hi.ok (by decide)) (by omega) rfl (Jau (show ls[0]? = some s0 from by rw [hls1]; rfl))) ?_; refine Ji rfl (nK hK25 ?_); refine Jb (yi Ds ?_); refine pT rfl rfl rfl fun w1 hs1 => ?_; refine ⟨?_, hs1.keep⟩; rw [← heq, hls1]; rfl
abbrev fV1 (f : FuncId) : Value := .func (.func f) #[] #[]
def XZ (root : BS) (n : Nat) : BS := WU (root ++ Y8 (YV n 8))
theorem le8 {n : Nat} (h : n < 18446744073709551616) : zz n 8 = (YV n 8, 0) := by
  unfold zz
  rw [if_neg]
  · rfl
  · have := (Jhn (n := n) (k := 8) h (by decide)).2 (by simpa using h)
    omega
theorem Joe {root : BS} (hr : root.length ≤ 1000) {n : Nat} (hn : n ≤ 9223372036854775807) : Pure Tryz.prog 129 [J3 root, .int .i64 (n : Int)].toArray (J3 (XZ root n)) := by
  have hk := Jc6 (s := root ++ Y8 (YV n 8)) (by rw [List.length_append, WO (by rw [Qv]; decide)]; omega)
  change Pure _ _ _ (J3 (XZ root n)) at hk
  have hp := WO (s := YV n 8) (by rw [Qv]; decide)
  generalize XZ root n = z at hk
  refine JG Tryz.func129 rfl rfl fun w => ?_; refine sR fun _ hK1 => Ji rfl (nK hK1 ?_); refine sR fun _ hK2 => LS 2 [] rfl rfl ?_; refine Jy (show _ = uV n from congrArg (Value.int .u64) (wrap_u64 (z := (n : Int)) (by omega) (by omega))) ?_; refine JF rfl rfl rfl (enters_of Tryz.func166 (by kernel_rfl) rfl) (Jcu (n := n) (by omega) 8) ?_; refine Jy (show _ = Value.tuple #[J3 (YV n 8), .int .i64 0] from by rw [le8 (by omega)]; rfl) ?_; refine LS 5 [] rfl rfl (nK hK2 ?_); refine sR fun _ hK3 => LS 2 [] rfl rfl ?_; refine JF rfl rfl rfl Jmr (Jf9 (s := YV n 8) (by rw [Qv]; decide)) ?_; refine LR rfl (V7 (a := root) (b := Y8 (YV n 8)) rfl rfl (by omega)) ?_; refine JF rfl rfl rfl Jcg hk ?_; refine Ji rfl (nK hK3 ?_); refine Jb (pT rfl rfl rfl fun w1 hs1 => ?_); exact ⟨rfl, hs1.keep⟩
theorem Zl (l : List BS) (s : BS) : WG (l ++ [s]) = WG l ++ [J3 s] := by unfold WG; rw [List.map_append]; rfl
theorem Yn {Y : BS} {i : Nat} (h : i < Y.length) : (Y.map bV)[i]? = some (bV (Y.getD i 0)) := by
  rw [List.getElem?_map, List.getD_eq_getElem?_getD, List.getElem?_eq_getElem h]; rfl
def YF (xs : BS) : Nat → BS
  | 0 => xs
  | i + 1 => ((YF xs i).set i ((YF xs i).getD (xs.length - 1 - i) 0)).set (xs.length - 1 - i) ((YF xs i).getD i 0)
theorem Yo (xs : BS) : ∀ i, (YF xs i).length = xs.length
  | 0 => rfl
  | i + 1 => by rw [YF, List.length_set, List.length_set, Yo xs i]
theorem getD_set {Y : BS} {i j : Nat} {b : UInt8} (hi : i < Y.length) : (Y.set i b).getD j 0 = if i = j then b else Y.getD j 0 := by
  rw [List.getD_eq_getElem?_getD, List.getElem?_set, List.getD_eq_getElem?_getD]
  split
  · first | rfl | (rw [if_pos hi]; rfl) | simp [hi]
  · rfl
theorem jV (xs : BS) : ∀ {i j : Nat}, 2 * i ≤ xs.length → j < xs.length → (YF xs i).getD j 0 = if j < i ∨ xs.length - 1 - j < i then xs.getD (xs.length - 1 - j) 0 else xs.getD j 0
  | 0, j, _, hj => by rw [YF, if_neg (by omega)]
  | i + 1, j, hi, hj => by
    have h1 := Yo xs i
    have ga := jV xs (i := i) (j := xs.length - 1 - i) (by omega) (by omega)
    have gb := jV xs (i := i) (j := i) (by omega) (by omega)
    have gj := jV xs (i := i) (j := j) (by omega) hj
    rw [if_neg (by omega)] at ga gb; rw [YF, getD_set (by rw [List.length_set, h1]; omega), getD_set (by rw [h1]; omega), ga, gb, gj]
    by_cases e1 : xs.length - 1 - i = j
    · rw [if_pos e1, if_pos (by omega)]
      congr 1; omega
    · rw [if_neg e1]
      by_cases e2 : i = j
      · rw [if_pos e2, if_pos (by omega)]
        congr 1; omega
      · rw [if_neg e2]
        by_cases e3 : j < i ∨ xs.length - 1 - j < i
        · rw [if_pos e3, if_pos (by omega)]
        · rw [if_neg e3, if_neg (by omega)]
theorem Jds {xs : BS} {i : Nat} (h1 : 2 * i ≤ xs.length) (h2 : xs.length ≤ 2 * i + 1) : YF xs i = xs.reverse := by
  apply List.ext_getElem?
  intro j
  by_cases hj : j < xs.length
  · have e1 : (YF xs i)[j]? = some ((YF xs i).getD j 0) := by rw [List.getD_eq_getElem?_getD, List.getElem?_eq_getElem (by rw [Yo]; exact hj)]; rfl
    rw [e1, jV xs h1 hj, List.getElem?_reverse hj]
    have e2 : xs[xs.length - 1 - j]? = some (xs.getD (xs.length - 1 - j) 0) := by rw [List.getD_eq_getElem?_getD, List.getElem?_eq_getElem (by omega)]; rfl
    rw [e2]
    by_cases e3 : j < i ∨ xs.length - 1 - j < i
    · rw [if_pos e3]
    · rw [if_neg e3, show xs.length - 1 - j = j by omega]
  · rw [List.getElem?_eq_none (by rw [Yo]; omega), List.getElem?_eq_none (by rw [List.length_reverse]; omega)]
theorem jW {Y : BS} {sp : List Value} {i : Nat} {b : UInt8} (h : i < Y.length) : (Y.map bV ++ sp).toArray.setIfInBounds i (bV b) = ((Y.set i b).map bV ++ sp).toArray := by
  rw [List.setIfInBounds_toArray, List.set_append_left _ _ (by rw [List.length_map]; exact h), List.map_set]
section
variable {c : Cx} {l : Ko} {L E : Jo} {X : XP} {Q : Exit → Act → World → Prop} {d : List Deferred}
variable {ops : Array Oper} {rest : List Nat} {i k : Nat} {v : Value} {o : Oper} {tb : jI} {S : Jo} {T : Jo → Act → Prop}
theorem ZI {t ty : TypeId} {ps : String} {af : Array Edge} {gd : Option (Nat × Bool)} {x y : Operand} {q r off : Nat} {cs cs' : Array Value} {e : TypeId} {fr : Nat × Nat} {E' : Jo} (hko : Wy ops.toList k = some ⟨none, .store t x y, ty, ps, af, gd⟩) (hg : Kk l ops ⟨none, .store t x y, ty, ps, af, gd⟩ = some true) (hA : tb k = .turn)
    (hx : Kg l x = some (.pointer (some ⟨r, off, none⟩))) (hk : E[q]? = some (r, .cells cs e fr)) (hy : Kg l y = some v) (ht : KI c.P t = some 1) (ho : QW v = true) (hfr : frB fr off = false) (hc : (cs[off]?).isSome = true)
    (hcs : cs.setIfInBounds off v = cs') (hL : E.set q (r, .cells cs' e fr) = E') (hS : SubS S E')
    (h : HB c d l E' X S ops tb rest T) : HB c d l E X S ops tb (k :: rest) T :=
  wB hko hg rfl hA (fun a w hf hs => ⟨w.setCell ⟨r, off, none⟩ v, by
    simp only [execOp]; rw [hf.eval hx, hf.eval hy]
    obtain ⟨old, hold⟩ := Option.isSome_iff_exists.1 hc
    have h1 := run_store c.P w ⟨r, off, none⟩ v .plain (by rw [XH]; exact ho)
    rw [Wg (hs.get hk), hold, qr (hs.get hk) hfr] at h1
    have hcell : v.cells = #[v] := by cases v <;> first | rfl | cases ho
    simp [Instr.storeAt, Instr.sureAddr, Sem.run_bind, Result.andThen, storeVar, V2 ht, hcell, storeCells, Addr.add, h1], by
    subst hL; subst hcs
    exact hs.set hk (Keep.setCell r off v) (Go.SL.heap_setCell_same v (hs.get hk))⟩) hS h
end
section
variable {c : Cx} {l : Ko} {L : Jo} {X : XP} {d : List Deferred} {i : Nat} {ps : String} {af : Array Edge} {gd : Option (Nat × Bool)} {ty : TypeId}
theorem vk {x : Operand} {b : List UInt8} {r n cap : Nat} {cs : Array Value} {e src dst : TypeId} {fr : Nat × Nat} (hx : Kg l x = some (.slice (some ⟨r, 0, none⟩) n cap)) (hk : known c L r (.cells cs e fr)) (hn : n = b.length) (ht : cs.toList.take b.length = b.map bV)
    (hs : Kl c.P src = some e) (he : c.P.underlying e = some (.int .u8)) (hd : wm c.P dst = true) :
    J5 c d l L X ⟨some i, .convert src dst x, ty, ps, af, gd⟩ (.string (bs b)) := fun a' w hf hst => by
  subst hn; simp only [execOp]; rw [hf.eval hx]
  have hget := hst.known hk
  have hl := qV (P := c.P) (xs := b.map bV) hget (by rw [List.length_map]; exact ht)
  rw [List.length_map] at hl; simp only [Sem.run_bind]; rw [run_convert_bytes_string w src dst e _ _ _ (Ka hs) he (Vp hd)]; rw [run_bytesToString w _ _ _ (b.map fun x => ((x.toNat : Nat) : Int)) (by rw [hl]; simp [bV, Function.comp_def])]
  have := Z0 b []
  rw [show (bs [] : ByteArray) = ByteArray.empty from rfl] at this; rw [this]
  rfl
end
theorem Jke {xs : BS} {sp : List Value} {r cap : Nat} {fr : Nat × Nat} (hfr : ∀ q, q < xs.length → frB fr q = false) (hc : xs.length ≤ cap) (hx : xs.length ≤ 9223372036854775807) : PureT (α := Unit) Tryz.prog 170 [.slice (some ⟨r, 0, none⟩) xs.length cap].toArray (fun _ => .tuple #[])
    [(r, .cells (xs.map bV ++ sp).toArray 5 fr)] (fun _ => [(r, .cells (xs.reverse.map bV ++ sp).toArray 5 fr)]) [] := by
  refine JI Tryz.func170 rfl rfl fun w => ?_; refine sR fun _ hK1 => Ji rfl (LR rfl (KM rfl rfl) ?_); refine JY rfl (Jy (show _ = Value.int .i64 ((xs.length : Int) - 1) from congrArg (Value.int .i64) (wrap_i64 (by omega) (by omega))) (LS 2 [] rfl rfl ?_)); refine nK hK1 (Js ?_); refine JL (σ := Nat) (fun i => 2 * i ≤ xs.length + 1 ∧ 2 * i ≤ xs.length) (fun i => [(0, .slice (some ⟨r, 0, none⟩) xs.length cap), (2, .int .i64 (i : Int)), (3, .int .i64 ((xs.length : Int) - 1 - (i : Int)))]) (fun i => [(r, .cells ((YF xs i).map bV ++ sp).toArray 5 fr)]) (fun _ _ _ => True) (fun i => xs.length - i) 0 ⟨by omega, by omega⟩ (.cons rfl (.cons rfl (.cons (by rw [show ((0 : Nat) : Int) = 0 from rfl, Int.sub_zero]; rfl) .nil))) (List.Sublist.refl _) (fun _ _ h => h) ?_; rintro i ⟨hi1, hi2⟩; refine sQ fun _ hK2 => sR fun _ hK3 => ?_; refine LS 3 [] rfl rfl (nK hK3 ?_); refine Jc rfl (fun h4 => ?_) (fun h4 => ?_)
  · try simp only [ZZ] at h4
    refine Jg (hK2 ?_); refine sB fun _ hK5 => ?_
    have hii : i + 1 ≤ xs.length - i := by omega
    obtain ⟨Y, hY⟩ : ∃ Y, Y = YF xs i := ⟨_, rfl⟩
    have hYl : Y.length = xs.length := by rw [hY]; exact Yo xs i
    rw [← hY]
    refine JS [] [(0, .pure), (1, .pure), (2, .pure), (3, .pure), (4, .pure), (5, .pure), (6, .pure), (8, .pure), (9, .pure), (10, .pure), (12, .pure), (13, .turn), (14, .pure), (15, .turn)] 16 [0, 1, 2, 3, 4, 5, 6, 7, 8, 9, 10, 11, 12, 13, 14, 15] (by kernel_rfl) (by kernel_rfl) (by first | exact (fun _ h => absurd h List.not_mem_nil) | simp [SubS] | (intro p hp; simp [hp])) ?_; refine Jv (k := 0) rfl rfl rfl rfl rfl (fun _ hS => (Jp rfl)) ?_; refine Jv (k := 1) rfl rfl rfl rfl rfl (fun _ hS => (Jp rfl)) ?_; refine Jv (k := 2) rfl rfl rfl rfl rfl (fun _ hS => (Jp rfl)) ?_; refine Jv (k := 3) rfl rfl rfl rfl rfl (fun _ hS => (Jp rfl)) ?_; refine Jv (k := 4) rfl rfl rfl rfl rfl (fun _ hS => (Jp rfl)) ?_; refine Jv (k := 5) rfl rfl rfl rfl rfl (fun _ hS => (Jp rfl)) ?_; refine Jv (k := 6) rfl rfl rfl rfl rfl (fun _ _ => Kj (j := (xs.length - 1 - i)) (m := 1) (off' := (xs.length - 1 - i)) rfl rfl rfl rfl (by omega) (by omega) (by omega)) ?_; refine KZ (k := 7) rfl rfl rfl rfl rfl (Jk rfl (kn 0 rfl) rfl (vH (xs := Y.map bV) (v := bV (Y.getD (xs.length - 1 - i) 0)) (Yn (by omega)))) ?_; refine Jv (k := 8) rfl rfl rfl rfl rfl (fun _ hS => (Jp rfl)) ?_; refine Jv (k := 9) rfl rfl rfl rfl rfl (fun _ hS => (Jp rfl)) ?_; refine Jv (k := 10) rfl rfl rfl rfl rfl (fun _ _ => Kj (j := i) (m := 1) (off' := i) rfl rfl rfl rfl (by omega) (by omega) (by omega)) ?_; refine KZ (k := 11) rfl rfl rfl rfl rfl (Jk rfl (kn 0 rfl) rfl (vH (xs := Y.map bV) (v := bV (Y.getD (i) 0)) (Yn (by omega)))) ?_; refine Jv (k := 12) rfl rfl rfl rfl rfl (fun _ _ => Kj (j := i) (m := 1) (off' := i) rfl rfl rfl rfl (by omega) (by omega) (by omega)) ?_; refine ZI (k := 13) (q := 0) (cs' := ((Y.set i (Y.getD (xs.length - 1 - i) 0)).map bV ++ sp).toArray) rfl rfl rfl rfl rfl rfl rfl rfl (hfr _ (by omega)) (by simp; omega) (jW (by omega)) rfl (fun _ h => nomatch h) ?_; refine Jv (k := 14) rfl rfl rfl rfl rfl (fun _ _ => Kj (j := (xs.length - 1 - i)) (m := 1) (off' := (xs.length - 1 - i)) rfl rfl rfl rfl (by omega) (by omega) (by omega)) ?_; refine ZI (k := 15) (q := 0) (cs' := ((YF xs (i + 1)).map bV ++ sp).toArray) rfl rfl rfl rfl rfl rfl rfl rfl (hfr _ (by omega)) (by simp; omega) (by rw [jW (by rw [List.length_set]; omega), YF, ← hY]) rfl (fun _ h => nomatch h) ?_; refine KD ?_; refine Jf (Jj (hK5 ?_)); refine Ja (LS 2 [] rfl rfl (Ju (by omega) (by omega) ?_)); refine Ji rfl ?_
    refine JY rfl ?_; refine Jy (show _ = Value.int .i64 ((xs.length : Int) - 1 - ((i + 1 : Nat) : Int)) from by rw [wrap_i64 (by omega) (by omega)]; congr 1 <;> omega) ?_; refine LS 2 [] rfl rfl (Jf ?_); refine J8 ?_; exact J2 (i + 1) ⟨by omega, by omega⟩ (by omega) (.cons rfl (.cons rfl (.cons rfl .nil))) (List.Sublist.refl _) (fun _ _ h => h)
  · try simp only [ZZ] at h4
    refine JJ (Jm ?_); refine Jm (J0 ?_); refine QA rfl rfl .nil (fun w1 hs1 => ?_); exact ⟨(), rfl, by rw [← Jds (xs := xs) (i := i) (by omega) (by omega)]; exact hs1⟩
theorem Jyv (w : List Nat) : yW w 32 = (XJ w 32).reverse := by unfold yW; rw [List.take_of_length_le (by rw [List.length_reverse, QX]; exact Nat.le_refl _)]
theorem Jdt (t : Ty) {R : Jo} {v : Vl} (hv : v.In R) : Pure Tryz.prog 125 [t.val, v.val].toArray (J3 (yW v.num 32)) := by
  obtain ⟨k, n, p, ins⟩ := t
  cases hv with
  | @mk a b c d bits pb items pi pick ha hb hc hd hlb hsb hl hs hp hi =>
  have hw : WOk [a, b, c, d] := ⟨rfl, fun x hx => by simp at hx; rcases hx with rfl | rfl | rfl | rfl <;> assumption⟩
  show Pure _ _ _ (J3 (yW [a, b, c, d] 32))
  rw [Jyv]
  have hfx := Y6 hw
  have hlen := QX [a, b, c, d] 32
  generalize XJ [a, b, c, d] 32 = B at hfx hlen
  refine JG Tryz.func125 rfl rfl fun w => ?_; refine sR fun _ hK1 => ?_; refine LN rfl fun r1 => ?_; refine LN rfl fun r2 => ?_; refine Ji rfl (nK hK1 ?_); refine sR fun _ hK2 => ?_
  refine LS 2 [0] rfl rfl ?_; refine JF rfl rfl rfl Jg9 hfx ?_; refine XK rfl rfl rfl rfl rfl rfl fun rb kb => ?_; refine Ji rfl (nK hK2 ?_); refine sR fun _ hK3 => Ji rfl ?_; refine Vu (T := [(rb, .cells (B.map bV ++ List.replicate kb (Value.int .u8 0)).toArray 5 (B.length + kb, B.length + kb + 1))]) (L0 := [(r2, _), (r1, _)]) (Rl := []) (List.Perm.refl _) rfl rfl rfl (enters_of Tryz.func170 (by kernel_rfl) rfl) (Jke (fun q hq => by simp [frB, Nat.blt, Nat.ble]; omega) (by omega) (by omega)) (fun q hq => nomatch hq) fun u => ?_; change HL _ _ _ ((rb, _) :: (r2, _) :: (r1, _) :: []) _ _ _ _; refine nK hK3 (sR fun _ hK4 => ?_); refine Ji rfl ?_; refine LR rfl (vk (b := B.reverse) rfl (kn 0 rfl) (by rw [List.length_reverse]) (by simp only [List.toList_toArray]; rw [List.take_left' (by rw [List.length_map])]) rfl rfl rfl) ?_; refine Ji rfl (nK hK4 ?_); refine Jb (pT rfl rfl rfl fun w1 hs1 => ?_); exact ⟨rfl, hs1.keep⟩
def rootM : Array MapEntry := #[⟨.int .i64 1, .func (.func 125) #[] #[], 0⟩, ⟨.int .i64 2, .func (.func 125) #[] #[], 1⟩, ⟨.int .i64 3, .func (.func 126) #[] #[], 2⟩, ⟨.int .i64 4, .func (.func 128) #[] #[], 3⟩,
  ⟨.int .i64 5, .func (.func 130) #[] #[], 4⟩, ⟨.int .i64 6, .func (.func 132) #[] #[], 5⟩, ⟨.int .i64 7, .func (.func 133) #[] #[], 6⟩, ⟨.int .i64 8, .func (.func 136) #[] #[], 7⟩]
theorem Jkf : ∀ e ∈ rootM.toList, isI e.key := by
  intro e he
  unfold rootM at he
  simp at he
  rcases he with rfl | rfl | rfl | rfl | rfl | rfl | rfl | rfl <;> exact ⟨_, rfl⟩
theorem Jdu {a b : Bool} (h : a = b) : Value.bool a = Value.bool b := by rw [h]
section
variable {c : Cx} {l : Ko} {L : Jo} {X : XP} {d : List Deferred} {i : Nat} {t : TypeId} {ps : String} {af : Array Edge} {gd : Option (Nat × Bool)} {ty : TypeId}
variable {Q : Exit → Act → World → Prop} {ops : Array Oper} {rest : List Oper}
end
end Go.Proofs.YteceenlfegnigaaGreatDoor
namespace Go.SL
set_option linter.all false
open Go Go.RowKit Go.Shelf
section
variable {c : Cx} {l : Ko} {L : Jo} {X : XP} {Q : Exit → Act → World → Prop} {d : List Deferred}
variable {ops : Array Oper} {rest : List Oper} {i : Nat} {v : Value} {t u : TypeId} {ps : String} {af : Array Edge} {gd : Option (Nat × Bool)} {ty : TypeId}
theorem Jyw (s : List UInt8) : (bs s).size = s.length := by simp [bs, ByteArray.size]
theorem vl (s : List UInt8) : Lib.strCells (bs s) = s.map bV := rfl
theorem Jga {x y : Operand} {e : TypeId} {s s2 : List UInt8} {L0 : Jo} {row : V5}
    (hp : L.Perm (JV e (s.map bV) row ++ L0)) (hg : Kk l ops ⟨some i, .call ⟨.builtin .append, #[x, y], #[t, u]⟩, ty, ps, af, gd⟩ = some true) (hi : Nat.ble (i + 1) c.n = true)
    (hx : Kg l x = some (JD s.length row)) (hy : Kg l y = some (.string (bs s2))) (ht : Kl c.P t = some e) (hu : wm c.P u = true) (hz : QJ c.P e = some (.int .u8 0)) (hs : KI c.P e = some 1) (hb : Jbz c.P e = some 1)
    (ho : rowOk 1 s.length (s.map bV) row) (ho2 : s = [] → row = none) (hlen : s.length + s2.length ≤ 140737488355328)
    (h : ∀ row', rowOk 1 (s ++ s2).length ((s ++ s2).map bV) row' → (s ++ s2 = [] → row' = none) → HL c d ((i, JD (s ++ s2).length row') :: l) (JV e ((s ++ s2).map bV) row' ++ L0) X ops rest Q) :
    HL c d l L X ops (⟨some i, .call ⟨.builtin .append, #[x, y], #[t, u]⟩, ty, ps, af, gd⟩ :: rest) Q := by
  obtain ⟨inf, hinf, hz', hs', hb'⟩ := vG hz hs hb
  refine KC hp ?_
  refine Wh (α := { r' : V5 // rowOk 1 (s ++ s2).length ((s ++ s2).map bV) r' ∧ (s ++ s2 = [] → r' = none) }) (V := fun p => JD (s ++ s2).length p.1) (L' := fun p => JV e ((s ++ s2).map bV) p.1 ++ L0) (X' := fun _ => X) hg rfl rfl hi (fun a w hf hst => ?_) (fun p => h p.1 p.2.1 p.2.2)
  have exec : ∀ r w', (Builtin.append_ #[t, u] ty #[JD s.length row, .string (bs s2)]).run c.P w = .ok r w' →
      (execOp a.eval ⟨some i, .call ⟨.builtin .append, #[x, y], #[t, u]⟩, ty, ps, af, gd⟩).run c.P w = .ok (.value r) w' := fun r w' hr => by
    have ex := hf.eval hx
    have ey := hf.eval hy
    simp [execOp, resolve, Sem.run_bind, ex, ey, Result.andThen, invoke, builtin, hr]
  have hsz := Jyw s2
  have hsl : (s ++ s2).length = s.length + s2.length := List.length_append
  have hml : ((s ++ s2).map bV).length = s.length + s2.length := by rw [List.length_map, hsl]
  have hz1 : (Value.int IntKind.u8 0).cells.size = 1 := rfl
  have zlen : ∀ n, (Builtin.zeroCells (Value.int IntKind.u8 0).cells n).toList.length = n := fun n => by rw [Array.length_toList, size_zeroCells, hz1, Nat.mul_one]
  cases row with
  | none =>
    obtain ⟨h1, h2⟩ := ho
    have hs0 : s = [] := List.eq_nil_of_length_eq_zero h1
    subst hs0
    cases s2 with
    | nil =>
      refine ⟨⟨none, ⟨rfl, rfl⟩, fun _ => rfl⟩, w, exec _ _ ?_, hst⟩
      have hf2 := Lib.run_firstCells_string (P := c.P) w 1 (bs [])
      have h0 : (bs []).size = 0 := rfl
      rw [h0] at hf2
      simp [Builtin.append_, JD, run_underlying (Ka ht), run_underlying (Vp hu), sizeOf, typeInfo, hinf, hs', Builtin.lenOf, h0, hf2]
    | cons b s2 =>
      have hr := run_append_nil_string (P := c.P) w t u ty e inf (.int .u8 0) (Ka ht) (Vp hu) hinf hz' (bs (b :: s2)) (by rw [hsz]; simp) (by rw [hsz]; simp at hlen ⊢; omega) (by rw [hsz, hb']; simp at hlen ⊢; omega)
      rw [hsz] at hr
      have hge := grownCap_ge w (b :: s2).length 0 e
      refine ⟨⟨some (w.heap.size, grownCap w (b :: s2).length 0 e, (Builtin.zeroCells (Value.int IntKind.u8 0).cells (grownCap w (b :: s2).length 0 e - (b :: s2).length)).toList), ⟨?_, ?_⟩, fun h0 => by simp at h0⟩, _, exec _ _ hr, ?_⟩
      · simp
      · rw [zlen]; simp only [List.nil_append]; omega
      · have e1 : ((bs (b :: s2)).data.map (fun b => Value.int .u8 b.toNat) ++ Builtin.zeroCells (Value.int IntKind.u8 0).cells (grownCap w (b :: s2).length 0 e - (b :: s2).length)) = ((([] ++ (b :: s2)).map bV) ++ (Builtin.zeroCells (Value.int IntKind.u8 0).cells (grownCap w (b :: s2).length 0 e - (b :: s2).length)).toList).toArray := by
          apply Array.toList_inj.1; simp [bs, bV]
        rw [e1]
        exact hst.drew.alloc _
  | some q =>
    obtain ⟨r, cap, sp⟩ := q
    obtain ⟨h1, h2⟩ := ho
    have hget : w.heap[r]? = some (.cells (s.map bV ++ sp).toArray e (0, 0)) := hst.get (k := 0) rfl
    have hne : s ++ s2 ≠ [] := fun h0 => by have := ho2 (List.append_eq_nil_iff.1 h0).1; cases this
    by_cases hroom : s.length + s2.length ≤ cap
    · have hr := Lib.run_append_room_string (P := c.P) w t u ty e inf (Ka ht) (Vp hu) hinf hs' r s.length cap _ hget (bs s2) (by rw [hsz]; exact hroom) (by rw [hsz]; simp only [List.size_toArray, List.length_append, List.length_map]; omega)
      rw [hsz, vl] at hr
      have e1 : ((s.map bV ++ sp).toArray.toList.take s.length ++ s2.map bV ++ (s.map bV ++ sp).toArray.toList.drop (s.length + s2.length)) = (s ++ s2).map bV ++ sp.drop s2.length := by
        simp only [List.toList_toArray]
        rw [List.take_left' (by simp), List.map_append, ← List.drop_drop, List.drop_left' (by simp)]
      rw [e1] at hr
      have hV : JD (s ++ s2).length (some (r, cap, sp.drop s2.length)) = .slice (some ⟨r, 0, none⟩) (s.length + s2.length) cap := by rw [JD, hsl]
      refine ⟨⟨some (r, cap, sp.drop s2.length), ⟨?_, ?_⟩, fun h0 => absurd h0 hne⟩, _, exec _ _ (hr.trans (congrArg (fun v => Result.ok v _) hV.symm)), ?_⟩
      · rw [hml, hsl]; omega
      · rw [List.length_drop, hsl]; omega
      · exact hst.set (k := 0) rfl (Keep.setRow r _) (setRow_heap _ _ _ _ _ _ hget)
    · have holds : ∀ (j : Nat) (x : Value), (s.map bV)[j]? = some x → w.cell? ((⟨r, 0, none⟩ : Addr).add j) = some x := Xs hget (n := s.length) (by simp)
      have hr := Lib.run_append_grow_string (P := c.P) w t u ty e inf (.int .u8 0) (Ka ht) (Vp hu) hinf hz' ⟨r, 0, none⟩ s.length cap (s.map bV) (by rw [hs']; simp) holds (bs s2) (by rw [hsz]; omega) (by rw [hsz]; omega) (by rw [hsz, hb']; exact growslice_fits (by omega) (by omega))
      rw [hsz, vl] at hr
      have hge := grownCap_ge w (s.length + s2.length) cap e
      refine ⟨⟨some (w.heap.size, grownCap w (s.length + s2.length) cap e, (Builtin.zeroCells (Value.int IntKind.u8 0).cells (grownCap w (s.length + s2.length) cap e - (s.length + s2.length))).toList), ⟨?_, ?_⟩, fun h0 => absurd h0 hne⟩, _, exec _ _ (hr.trans (congrArg (fun v => Result.ok v _) (show _ = JD (s ++ s2).length (some (w.heap.size, grownCap w (s.length + s2.length) cap e, (Builtin.zeroCells (Value.int IntKind.u8 0).cells (grownCap w (s.length + s2.length) cap e - (s.length + s2.length))).toList)) from by rw [JD, hsl]))), ?_⟩
      · rw [hml, hsl]; omega
      · rw [zlen, hsl]; omega
      · have e1 : ((s.map bV).toArray ++ (s2.map bV).toArray ++ Builtin.zeroCells (Value.int IntKind.u8 0).cells (grownCap w (s.length + s2.length) cap e - (s.length + s2.length))) = ((s ++ s2).map bV ++ (Builtin.zeroCells (Value.int IntKind.u8 0).cells (grownCap w (s.length + s2.length) cap e - (s.length + s2.length))).toList).toArray := by
          apply Array.toList_inj.1; simp
        rw [e1]
        exact (hst.drew.weakL (List.sublist_cons_self _ _)).alloc _
theorem Keep.freeze {w : World} (r n : Nat) : Keep [r] w (w.freeze ⟨r, 0, none⟩ n) := by
  unfold World.freeze
  split
  · exact Keep.refl _ _
  · exact ⟨rfl, rfl, rfl, by simp, fun k _ hn => by
      simp only [Array.getElem?_modify]
      rw [if_neg (by intro e; exact hn (by simp [e]))]⟩
theorem Jdv {w : World} {r n : Nat} {cs : Array Value} {e : TypeId} {fr : Nat × Nat} (h : w.heap[r]? = some (.cells cs e fr)) : ∃ fr', (w.freeze ⟨r, 0, none⟩ n).heap[r]? = some (.cells cs e fr') := by
  unfold World.freeze
  split
  · exact ⟨fr, h⟩
  · obtain ⟨lo, hi⟩ := fr
    obtain ⟨hlt, he⟩ := Array.getElem?_eq_some_iff.1 h
    refine ⟨if lo == hi then (0, 0 + n) else (min lo 0, max hi (0 + n)), ?_⟩
    show (w.heap.modify r _)[r]? = _
    rw [Array.getElem?_eq_getElem (by rw [Array.size_modify]; exact hlt), Array.getElem_modify_self, he]
def Jdw : V5 → Value
  | none => .pointer none
  | some (r, _, _) => .pointer (some ⟨r, 0, none⟩)
theorem Jav {x : Operand} {row : V5} {n : Nat} (hx : Kg l x = some (JD n row)) (hc : ∀ r cap sp, row = some (r, cap, sp) → cap ≠ 0) :
    J5 c d l L X ⟨some i, .call ⟨.builtin .unsafeSliceData, #[x], #[t]⟩, ty, ps, af, gd⟩ (Jdw row) := fun a w hf _ => by
  have ex := hf.eval hx
  cases row with
  | none =>
    have hr := Lib.run_unsafeSliceData_nil (P := c.P) w #[t] ty 0 0
    simp only [JD] at ex
    simp [execOp, resolve, Sem.run_bind, ex, Result.andThen, invoke, builtin, hr, Jdw]
  | some q =>
    obtain ⟨r, cap, sp⟩ := q
    have hr := Lib.run_unsafeSliceData_row (P := c.P) w #[t] ty ⟨r, 0, none⟩ n cap (hc r cap sp rfl)
    simp only [JD] at ex
    simp [execOp, resolve, Sem.run_bind, ex, Result.andThen, invoke, builtin, hr, Jdw]
def vm (P : Program) (t : TypeId) : Option TypeId := match P.underlying t with | some (.pointer e) => some e | _ => none
theorem ZJ {P : Program} {t e : TypeId} (h : vm P t = some e) : P.underlying t = some (.pointer e) := by
  unfold vm at h; split at h <;> simp_all
theorem vB {x y : Operand} {e pt it : TypeId} {s : List UInt8} {L0 : Jo} {row : V5}
    (hp : L.Perm (JV e (s.map bV) row ++ L0)) (hg : Kk l ops ⟨some i, .call ⟨.builtin .unsafeString, #[x, y], #[pt, it]⟩, ty, ps, af, gd⟩ = some true) (hi : Nat.ble (i + 1) c.n = true)
    (hx : Kg l x = some (Jdw row)) (hy : Kg l y = some (.int .i64 (s.length : Int))) (ht : vm c.P pt = some e) (hc : c.P.cellsOf e = 1)
    (ho : rowOk 1 s.length (s.map bV) row) (ho2 : s = [] → row = none) (hlen : s.length ≤ 9223372036854775807)
    (h : HL c d ((i, .string (bs s)) :: l) L0 X ops rest Q) : HL c d l L X ops (⟨some i, .call ⟨.builtin .unsafeString, #[x, y], #[pt, it]⟩, ty, ps, af, gd⟩ :: rest) Q := by
  refine KC hp ?_
  refine Wh (α := Unit) (V := fun _ => .string (bs s)) (L' := fun _ => L0) (X' := fun _ => X) hg rfl rfl hi (fun a w hf hst => ?_) (fun _ => h)
  have exec : ∀ r w', (Builtin.unsafeString_ #[pt, it] ty #[Jdw row, .int .i64 s.length]).run c.P w = .ok r w' →
      (execOp a.eval ⟨some i, .call ⟨.builtin .unsafeString, #[x, y], #[pt, it]⟩, ty, ps, af, gd⟩).run c.P w = .ok (.value r) w' := fun r w' hr => by
    have ex := hf.eval hx
    have ey := hf.eval hy
    simp [execOp, resolve, Sem.run_bind, ex, ey, Result.andThen, invoke, builtin, hr]
  cases row with
  | none =>
    obtain ⟨h1, _⟩ := ho
    have hs0 : s = [] := List.eq_nil_of_length_eq_zero h1
    subst hs0
    exact ⟨(), w, exec _ _ (Lib.run_unsafeString_none (P := c.P) w pt it ty none), hst⟩
  | some q =>
    obtain ⟨r, cap, sp⟩ := q
    obtain ⟨h1, h2⟩ := ho
    have hget : w.heap[r]? = some (.cells (s.map bV ++ sp).toArray e (0, 0)) := hst.get (k := 0) rfl
    have hne : s ≠ [] := fun h0 => by have := ho2 h0; cases this
    have hcell : ∀ (j : Nat) (x : UInt8), s[j]? = some x → w.cell? ((⟨r, 0, none⟩ : Addr).add j) = some (.int .u8 x.toNat) := fun j x hx => by
      rw [jB, Wg hget]
      rw [Nat.zero_add, ← Array.getElem?_toList]
      simp only [List.toList_toArray]
      rw [List.getElem?_append_left (by rw [List.length_map]; exact (List.getElem?_eq_some_iff.1 hx).1), List.getElem?_map, hx]; rfl
    have hr := Lib.run_unsafeString_row (P := c.P) w pt it ty e (ZJ ht) hc r (s.map bV ++ sp).length (by simp [World.shape?, hget]) s hne (by simp) hlen hcell
    obtain ⟨fr', hfr⟩ := Jdv (n := s.length) hget
    exact ⟨(), _, exec _ _ hr, (hst.set (k := 0) rfl (Keep.freeze r s.length) hfr).weakL (List.sublist_cons_self _ _)⟩
end
section
variable {c : Cx} {l : Ko} {L : Jo} {X : XP} {d : List Deferred}
variable {i : Nat} {v : Value} {t u : TypeId} {ps : String} {af : Array Edge} {gd : Option (Nat × Bool)} {ty t2 : TypeId}
def Jtd (P : Program) (t : TypeId) : Bool := match P.underlying t with | some .unsafePointer => true | _ => false
theorem Jia {P : Program} {t : TypeId} (h : Jtd P t = true) : P.underlying t = some .unsafePointer := by
  unfold Jtd at h; split at h <;> simp_all
theorem jX {P : Program} {t : TypeId} {sz : Nat} (h : KI P t = some sz) : ∃ inf, P.info? t = some inf ∧ inf.size = sz := by
  unfold KI at h
  cases hq : P.info? t with
  | none => simp [hq] at h
  | some inf => simp only [hq, Option.some.injEq] at h; exact ⟨inf, rfl, h⟩
theorem Jgb {x : Operand} {r sz e : Nat} {src dst tt : TypeId} {cs : Array Value} {fr : Nat × Nat} (hx : Kg l x = some (.pointer (some ⟨r, 0, none⟩))) (hk : known c L r (.cells cs e fr)) (hs : vm c.P src = some tt) (hd : Jtd c.P dst = true) (ht : KI c.P tt = some sz) (h0 : 0 < sz) (hc : 0 < cs.size) :
    J5 c d l L X ⟨some i, .convert src dst x, ty, ps, af, gd⟩ (.pointer (some ⟨r, 0, none⟩)) := fun a w hf hst => by
  obtain ⟨inf, hinf, hsz⟩ := jX ht
  have h := hst.known hk
  simp only [execOp]
  rw [hf.eval hx]
  have := Lib.run_to_unsafe (P := c.P) w (e := e) (cells := cs.size) ⟨r, 0, none⟩ (ZJ hs) (Jia hd) hinf (by omega) (by simp [World.shape?, h]) hc
  simp only [Sem.run_bind, this]; rfl
theorem Jaw {x : Operand} {r sz e : Nat} {src dst tt : TypeId} {cs : Array Value} {fr : Nat × Nat} (hx : Kg l x = some (.pointer (some ⟨r, 0, none⟩))) (hk : known c L r (.cells cs e fr)) (hs : Jtd c.P src = true) (hd : vm c.P dst = some tt) (ht : KI c.P tt = some sz) (hl : liesAt c.P c.P.depth e (cs.size / c.P.cellsOf e) 0 tt 1 = true) :
    J5 c d l L X ⟨some i, .convert src dst x, ty, ps, af, gd⟩ (.pointer (some ⟨r, 0, none⟩)) := fun a w hf hst => by
  obtain ⟨inf, hinf, hsz⟩ := jX ht
  have h := hst.known hk
  simp only [execOp]
  rw [hf.eval hx]
  have := Lib.run_from_unsafe (P := c.P) w (e := e) (cells := cs.size) ⟨r, 0, none⟩ (Jia hs) (ZJ hd) hinf (by simp [World.shape?, h]) hl
  simp only [Sem.run_bind, this]; rfl
theorem Jgc {x f : Operand} {v : Value} {g : FuncId} {fn : Func} {at_ : Array TypeId} (hf : Kg l f = some (.func (.func g) #[] #[])) (hx : Kg l x = some v)
    (hF : c.P.funcs[g]? = some fn) (hn1 : (fn.name == "runtime.NumGoroutine") = false) (hb : fn.body.isNone = true) (hn2 : Extern.findNext fn = none) (he : Extern.find fn = some Extern.AbiNoEscape.same) :
    J5 c d l L X ⟨some i, .call ⟨.value f, #[x], at_⟩, ty, ps, af, gd⟩ v := fun a w hfr hst => by
  have ef := hfr.eval hf
  have ex := hfr.eval hx
  have hcf : (callFunc g #[v]).run c.P w = .ok (.value v) w := by
    rw [run_callFunc_extern hF hn1 hb hn2 he, Lib.run_noEscape]; rfl
  simp [execOp, resolve, Sem.run_bind, ef, ex, Deferred.ofValue, Result.andThen, invoke, hcf]
theorem Jof {x y : Operand} {q : Addr} {sz : Nat} {tt : TypeId} (hx : Kg l x = some (.pointer (some q))) (hy : Kg l y = some (.pointer (some q))) (ht : vm c.P t = some tt) (hs : KI c.P tt = some sz) :
    J5 c d l L X ⟨some i, .binOp .neq t x y t2, ty, ps, af, gd⟩ (.bool false) := fun a w hf _ => by
  obtain ⟨inf, hinf, hsz⟩ := jX hs
  simp only [execOp]
  rw [hf.eval hx, hf.eval hy]
  have := Lib.run_neq_ptr_same (P := c.P) w q (ZJ ht) hinf
  simp [eqGuard, Sem.run_bind, this, Result.andThen]
theorem Jog {x y : Operand} {tt : TypeId} {sz : Nat} (hx : Kg l x = some (.pointer none)) (hy : Kg l y = some (.pointer none)) (ht : vm c.P t = some tt) (hs : KI c.P tt = some sz) :
    J5 c d l L X ⟨some i, .binOp .eql t x y t2, ty, ps, af, gd⟩ (.bool true) := fun a w hf _ => by
  obtain ⟨inf, hinf, hsz⟩ := jX hs
  have h : ∀ d : Nat, (Op.equalIn (d + 1) t (.pointer none) (.pointer none)).run c.P w = .ok true w := fun d => by
    simp [Op.equalIn, run_underlying (ZJ ht), sizeOf, typeInfo, hinf]
  simp only [execOp]
  rw [hf.eval hx, hf.eval hy]
  simp only [binOp]
  simp [eqGuard, Op.equal, Op.maxDepth, h 9999, Sem.run_bind, Result.andThen]
theorem Joh {x y : Operand} {q : Addr} {tt : TypeId} {sz : Nat} (hx : Kg l x = some (.pointer (some q))) (hy : Kg l y = some (.pointer none)) (ht : vm c.P t = some tt) (hs : KI c.P tt = some sz) :
    J5 c d l L X ⟨some i, .binOp .eql t x y t2, ty, ps, af, gd⟩ (.bool false) := fun a w hf _ => by
  obtain ⟨inf, hinf, hsz⟩ := jX hs
  have h : ∀ d : Nat, (Op.equalIn (d + 1) t (.pointer (some q)) (.pointer none)).run c.P w = .ok false w := fun d => by
    simp [Op.equalIn, run_underlying (ZJ ht), sizeOf, typeInfo, hinf]
  simp only [execOp]
  rw [hf.eval hx, hf.eval hy]
  simp only [binOp]
  simp [eqGuard, Op.equal, Op.maxDepth, h 9999, Sem.run_bind, Result.andThen]
end
end Go.SL
namespace Go.Proofs.YteceenlfegnigaaGreatDoor
set_option linter.all false
open Go.SL Go.RowKit Go.Shelf
abbrev pB (own : Bool) (r : Nat) : Value := .pointer (if own then some ⟨r, 0, none⟩ else none)
def yZ (r : Nat) (s : BS) (row : V5) (own : Bool) : Nat × Obj := (r, .cells #[pB own r, JD s.length row] 127 (0, 0))
def WZ (r : Nat) (s : BS) (row : V5) (own : Bool) : Jo := yZ r s row own :: JV 5 (s.map bV) row
def bOk (s : BS) (row : V5) : Prop := rowOk 1 s.length (s.map bV) row ∧ (s = [] → row = none)
theorem Jdx (r : Nat) (own : Bool) (v : Value) : PureT (α := Unit) Tryz.prog 156 [VG r].toArray (fun _ => .tuple #[]) [(r, .cells #[pB own r, v] 127 (0, 0))] (fun _ => [(r, .cells #[pB true r, v] 127 (0, 0))]) [] := by
  cases own with
  | false =>
    refine JI Tryz.func156 rfl rfl fun w => ?_; refine sR fun _ hK1 => LS 2 [] rfl rfl ?_
    refine LS 1 [] rfl rfl ?_; refine LR rfl (Jk (v := .pointer none) rfl (kn 0 rfl) rfl rfl) ?_; refine LR rfl (Jog rfl rfl rfl rfl) ?_; refine nK hK1 ?_; refine Jc rfl (fun h2 => ?_) (fun h2 => ?_)
    try simp only [ZZ] at h2
    refine Ja (LS 2 [] rfl rfl (LR rfl (Jgb (sz := 2) rfl (kn 0 rfl) rfl rfl rfl (by decide) (by simp)) ?_)); refine LR rfl (Jgc rfl rfl (Tryz.func192) (by kernel_rfl) rfl rfl rfl) ?_; refine LR rfl (Jaw rfl (kn 0 rfl) rfl rfl rfl (by kernel_rfl)) ?_; refine JY rfl ?_
    refine LS 1 [] rfl rfl ?_; refine Kx (k := 0) (cs' := #[VG r, v]) rfl rfl rfl rfl rfl rfl rfl rfl rfl rfl ?_; refine Jf ?_; refine QA rfl rfl .nil (fun w1 hs1 => ?_); exact ⟨(), rfl, hs1⟩
    try exact Bool.noConfusion h2
  | true =>
    refine JI Tryz.func156 rfl rfl fun w => ?_; refine sR fun _ hK1 => LS 2 [] rfl rfl ?_
    refine LS 1 [] rfl rfl ?_; refine LR rfl (Jk (v := VG r) rfl (kn 0 rfl) rfl rfl) ?_; refine LR rfl (Joh rfl rfl rfl rfl) ?_; refine nK hK1 ?_; refine Jc rfl (fun h2 => ?_) (fun h2 => ?_)
    try exact Bool.noConfusion h2
    · try simp only [ZZ] at h2
      refine sR fun _ hK3 => LS 2 [] rfl rfl ?_
      refine LS 1 [] rfl rfl ?_; refine LR rfl (Jk (v := VG r) rfl (kn 0 rfl) rfl rfl) ?_; refine Ji rfl (LR rfl (Jof rfl rfl rfl rfl) ?_); refine nK hK3 ?_; refine Jc rfl (fun h4 => ?_) (fun h4 => ?_)
      try exact Bool.noConfusion h4
      · try simp only [ZZ] at h4
        refine Jg ?_; refine QA rfl rfl .nil (fun w1 hs1 => ?_); exact ⟨(), rfl, hs1⟩
theorem Jax (r : Nat) (s : BS) (row : V5) (own : Bool) : PureT (α := Unit) Tryz.prog 156 [VG r].toArray (fun _ => .tuple #[]) [yZ r s row own] (fun _ => [yZ r s row true]) [] := Jdx r own _
theorem vV {r : Nat} {s s2 : BS} {row : V5} {own : Bool} (hb : bOk s row) (hl : s.length + s2.length ≤ 1000000) :
    PureT (α := { x : V5 // bOk (s ++ s2) x }) Tryz.prog 101 [VG r, J3 s2].toArray (fun _ => .tuple #[.int .i64 (s2.length : Int), .nilIface]) (WZ r s row own) (fun x => WZ r (s ++ s2) x.1 true) [] := by
  refine JI Tryz.func101 rfl rfl fun w => ?_
  unfold WZ
  refine sR fun _ hK1 => LS 2 [] rfl rfl (nK hK1 ?_); refine sR fun _ hK2 => Ji rfl (Vu (T := [yZ r s row own]) (L0 := JV 5 (s.map bV) row) (Rl := []) (List.Perm.refl _) rfl rfl rfl (enters_of Tryz.func156 (by kernel_rfl) rfl) (Jax r s row own) (fun q hq => nomatch hq) fun u => ?_); change HL _ _ _ (yZ r s row true :: JV 5 (s.map bV) row) _ _ _ _; refine nK hK2 (sR fun _ hK3 => ?_); refine LS 3 [] rfl rfl ?_
  refine LS 1 [] rfl rfl ?_; refine LR rfl (Jk (v := JD s.length row) rfl (kn 0 rfl) rfl rfl) ?_; refine Ji rfl (Jga (e := 5) (s := s) (s2 := s2) (row := row) (L0 := [yZ r s row true]) (List.perm_append_comm (l₁ := [_])) rfl rfl rfl rfl rfl rfl rfl rfl rfl hb.1 hb.2 (by omega) fun row2 h1 h2 => (KC List.perm_append_comm ?_)); change HL _ _ _ ((r, .cells #[pB true r, JD s.length row] 127 (0, 0)) :: JV 5 ((s ++ s2).map bV) row2) _ _ _ _; refine JY rfl ?_
  refine LS 1 [] rfl rfl ?_; refine Kx (k := 0) (cs' := #[pB true r, JD (s ++ s2).length row2]) rfl rfl rfl rfl rfl (Jkd _ _) rfl rfl rfl rfl ?_; refine nK hK3 (sR fun _ hK4 => ?_); refine Ji rfl (LR rfl (Ke rfl rfl) (LS 2 [] rfl rfl ?_)); refine nK hK4 (Jb ?_); refine Jt rfl rfl (.cons (J1 rfl) (.cons (J1 rfl) .nil)) (fun w1 hs1 => ?_); exact ⟨⟨row2, h1, h2⟩, rfl, hs1⟩
theorem Jwt (r : Nat) {s : BS} {row : V5} (own : Bool) (hb : bOk s row) : PureR Tryz.prog 102 [VG r].toArray (.int .i64 (s.length : Int)) [yZ r s row own] := by
  refine Je Tryz.func102 rfl rfl fun w => ?_; refine sR fun _ hK1 => Ji rfl (nK hK1 ?_); refine sR fun _ hK2 => LS 2 [] rfl rfl ?_
  refine LS 1 [] rfl rfl ?_; refine LR rfl (Jk (v := JD s.length row) rfl (J7 (k := 0) rfl) rfl rfl) ?_; refine LR rfl (Xt rfl hb.1.zero rfl) ?_; refine Ji rfl (nK hK2 ?_); refine Jb (pT rfl rfl rfl fun w1 hs1 => ?_); exact ⟨rfl, hs1.keep⟩
theorem Jgd {r : Nat} {s : BS} {row : V5} {own : Bool} (hb : bOk s row) (hl : s.length ≤ 1000000) :
    PureT (α := Unit) Tryz.prog 103 [VG r].toArray (fun _ => J3 s) (WZ r s row own) (fun _ => []) [] := by
  have hcap : ∀ q cap sp, row = some (q, cap, sp) → cap ≠ 0 := by
    rintro q cap sp rfl h0
    obtain ⟨⟨h1, h2⟩, h3⟩ := hb
    have h4 : s.length = 0 := by omega
    have := h3 (List.eq_nil_of_length_eq_zero h4)
    cases this
  refine JI Tryz.func103 rfl rfl fun w => ?_
  unfold WZ
  refine sR fun _ hK1 => Ji rfl (nK hK1 ?_); refine sQ fun _ hK2 => ?_
  refine JS [] [(0, .pure), (1, .pure), (2, .pure), (4, .pure), (5, .pure), (6, .pure), (7, .pure), (9, .pure)] 10 [0, 1, 2, 3, 4, 5, 6, 7, 8, 9] (by kernel_rfl) (by kernel_rfl) (by first | exact (fun _ h => absurd h List.not_mem_nil) | simp [SubS] | (intro p hp; simp [hp])) ?_; refine Jv (k := 0) rfl rfl rfl rfl rfl (fun _ hS => (Jp rfl)) ?_; refine Jv (k := 1) rfl rfl rfl rfl rfl (fun _ hS => (JA rfl rfl rfl)) ?_
  refine Jv (k := 2) rfl rfl rfl rfl rfl (fun _ hS => (JM rfl rfl rfl)) ?_; refine KZ (k := 3) rfl rfl rfl rfl rfl (Jk (v := JD s.length row) rfl (kn 0 rfl) rfl rfl) ?_; refine Jv (k := 4) rfl rfl rfl rfl rfl (fun _ _ => Jav rfl hcap) ?_; refine Jv (k := 5) rfl rfl rfl rfl rfl (fun _ hS => (Jp rfl)) ?_; refine Jv (k := 6) rfl rfl rfl rfl rfl (fun _ hS => (JA rfl rfl rfl)) ?_
  refine Jv (k := 7) rfl rfl rfl rfl rfl (fun _ hS => (JM rfl rfl rfl)) ?_; refine KZ (k := 8) rfl rfl rfl rfl rfl (Jk (v := JD s.length row) rfl (kn 0 rfl) rfl rfl) ?_; refine Jv (k := 9) rfl rfl rfl rfl rfl (fun _ _ => Xt rfl hb.1.zero rfl) ?_; refine KD ?_; refine vB (e := 5) (s := s) (row := row) (L0 := [yZ r s row own]) (List.perm_append_comm (l₁ := [_])) rfl rfl rfl rfl rfl rfl hb.1 hb.2 (by omega) ?_; refine Ji rfl (nK hK2 ?_); refine Jb (pT rfl rfl rfl fun w1 hs1 => ?_); exact ⟨(), rfl, hs1.weakL (List.nil_sublist _)⟩
end Go.Proofs.YteceenlfegnigaaGreatDoor
