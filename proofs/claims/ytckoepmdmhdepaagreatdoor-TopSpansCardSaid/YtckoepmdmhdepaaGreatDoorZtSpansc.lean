import Derived.Test.YtckoepmdmhdepaaGreatDoorZtSpansb
set_option maxRecDepth 100000
namespace Go.Proofs.YtckoepmdmhdepaaGreatDoor
set_option linter.all false
open Go.SL Go.RowKit Go.Shelf
inductive It : Type
  | mk (l : Bool) (b : BS) (xs : List It) : It
def It.l : It → Bool
 | .mk l _ _ => l
def It.b : It → BS
 | .mk _ b _ => b
def It.xs : It → List It
 | .mk _ _ xs => xs
def W7 (s : BS) : Nat := s.foldl (fun n b => n * 256 + b.toNat) 0
def Qq (n by_ : Nat) : BS := if n < 56 then [UInt8.ofNat (by_ + n)] else UInt8.ofNat (by_ + 55 + (KT n).length) :: KT n
def KB (s : BS) (by_ : Nat) : BS := Qq s.length by_ ++ s
mutual
def KM : It → BS
 | .mk l b xs => if l then KB (KY xs) 192 else if b.length = 1 ∧ (b.getD 0 0).toNat < 128 then b else KB b 128
def KY : List It → BS
 | [] => []
 | x :: r => KM x ++ KY r
end
theorem j3 : ∀ a b : List It, KY (a ++ b) = KY a ++ KY b
 | [], _ => rfl
 | x :: r, b => by simp [KY, j3 r b]
def Xj (s : BS) (a many : Nat) : Int × Nat × Nat :=
 if many > 3 then (5, 0, 0) else if many > s.length - a - 1 then (3, 0, 0) else
 if (s.getD (a + 1) 0).toNat = 0 ∨ W7 ((s.drop (a + 1)).take many) < 56 then (8, 0, 0) else (0, a + 1 + many, W7 ((s.drop (a + 1)).take many))
def ZC (s : BS) (a c : Nat) : Int × Nat × Nat := if (c - 128) % 64 ≥ 56 then Xj s a ((c - 128) % 64 - 55) else (0, a + 1, (c - 128) % 64)
def lookE (s : BS) (a : Nat) : Int × Nat × Nat × Bool :=
 if s.length ≤ a then (3, 0, 0, false) else
 if (s.getD a 0).toNat < 128 then (0, a, 1, false) else
 if (ZC s a (s.getD a 0).toNat).1 ≠ 0 then ((ZC s a (s.getD a 0).toNat).1, 0, 0, false) else
 if (ZC s a (s.getD a 0).toNat).2.2 > s.length - (ZC s a (s.getD a 0).toNat).2.1 then (3, 0, 0, false) else
 if (s.getD a 0).toNat = 129 ∧ (s.getD (a + 1) 0).toNat < 128 then (8, 0, 0, false) else
 (0, (ZC s a (s.getD a 0).toNat).2.1, (ZC s a (s.getD a 0).toNat).2.2, decide (192 ≤ (s.getD a 0).toNat))
def Wq (rd : Nat → Int × It × Nat) (len : Nat) : Nat → Nat → List It → Nat → Int × List It
 | 0, _, acc, _ => (0, acc)
 | g + 1, i, acc, from_ => if from_ < len then (if i ≥ 512 then (5, acc) else if (rd from_).1 ≠ 0 then ((rd from_).1, acc) else Wq rd len g (i + 1) (acc ++ [(rd from_).2.1]) (rd from_).2.2) else (0, acc)
def it0 : It := .mk false [] []
def KH : Nat → BS → Nat → Int × It × Nat
  | 0, s, a => if a < s.length ∧ 192 ≤ (s.getD a 0).toNat then (7, it0, a) else if (lookE s a).1 ≠ 0 then ((lookE s a).1, it0, a) else
      (0, .mk false ((s.take ((lookE s a).2.1 + (lookE s a).2.2.1)).drop (lookE s a).2.1) [], (lookE s a).2.1 + (lookE s a).2.2.1)
  | f + 1, s, a => if (lookE s a).1 ≠ 0 then ((lookE s a).1, it0, a) else if (lookE s a).2.2.2 then
      ((Wq (KH f (s.take ((lookE s a).2.1 + (lookE s a).2.2.1))) ((lookE s a).2.1 + (lookE s a).2.2.1) ((lookE s a).2.2.1 + 1) 0 [] (lookE s a).2.1).1,
       .mk true [] (Wq (KH f (s.take ((lookE s a).2.1 + (lookE s a).2.2.1))) ((lookE s a).2.1 + (lookE s a).2.2.1) ((lookE s a).2.2.1 + 1) 0 [] (lookE s a).2.1).2,
       (lookE s a).2.1 + (lookE s a).2.2.1)
      else (0, .mk false ((s.take ((lookE s a).2.1 + (lookE s a).2.2.1)).drop (lookE s a).2.1) [], (lookE s a).2.1 + (lookE s a).2.2.1)
def jQ (s : BS) : It × Int := if s.length > 65536 then (it0, 5) else if (KH 12 s 0).1 ≠ 0 then (it0, (KH 12 s 0).1) else if (KH 12 s 0).2.2 < s.length then (it0, 4) else ((KH 12 s 0).2.1, 0)
mutual
def Zt : Nat → It → Bool
 | f, .mk l b xs => if l then decide (b = []) && decide (xs.length ≤ 512) && (match f with | 0 => false | f + 1 => yR f xs) else decide (xs = [])
def yR : Nat → List It → Bool
 | _, [] => true
 | f, x :: r => Zt f x && yR f r
end
theorem Je9 (s : BS) (b : UInt8) : W7 (s ++ [b]) = W7 s * 256 + b.toNat := by simp [W7]
theorem Jil {n : Nat} (h : n < 256) : (UInt8.ofNat n).toNat = n := by simp; omega
theorem dgN {n i : Nat} (hi : i < 8) : dg [n, 0, 0, 0] i = n / 256 ^ i % 256 := by
 unfold dg
 rw [show i / 8 = 0 from by omega, show i % 8 * 8 = 8 * i from by omega, Nat.pow_mul]; rfl
theorem Jfa : ∀ (s : BS) (a : Nat), s.foldl (fun n b => n * 256 + b.toNat) a = a * 256 ^ s.length + W7 s
 | [], a => by simp [W7]
 | b :: r, a => by
  have h := Jfa r (a * 256 + b.toNat)
  have h0 := Jfa r b.toNat
  simp only [List.foldl_cons, List.length_cons, W7, Nat.zero_mul, Nat.zero_add] at h h0 ⊢; rw [h, h0, Nat.pow_succ, Nat.add_mul, Nat.mul_assoc, Nat.mul_comm 256]; omega
theorem wS (b : UInt8) (r : BS) : W7 (b :: r) = b.toNat * 256 ^ r.length + W7 r := by
 have h := Jfa r b.toNat
 rw [← h, W7, List.foldl_cons, Nat.zero_mul, Nat.zero_add]
theorem Jaj (n : Nat) : ∀ k, k ≤ 8 → W7 (Qn [n, 0, 0, 0] k) = n % 256 ^ k
 | 0, _ => by simp [Qn, W7, Nat.mod_one]
 | k + 1, h => by
  rw [Qn, wS, Qj, Jaj n k (by omega), dgN (by omega), Jil (Nat.mod_lt _ (by decide)), Nat.mod_pow_succ, Nat.mul_comm, Nat.add_comm]
theorem Jim {n : Nat} (hn : n < 18446744073709551616) : W7 (KT n) = n := by
 have h8 := Y0 hn
 rw [Je8, Jaj _ _ h8, Nat.mod_eq_of_lt ((WX hn h8).1 (Nat.le_refl _))]
theorem Jcc {n : Nat} (hn : n < 18446744073709551616) (h0 : n ≠ 0) : 0 < (KT n).length ∧ ((KT n).getD 0 0).toNat ≠ 0 := by
 have h8 := Y0 hn
 cases e : (KT n).length with
 | zero => have := (WX hn (Nat.zero_le 8)).1 (by omega); simp at this; omega
 | succ k =>
  refine ⟨by omega, ?_⟩
  have h1 : ¬ n < 256 ^ k := fun h => by have := (WX hn (k := k) (by omega)).2 h; omega
  have h2 : n < 256 ^ (k + 1) := (WX hn (by omega)).1 (by omega)
  rw [Je8, e, Qn, List.getD_cons_zero, Jil (by rw [dgN (by omega)]; exact Nat.mod_lt _ (by decide)), dgN (by omega)]
  have h3 : 1 ≤ n / 256 ^ k := (Nat.le_div_iff_mul_le (by exact Nat.pow_pos (by decide))).2 (by omega)
  have h4 : n / 256 ^ k < 256 := (Nat.div_lt_iff_lt_mul (by exact Nat.pow_pos (by decide))).2 (by rw [Nat.mul_comm, ← Nat.pow_succ]; exact h2)
  omega
theorem Jkv {n : Nat} (h : n < 16777216) : W7 (KT n) = n ∧ (KT n).length ≤ 3 := ⟨Jim (by omega), (WX (by omega) (by omega)).2 (by omega)⟩
theorem Y1 (a b : BS) (x : UInt8) : (a ++ x :: b).getD a.length 0 = x := by simp [List.getD_eq_getElem?_getD]
theorem Jak (a b : BS) (j : Nat) : (a ++ b).getD (a.length + j) 0 = b.getD j 0 := by
 rw [List.getD_eq_getElem?_getD, List.getD_eq_getElem?_getD, List.getElem?_append_right (by omega), Nat.add_sub_cancel_left]
theorem Jfb (a b : BS) (j : Nat) : (a ++ b).drop (a.length + j) = b.drop j := by simp [List.drop_append]
theorem XA {n by_ : Nat} (h : n < 16777216) : 0 < (Qq n by_).length ∧ (Qq n by_).length ≤ 4 := by
 unfold Qq; split
 ·simp
 ·have := (Jkv h).2; simp; omega
theorem j4 (pre post : BS) {n by_ : Nat} (hn : n < 16777216) (hb : by_ = 128 ∨ by_ = 192) (hl : n ≤ post.length) :
  128 ≤ ((pre ++ (Qq n by_ ++ post)).getD pre.length 0).toNat ∧ decide (192 ≤ ((pre ++ (Qq n by_ ++ post)).getD pre.length 0).toNat) = decide (by_ = 192) ∧
  ZC (pre ++ (Qq n by_ ++ post)) pre.length ((pre ++ (Qq n by_ ++ post)).getD pre.length 0).toNat = (0, pre.length + (Qq n by_).length, n) ∧
  (((pre ++ (Qq n by_ ++ post)).getD pre.length 0).toNat = 129 → by_ = 128 ∧ n = 1) := by
 by_cases h : n < 56
 ·have e : Qq n by_ = [UInt8.ofNat (by_ + n)] := by unfold Qq; rw [if_pos h]
  rw [e, List.cons_append, Y1, Jil (by omega)]
  refine ⟨by omega, by by_cases h2 : by_ = 192 <;> simp [h2] <;> omega, ?_, by omega⟩
  unfold ZC
  rw [if_neg (by omega), List.length_singleton, show (by_ + n - 128) % 64 = n from by omega]
 ·have e : Qq n by_ = UInt8.ofNat (by_ + 55 + (KT n).length) :: KT n := by unfold Qq; rw [if_neg h]
  obtain ⟨h1, h2⟩ := Jkv hn
  obtain ⟨h3, h4⟩ := Jcc (n := n) (by omega) (by omega)
  rw [e, List.cons_append, Y1, Jil (by omega)]
  refine ⟨by omega, by by_cases h2 : by_ = 192 <;> simp [h2] <;> omega, ?_, by omega⟩
  unfold ZC
  rw [if_pos (by omega), show (by_ + 55 + (KT n).length - 128) % 64 - 55 = (KT n).length from by omega]
  unfold Xj
  have e2 : pre ++ UInt8.ofNat (by_ + 55 + (KT n).length) :: (KT n ++ post) = (pre ++ [UInt8.ofNat (by_ + 55 + (KT n).length)]) ++ (KT n ++ post) := by simp
  have e3 : pre.length + 1 = (pre ++ [UInt8.ofNat (by_ + 55 + (KT n).length)]).length + 0 := by simp
  rw [if_neg (by omega), if_neg (by simp), e2, e3, Jak, Jfb]
  have e4 : (KT n ++ post).getD 0 0 = (KT n).getD 0 0 := by
   rw [List.getD_eq_getElem?_getD, List.getElem?_append_left h3, ← List.getD_eq_getElem?_getD]
  rw [e4, List.drop_zero, List.take_left, h1, if_neg (by omega)]
  simp; omega
theorem YY (pre post : BS) {body : BS} {by_ : Nat} (hn : body.length < 16777216) (hb : by_ = 128 ∨ by_ = 192) (h1 : by_ = 128 → body.length = 1 → 128 ≤ (body.getD 0 0).toNat) :
  lookE (pre ++ (KB body by_ ++ post)) pre.length = (0, pre.length + (Qq body.length by_).length, body.length, decide (by_ = 192)) := by
 have e : KB body by_ ++ post = Qq body.length by_ ++ (body ++ post) := by simp [KB]
 rw [e]
 obtain ⟨a1, a2, a3, a4⟩ := j4 pre (body ++ post) (n := body.length) (by_ := by_) hn hb (by simp)
 obtain ⟨b1, b2⟩ := XA (by_ := by_) hn
 unfold lookE
 rw [if_neg (by simp; omega), if_neg (by omega), a3, a2]; simp only [ne_eq, not_true_eq_false, if_false]; rw [if_neg (by simp; omega), if_neg]; rintro ⟨c1, c2⟩
 obtain ⟨c3, c4⟩ := a4 c1
 have := h1 c3 c4
 have hh : Qq body.length by_ = [UInt8.ofNat (by_ + body.length)] := by unfold Qq; rw [if_pos (by omega)]
 rw [hh] at c2
 have e3 : pre ++ ([UInt8.ofNat (by_ + body.length)] ++ (body ++ post)) = (pre ++ [UInt8.ofNat (by_ + body.length)]) ++ (body ++ post) := by simp
 have e4 : pre.length + 1 = (pre ++ [UInt8.ofNat (by_ + body.length)]).length + 0 := by simp
 rw [e3, e4, Jak] at c2
 have e5 : (body ++ post).getD 0 0 = body.getD 0 0 := by
  rw [List.getD_eq_getElem?_getD, List.getElem?_append_left (by omega), ← List.getD_eq_getElem?_getD]
 rw [e5] at c2; omega
theorem qy (pre post : BS) {b : UInt8} (h : b.toNat < 128) : lookE (pre ++ (b :: post)) pre.length = (0, pre.length, 1, false) := by
 unfold lookE
 rw [if_neg (by simp), Y1, if_pos h]
theorem Xv (a b c : BS) : ((a ++ (b ++ c)).take (a.length + b.length)) = a ++ b := by
 rw [← List.append_assoc, ← List.length_append, List.take_left]
theorem XB (it : It) : 0 < (KM it).length := by
 cases it with
 | mk l b xs =>
  rw [KM]
  have hh : ∀ (s : BS) (k : Nat), 0 < (KB s k).length := fun s k => by
   unfold KB Qq; rw [List.length_append]; split <;> simp <;> omega
  split
  ·exact hh _ _
  ·split
   ·omega
   ·exact hh _ _
theorem wT : ∀ xs : List It, xs.length ≤ (KY xs).length
 | [] => Nat.le_refl _
 | x :: r => by rw [KY, List.length_append, List.length_cons]; have := XB x; have := wT r; omega
theorem wU : ∀ {xs : List It} {x : It}, x ∈ xs → (KM x).length ≤ (KY xs).length
 | y :: r, x, h => by
  rw [KY, List.length_append]
  rcases List.mem_cons.1 h with rfl | h
  ·omega
  ·have := wU h; omega
theorem Jal {rd : Nat → Int × It × Nat} {s : BS} : ∀ (xs : List It) (pre : BS) (g i : Nat) (acc : List It), s = pre ++ KY xs → xs.length < g → i + xs.length ≤ 512 →
  (∀ x ∈ xs, ∀ p q, s = p ++ (KM x ++ q) → rd p.length = (0, x, p.length + (KM x).length)) → Wq rd s.length g i acc pre.length = (0, acc ++ xs)
 | [], pre, g + 1, i, acc, hs, hg, hi, hrd => by
  rw [KY, List.append_nil] at hs; subst hs; rw [Wq, if_neg (by omega), List.append_nil]
 | x :: r, pre, g + 1, i, acc, hs, hg, hi, hrd => by
  have h1 := XB x
  rw [KY] at hs
  have h2 := hrd x List.mem_cons_self pre (KY r) hs
  simp only [List.length_cons] at hg hi; rw [Wq, if_pos (by rw [hs]; simp; omega), if_neg (by omega), h2]; simp only [ne_eq, not_true_eq_false, if_false]
  have := Jal (rd := rd) (s := s) r (pre ++ KM x) g (i + 1) (acc ++ [x]) (by rw [hs]; simp) (by omega) (by omega) fun y hy => hrd y (List.mem_cons_of_mem _ hy)
  rw [List.length_append] at this; rw [this]; simp
theorem vD : ∀ {f : Nat} {xs : List It}, yR f xs = true → ∀ x ∈ xs, Zt f x = true
 | f, y :: r, h, x, hx => by
  rw [yR, Bool.and_eq_true] at h
  rcases List.mem_cons.1 hx with rfl | hx
  ·exact h.1
  ·exact vD h.2 x hx
theorem Jfc {b : BS} (h : b.length = 1) : b = [b.getD 0 0] := by
 match b, h with
 | [x], _ => rfl
theorem Jin : ∀ (f : Nat) (it : It) (pre post : BS), Zt f it = true → (KM it).length < 16777216 → KH f (pre ++ (KM it ++ post)) pre.length = (0, it, pre.length + (KM it).length) := by
 intro f
 induction f with
 | zero =>
  rintro ⟨l, b, xs⟩ pre post hok hlen
  cases l with
  | true => rw [Zt] at hok; simp at hok
  | false =>
   rw [Zt] at hok; simp at hok; subst hok; rw [KM] at hlen ⊢; simp only [Bool.false_eq_true, if_false] at hlen ⊢
   by_cases h1 : b.length = 1 ∧ (b.getD 0 0).toNat < 128
   ·rw [if_pos h1] at hlen ⊢
    have hb := Jfc h1.1
    have hlk := qy pre post (b := b.getD 0 0) h1.2
    have e : pre ++ (b ++ post) = pre ++ (b.getD 0 0 :: post) := congrArg (fun z => pre ++ (z ++ post)) hb
    unfold KH
    rw [e, hlk, if_neg]
    ·simp only [ne_eq, not_true_eq_false, if_false]
     rw [← e, ← h1.1, Xv, List.drop_left]
    ·rw [Y1]; omega
   ·rw [if_neg h1] at hlen ⊢
    have hbl : b.length < 16777216 := by unfold KB at hlen; rw [List.length_append] at hlen; omega
    have hlk := YY pre post (by_ := 128) hbl (.inl rfl) (fun _ h2 => by have := not_and.1 h1 h2; omega)
    unfold KH
    rw [hlk, if_neg]
    ·simp only [ne_eq, not_true_eq_false, if_false]
     have e : pre ++ (KB b 128 ++ post) = (pre ++ Qq b.length 128) ++ (b ++ post) := by simp [KB]
     rw [e, ← List.length_append, Xv, List.drop_left]
     simp [KB]; omega
    ·rintro ⟨_, h3⟩
     have e : KB b 128 ++ post = Qq b.length 128 ++ (b ++ post) := by simp [KB]
     rw [e] at h3
     have := (j4 pre (b ++ post) (n := b.length) (by_ := 128) hbl (.inl rfl) (by simp)).2.1
     simp at this h3; omega
 | succ f ih =>
  rintro ⟨l, b, xs⟩ pre post hok hlen
  cases l with
  | false =>
   rw [Zt] at hok; simp at hok; subst hok; rw [KM] at hlen ⊢; simp only [Bool.false_eq_true, if_false] at hlen ⊢
   by_cases h1 : b.length = 1 ∧ (b.getD 0 0).toNat < 128
   ·rw [if_pos h1] at hlen ⊢
    have hb := Jfc h1.1
    have hlk := qy pre post (b := b.getD 0 0) h1.2
    have e : pre ++ (b ++ post) = pre ++ (b.getD 0 0 :: post) := congrArg (fun z => pre ++ (z ++ post)) hb
    unfold KH
    rw [e, hlk]; simp only [ne_eq, not_true_eq_false, if_false, Bool.false_eq_true]; rw [← e, ← h1.1, Xv, List.drop_left]
   ·rw [if_neg h1] at hlen ⊢
    have hbl : b.length < 16777216 := by unfold KB at hlen; rw [List.length_append] at hlen; omega
    have hlk := YY pre post (by_ := 128) hbl (.inl rfl) (fun _ h2 => by have := not_and.1 h1 h2; omega)
    unfold KH
    rw [hlk]; simp only [ne_eq, not_true_eq_false, if_false]
    have e : pre ++ (KB b 128 ++ post) = (pre ++ Qq b.length 128) ++ (b ++ post) := by simp [KB]
    rw [e, ← List.length_append, Xv, List.drop_left]
    simp [KB]; omega
  | true =>
   rw [Zt] at hok; simp at hok
   obtain ⟨⟨rfl, hxl⟩, hxs⟩ := hok
   rw [KM, if_pos rfl] at hlen ⊢
   have hbl : (KY xs).length < 16777216 := by unfold KB at hlen; rw [List.length_append] at hlen; omega
   have hlk := YY pre post (by_ := 192) hbl (.inr rfl) (fun h => by omega)
   unfold KH
   rw [hlk]; simp only [ne_eq, not_true_eq_false, if_false, decide_true, if_true]
   have e : pre ++ (KB (KY xs) 192 ++ post) = (pre ++ Qq (KY xs).length 192) ++ (KY xs ++ post) := by simp [KB]
   rw [e, ← List.length_append, Xv]
   have hl := Jal (rd := KH f (pre ++ Qq (KY xs).length 192 ++ KY xs)) (s := pre ++ Qq (KY xs).length 192 ++ KY xs) xs (pre ++ Qq (KY xs).length 192) ((KY xs).length + 1) 0 [] rfl
    (by have := wT xs; omega) (by omega) (fun x hx p q hpq => by rw [hpq]; exact ih x p q (vD hxs x hx) (by have := wU hx; omega))
   have e9 : (pre ++ Qq (KY xs).length 192).length + (KY xs).length = (pre ++ Qq (KY xs).length 192 ++ KY xs).length := (List.length_append ..).symm
   rw [e9, hl]
   simp [KB]
theorem Jam {it : It} (hok : Zt 12 it = true) (hl : (KM it).length ≤ 65536) : jQ (KM it) = (it, 0) := by
 have := Jin 12 it [] [] hok (by omega)
 simp at this
 unfold jQ
 rw [if_neg (by omega), this]
 simp
structure AxE : Type where
  addr : BS
  keys : List BS
deriving DecidableEq
structure AuE : Type where
  chain : Nat
  addr : BS
  nonce : Nat
  y : Nat
  r : W4
  s : W4
deriving DecidableEq
structure TxE : Type where
  kind : Int
  chain : Nat
  nonce : Nat
  tip : W4
  price : W4
  gas : Nat
  dest : BS
  value : W4
  data : BS
  access : List AxE
  auths : List AuE
  y : Nat
  r : W4
  s : W4
  source : BS
  from_ : BS
  mint : W4
  system : Bool
deriving DecidableEq
def tx0 : TxE := ⟨0, 0, 0, w40, w40, 0, [], w40, [], [], [], 0, w40, w40, [], [], w40, false⟩
structure AuE.ok (a : AuE) : Prop where
  chain : VG a.chain
  nonce : VG a.nonce
  y : VG a.y
  r : a.r.ok
  s : a.s.ok
structure TxE.ok (t : TxE) : Prop where
  chain : VG t.chain
  nonce : VG t.nonce
  tip : t.tip.ok
  price : t.price.ok
  gas : VG t.gas
  value : t.value.ok
  auths : ∀ a ∈ t.auths, a.ok
  y : VG t.y
  r : t.r.ok
  s : t.s.ok
  mint : t.mint.ok
def Ki (s : BS) : It := .mk false s []
def KG (xs : List It) : It := .mk true [] xs
def Qk (n : Nat) : It := Ki (KT n)
def Ks (w : W4) : It := Ki (JE w.l)
def Jnx (b : Bool) : It := Ki (if b then [1] else [])
def QZ (l : List BS) : It := KG (l.map Ki)
def j5 (a : AxE) : It := KG [Ki a.addr, QZ a.keys]
def auI (a : AuE) : It := KG [Qk a.chain, Ki a.addr, Qk a.nonce, Qk a.y, Ks a.r, Ks a.s]
def vE (chain y : Nat) : Nat := if chain = 0 then 27 + y else 35 + 2 * chain + y
def Qu (t : TxE) : List It :=
 if t.kind = 126 then [Ki t.source, Ki t.from_, Ki t.dest, Ks t.mint, Ks t.value, Qk t.gas, Jnx t.system, Ki t.data] else
 if t.kind = 0 then [Qk t.nonce, Ks t.price, Qk t.gas, Ki t.dest, Ks t.value, Ki t.data, Qk (vE t.chain t.y), Ks t.r, Ks t.s] else
 [Qk t.chain, Qk t.nonce] ++ (if t.kind = 1 then [] else [Ks t.tip]) ++ [Ks t.price, Qk t.gas, Ki t.dest, Ks t.value, Ki t.data, KG (t.access.map j5)] ++
  (if t.kind = 4 then [KG (t.auths.map auI)] else []) ++ [Qk t.y, Ks t.r, Ks t.s]
def Y2 (t : TxE) : TxE :=
  if t.kind = 126 then { tx0 with kind := t.kind, gas := t.gas, dest := t.dest, value := t.value, data := t.data, source := t.source, from_ := t.from_, mint := t.mint, system := t.system } else
  { tx0 with kind := t.kind, gas := t.gas, dest := t.dest, value := t.value, data := t.data, chain := t.chain, nonce := t.nonce, price := t.price, y := t.y, r := t.r, s := t.s,
             auths := if t.kind = 4 then t.auths else [], tip := if t.kind = 4 ∨ t.kind = 2 then t.tip else w40, access := if t.kind = 4 ∨ t.kind = 2 ∨ t.kind = 1 then t.access else [] }
def VI (a : AxE) : Bool := decide (a.addr.length ≠ 20) || a.keys.any fun s => decide (s.length ≠ 32)
def XM (a : AuE) : Bool := decide (a.addr.length ≠ 20) || decide (a.y > 1)
def toB (t : TxE) : Bool := decide (t.dest = []) || decide (t.dest.length = 20)
def Qw (t : TxE) : Bool :=
 if t.y > 1 ∨ t.access.any VI = true ∨ t.auths.any XM = true then false else
 if t.kind = 0 then decide (t.chain ≤ 4611686018427387904) && toB t else
 if t.kind = 4 then decide (t.dest.length = 20) && decide (0 < t.auths.length) else
 if t.kind = 126 then decide (t.source.length = 32) && decide (t.from_.length = 20) && toB t else toB t
def XN (t : TxE) : Bool := decide (t.data.length > 4096) || decide (t.access.length > 16) || (t.access.any fun a => decide (a.keys.length > 16)) || decide (t.auths.length > 8)
def qz (k : Int) : Nat := if k = 0 then 9 else if k = 1 then 11 else if k = 2 then 12 else if k = 4 then 13 else if k = 126 then 8 else 0
def Wx (t : TxE) : Int := if qz t.kind = 0 then 9 else if t ≠ Y2 t ∨ Qw t = false then 2 else if XN t then 5 else 0
def Jcd (k : Int) : BS := if k = 0 then [] else [UInt8.ofNat k.toNat]
def We (t : TxE) : BS := Jcd t.kind ++ KM (KG (Qu t))
open Go.Proofs (Enters enters_of)
section
variable {c : Cx} {l : KK} {L E : Jy} {X : XP} {Q : Exit → Act → World → Prop} {d : List Deferred}
variable {ops : Array Oper} {rest : List Nat} {i k : Nat} {v : Value} {o : Oper} {tb : Ye} {S : Jy} {T : Jy → Act → Prop}
theorem Wy {t ty : TypeId} {ps : String} {af : Array Edge} {gd : Option (Nat × Bool)} {n e sz : Nat} {pa : List (Nat × Operand)} {vs : KK} {r zs : List Value} {z : Value} (hk : WM ops.toList k = some ⟨some i, .buildSlice t n pa.toArray, ty, ps, af, gd⟩) (hg : Kx l ops ⟨some i, .buildSlice t n pa.toArray, ty, ps, af, gd⟩ = some true) (hi : Nat.ble (i + 1) c.n = true)
  (hA : tb k = .grow (QK (ZI n) (.cells r.toArray e (0, 0))))
  (hp : Wk l pa = some vs) (ht : KI c.P t = some e) (hz : Qv c.P e = some z) (hs : Qd c.P e = some sz) (hzs : z.cells.size = sz) (hb : Nat.ble (n * sz) 16777216 = true) (h0 : Nat.ble 1 (n * sz) = true)
  (hmk : (madeCells z.cells (n * sz)).toList = zs) (hf : XK (fun i => some (i * sz, sz)) zs (Q7 vs) = some r)
  (h : ∀ q, HB c d ((i, .slice (some ⟨q, 0, none⟩) n n) :: l) ((q, .cells r.toArray e (0, 0)) :: E) X S ops tb rest T) : HB c d l E X S ops tb (k :: rest) T :=
 Jd6 (V := ZI n) hk hg rfl hi hA (fun a w hfr => by
  have h1 := Vs hfr hp
  have h2 : (pa.toArray.map fun (p : Nat × Operand) => (p.1, a.eval p.2)) = vs.toArray := by
   apply Array.toList_inj.1; rw [Array.toList_map]; simpa using h1
  rw [QD] at hf; subst hmk
  have h3 := VU ht hz hs hzs (Nat.le_of_ble_eq_true hb) (Nat.le_of_ble_eq_true h0) hf w
  rw [← h2] at h3; simp only [execOp, Sem.run_bind]
  have h4 : (Instr.buildSlice t n (pa.toArray.map fun (i, x) => (i, a.eval x))).run c.P w = .ok (.slice (some ⟨w.heap.size, 0, none⟩) n n) (w.alloc (.cells r.toArray e)) := h3
  rw [h4]; rfl) h
theorem V3 {α : Type} {T0 L0 Rl : Jy} {f : Operand} {args : Array Operand} {at_ : Array TypeId} {g : FuncId} {vs : List Value} {V : α → Value} {LL E' : α → Jy} {ty : TypeId} {ps : String} {af : Array Edge} {gd : Option (Nat × Bool)}
  (hp : E.Perm (T0 ++ L0)) (hE : ∀ x, (LL x ++ L0).Perm (E' x)) (hk : WM ops.toList k = some ⟨some i, .call ⟨.value f, args, at_⟩, ty, ps, af, gd⟩) (hg : Kx l ops ⟨some i, .call ⟨.value f, args, at_⟩, ty, ps, af, gd⟩ = some true) (hi : Nat.ble (i + 1) c.n = true) (hA : tb k = .turn) (hca : Qe l f args = some (g, vs)) (eg : Enters c.P g)
  (hpt : PureT c.P g vs.toArray V T0 LL Rl) (hR : ∀ p ∈ Rl, known c L0 p.1 p.2) (hS : ∀ x, SubS S (E' x)) (h : ∀ x, HB c d ((i, V x) :: l) (E' x) X S ops tb rest T) : HB c d l E X S ops tb (k :: rest) T := fun a hf => by
 refine ⟨_, QI hk, ?_⟩; rw [hA]; refine .inl ⟨α, V, E', ⟨JW hf hg, fun w hs => ?_⟩, fun x => ⟨hS x, h x _ (hf.put (Nat.le_of_ble_eq_true hi))⟩⟩
 have hs := hs.perm hp
 obtain ⟨hd1, _, hd3⟩ := List.pairwise_append.1 hs.distinct
 refine Ym hf hca eg ((hpt.run w (fun p hp => (hs.own p (List.mem_append_left _ hp)).2.2) (fun p hp => ?_) hd1 (fun p hp q hq => ?_)).mono fun _ _ ⟨x, he, hk, h1, h2⟩ => ⟨V x, he, x, rfl, (hs.turnT hk h1 h2).perm (hE x)⟩)
 ·exact (hR p hp).elim (fun h => (hs.own _ (List.mem_append_right _ h)).2.2) hs.readR
 ·rcases hR p hp with h | h
  ·exact fun e => hd3 q hq _ h e.symm
  ·rintro e
   obtain ⟨h1, _, h3⟩ := hs.ext _ h
   have h3 := J6 h3
   rcases (hs.own q (List.mem_append_left _ hq)).1 with h4 | h4
   ·exact h1 (e ▸ h4)
   ·simp only at h3 e; omega
end
theorem YZ {c : Cx} {l : KK} {E : Jy} {X : XP} {d : List Deferred} {ops : Array Oper} {rest : List Nat} {k : Nat} {tb : Ye} {S : Jy} {T : Jy → Act → Prop} {t ty : TypeId} {ps : String} {af : Array Edge} {gd : Option (Nat × Bool)} {x y : Operand} {q r off n : Nat} {cs cs' : Array Value} {vs : Array Value} {e : TypeId} {E' : Jy} (hko : WM ops.toList k = some ⟨none, .store t x y, ty, ps, af, gd⟩) (hg : Kx l ops ⟨none, .store t x y, ty, ps, af, gd⟩ = some true) (hA : tb k = .turn)
  (hx : Kz l x = some (.pointer (some ⟨r, off, none⟩))) (hk : E[q]? = some (r, .cells cs e (0, 0))) (hy : Kz l y = some (.agg vs)) (ht : Qd c.P t = some n) (hn : vs.size = n) (ho : vs.toList.all QX = true) (hc : off + n ≤ cs.size)
  (hcs : (cs.toList.take off ++ vs.toList ++ cs.toList.drop (off + n)).toArray = cs') (hL : E.set q (r, .cells cs' e (0, 0)) = E') (hS : SubS S E')
  (h : HB c d l E' X S ops tb rest T) : HB c d l E X S ops tb (k :: rest) T :=
 jm hko hg rfl hA (fun a w hf hs => ⟨w.setRow r cs', by
  simp only [execOp]; rw [hf.eval hx, hf.eval hy]
  have h1 := run_storeCells_at (P := c.P) r off e vs.toList 0 cs w (hs.get hk) (by simp [hn]; omega) (fun u hu => by rw [VJ]; exact List.all_eq_true.1 ho u hu)
  simp only [Nat.add_zero, Array.length_toList, hn] at h1; rw [hcs] at h1
  simp [Instr.storeAt, Instr.sureAddr, Sem.run_bind, Result.andThen, storeVar, QG ht, Value.cells, hn, h1], by
  subst hL
  exact hs.set hk (Keep.setRow r cs') (setRow_heap _ _ _ _ _ _ (hs.get hk))⟩) hS h
section
variable {c : Cx} {l : KK} {L : Jy} {X : XP} {Q : Exit → Act → List Frame → World → Prop} {d : List Deferred} {cs : List Frame}
variable {ops : Array Oper} {rest : List Nat} {k : Nat} {o : Oper}
theorem XC (h : HS c d l L X ops rest cs Q) : HQ c d l L X ((fun e a w => e = Exit.normal ∧ wpOpsSIn (FW none) 0 c.P ops Q rest a cs w) .normal) := fun a w hf hs => ⟨rfl, h a w hf hs⟩
theorem Za (ho : WM ops.toList k = some o) (hp : ∀ (ρ : Operand → Value) w x w', (execOp ρ o).run c.P w = .ok x w' → (∃ v, x = .value v) ∨ x = .skip) (hn : Kq o.op = true) (hro : c.ro = none) (h : HL c d l L X ops [o] (fun e a w => e = Exit.normal ∧ wpOpsSIn (FW none) 0 c.P ops Q rest a cs w)) : HS c d l L X ops (k :: rest) cs Q := fun a w hf hs => by
 have hk : ops[k]? = some o := by rw [← QI ho]
 have h1 := h a w hf hs
 unfold wpListIn at h1
 simp only [wpOpsSIn, hk]; refine ⟨KF, ?_⟩
 by_cases hw : Region.wanted o (yielded ops a.tmps) = true
 ·rw [if_pos hw] at h1 ⊢
  obtain ⟨_, h2⟩ := h1
  rw [Oper.semAt_eq _ _ _ (QT hn)] at h2
  cases e : (execOp a.eval o).run c.P w with
  | ok x w' =>
   rw [e] at h2
   rcases hp a.eval w x w' e with ⟨v, rfl⟩ | rfl
   ·exact h2.2
   ·exact h2.2
  | halt x w' =>
   rw [e] at h2
   cases x with
   | panic v => exact absurd h2.1 (by simp)
   | _ => exact h2.elim
 ·rw [if_neg hw] at h1 ⊢
  exact h1.2.2
theorem Xw {P : Program} {dst : Option Nat} {t ty : TypeId} {ps : String} {af : Array Edge} {gd : Option (Nat × Bool)} (ρ : Operand → Value) (w : World) (x : Next) (w' : World) (h : (execOp ρ ⟨dst, .alloc t, ty, ps, af, gd⟩).run P w = .ok x w') : (∃ v, x = .value v) ∨ x = .skip := by
 simp only [execOp, Sem.run_bind] at h
 cases e : (Instr.alloc t true (.tuple #[])).run P w with
 | ok v w2 => rw [e] at h; simp [Result.andThen] at h; exact .inl ⟨v, h.1.symm⟩
 | halt v w2 => rw [e] at h; simp [Result.andThen] at h
theorem Xx {P : Program} {dst : Option Nat} {t ty : TypeId} {a b : Operand} {ps : String} {af : Array Edge} {gd : Option (Nat × Bool)} (ρ : Operand → Value) (w : World) (x : Next) (w' : World) (h : (execOp ρ ⟨dst, .store t a b, ty, ps, af, gd⟩).run P w = .ok x w') : (∃ v, x = .value v) ∨ x = .skip := by
 simp only [execOp, Sem.run_bind] at h
 cases e : (Instr.storeAt t (ρ a) (ρ b)).run P w with
 | ok v w2 => rw [e] at h; simp [Result.andThen] at h; exact .inr h.1.symm
 | halt v w2 => rw [e] at h; simp [Result.andThen] at h
end
abbrev Kw (r : Nat) : Value := .pointer (some ⟨r, 0, none⟩)
abbrev pB (own : Bool) (r : Nat) : Value := .pointer (if own then some ⟨r, 0, none⟩ else none)
def vF (r : Nat) (s : BS) (row : QH) (own : Bool) : Nat × Obj := (r, .cells #[pB own r, JO s.length row] 154 (0, 0))
def QS (r : Nat) (s : BS) (row : QH) (own : Bool) : Jy := vF r s row own :: Kk 5 (s.map bV) row
def bOk (s : BS) (row : QH) : Prop := rowOk 1 s.length (s.map bV) row ∧ (s = [] → row = none)
theorem wW (r : Nat) (own : Bool) (v : Value) : PureT (α := Unit) Tryz.prog 172 [Kw r].toArray (fun _ => .tuple #[]) [(r, .cells #[pB own r, v] 154 (0, 0))] (fun _ => [(r, .cells #[pB true r, v] 154 (0, 0))]) [] := by
 cases own with
 | false =>
  refine J1 Tryz.func172 rfl rfl fun w => ?_; refine sR fun _ hK1 => ?_; refine Jb rfl (J2 rfl ?_)
  refine LR rfl (Ja rfl rfl (by first | (simp only [Nat.zero_add, Nat.reduceAdd, Nat.reduceMul, Nat.zero_mul, Nat.mul_one, Nat.add_zero]; exact rfl) | exact rfl)) ?_; refine LR rfl (Jc (v := .pointer none) rfl (kn 0 rfl) rfl rfl) ?_; refine LR rfl (Jdy rfl rfl rfl rfl) ?_; refine nK hK1 ?_; refine cD (fun g => ?_) fun g => ?_
  refine Je (Jb rfl ?_); refine Jb rfl (LR rfl (zj (sz := 2) rfl (kn 0 rfl) rfl rfl rfl (by decide) (by simp)) (LR rfl (zk rfl rfl (Tryz.func229) (by kernel_rfl) rfl rfl rfl) ?_)); refine LR rfl (vg rfl (kn 0 rfl) rfl rfl rfl (by kernel_rfl)) ?_; refine J2 rfl ?_
  refine LR rfl (Ja rfl rfl (by first | (simp only [Nat.zero_add, Nat.reduceAdd, Nat.reduceMul, Nat.zero_mul, Nat.mul_one, Nat.add_zero]; exact rfl) | exact rfl)) ?_; refine Ju (k := 0) (cs' := #[Kw r, v]) rfl rfl rfl rfl rfl rfl rfl rfl rfl rfl ?_; refine Jt ?_; refine Qf rfl rfl .nil (fun w1 hs1 => ?_); exact ⟨(), rfl, hs1⟩
  try exact Bool.noConfusion g
 | true =>
  refine J1 Tryz.func172 rfl rfl fun w => ?_; refine sR fun _ hK1 => ?_; refine Jb rfl (J2 rfl ?_)
  refine LR rfl (Ja rfl rfl (by first | (simp only [Nat.zero_add, Nat.reduceAdd, Nat.reduceMul, Nat.zero_mul, Nat.mul_one, Nat.add_zero]; exact rfl) | exact rfl)) ?_; refine LR rfl (Jc (v := Kw r) rfl (kn 0 rfl) rfl rfl) ?_; refine LR rfl (Jdz rfl rfl rfl rfl) ?_; refine nK hK1 ?_; refine Jl rfl (fun g => ?_) (fun g => ?_)
  try exact Bool.noConfusion g
  ·refine sR fun _ hK3 => ?_; refine Jb rfl (J2 rfl ?_)
   refine LR rfl (Ja rfl rfl (by first | (simp only [Nat.zero_add, Nat.reduceAdd, Nat.reduceMul, Nat.zero_mul, Nat.mul_one, Nat.add_zero]; exact rfl) | exact rfl)) ?_; refine LR rfl (Jc (v := Kw r) rfl (kn 0 rfl) rfl rfl) ?_; refine Jb rfl (LR rfl (Jdx rfl rfl rfl rfl) ?_); refine nK hK3 ?_; refine Jl rfl (fun g => ?_) (fun g => ?_)
   try exact Bool.noConfusion g
   ·try simp only [ZZ] at g
    refine Jg ?_; refine Qf rfl rfl .nil (fun w1 hs1 => ?_); exact ⟨(), rfl, hs1⟩
theorem Y3 (r : Nat) (s : BS) (row : QH) (own : Bool) : PureT (α := Unit) Tryz.prog 172 [Kw r].toArray (fun _ => .tuple #[]) [vF r s row own] (fun _ => [vF r s row true]) [] := wW r own _
theorem WY {r : Nat} {s s2 : BS} {row : QH} {own : Bool} (hb : bOk s row) (hl : s.length + s2.length ≤ 1000000) :
  PureT (α := { x : QH // bOk (s ++ s2) x }) Tryz.prog 77 [Kw r, Jq s2].toArray (fun _ => .tuple #[.int .i64 (s2.length : Int), .nilIface]) (QS r s row own) (fun x => QS r (s ++ s2) x.1 true) [] := by
 refine J1 Tryz.func77 rfl rfl fun w => ?_
 unfold QS
 refine sR fun _ hK1 => ?_; refine Jb rfl (Jb rfl ?_); refine nK hK1 ?_; refine sR fun _ hK2 => ?_; refine Jb rfl (J9 (T := [vF r s row own]) (L0 := Kk 5 (s.map bV) row) (Rl := []) (List.Perm.refl _) rfl rfl rfl (enters_of Tryz.func172 (by kernel_rfl) rfl) (Y3 r s row own) oN fun u => ?_); change HL _ _ _ (vF r s row true :: Kk 5 (s.map bV) row) _ _ _ _; refine nK hK2 ?_; refine sR fun _ hK3 => ?_; refine Jb rfl (Jb rfl (J2 rfl ?_))
 refine LR rfl (Ja rfl rfl (by first | (simp only [Nat.zero_add, Nat.reduceAdd, Nat.reduceMul, Nat.zero_mul, Nat.mul_one, Nat.add_zero]; exact rfl) | exact rfl)) ?_; refine LR rfl (Jc (v := JO s.length row) rfl (kn 0 rfl) rfl rfl) ?_; refine Jb rfl (zi (e := 5) (s := s) (s2 := s2) (row := row) (L0 := [vF r s row true]) (List.perm_append_comm (l₁ := [_])) rfl rfl rfl rfl rfl rfl rfl rfl rfl hb.1 hb.2 (by omega) fun row2 h1 h2 => (Kv List.perm_append_comm ?_)); change HL _ _ _ ((r, .cells #[pB true r, JO s.length row] 154 (0, 0)) :: Kk 5 ((s ++ s2).map bV) row2) _ _ _ _; refine J2 rfl ?_
 refine LR rfl (Ja rfl rfl (by first | (simp only [Nat.zero_add, Nat.reduceAdd, Nat.reduceMul, Nat.zero_mul, Nat.mul_one, Nat.add_zero]; exact rfl) | exact rfl)) ?_; refine Ju (k := 0) (cs' := #[pB true r, JO (s ++ s2).length row2]) rfl rfl rfl rfl rfl (wE _ _) rfl rfl rfl rfl ?_; refine nK hK3 ?_; refine sR fun _ hK4 => ?_; refine Jb rfl (LR rfl (JI rfl rfl) ?_); refine Jb rfl (Jb rfl ?_); refine nK hK4 ?_; refine Jd ?_; refine Jp rfl rfl (.cons (Jk rfl) (.cons (Jk rfl) .nil)) (fun w1 hs1 => ?_); exact ⟨⟨row2, h1, h2⟩, rfl, hs1⟩
theorem vG {r : Nat} {s : BS} {row : QH} {own : Bool} (hb : bOk s row) (hl : s.length ≤ 1000000) :
  PureT (α := Unit) Tryz.prog 78 [Kw r].toArray (fun _ => Jq s) (QS r s row own) (fun _ => []) [] := by
 have hcap : ∀ q cap sp, row = some (q, cap, sp) → cap ≠ 0 := by
  rintro q cap sp rfl h0
  obtain ⟨⟨h1, h2⟩, h3⟩ := hb
  have h4 : s.length = 0 := by omega
  have := h3 (List.eq_nil_of_length_eq_zero h4)
  cases this
 refine J1 Tryz.func78 rfl rfl fun w => ?_
 unfold QS
 refine sR fun _ hK1 => ?_; refine Jb rfl ?_; refine nK hK1 ?_; refine sQ fun _ hK2 => ?_
 refine Km [] [(0, .pure), (1, .pure), (2, .pure), (4, .pure), (5, .pure), (6, .pure), (7, .pure), (9, .pure)] 10 [0, 1, 2, 3, 4, 5, 6, 7, 8, 9] (by kernel_rfl) (by kernel_rfl) (by first | exact (fun _ h => absurd h List.not_mem_nil) | simp [SubS] | (intro p hp; simp [hp])) ?_; refine JH (k := 0) rfl rfl rfl rfl rfl (fun _ hS => (JG rfl)) ?_; refine JH (k := 1) rfl rfl rfl rfl rfl (fun _ hS => (KC rfl rfl rfl)) ?_
 refine JH (k := 2) rfl rfl rfl rfl rfl (fun _ hS => (Ja rfl rfl (by first | (simp only [Nat.zero_add, Nat.reduceAdd, Nat.reduceMul, Nat.zero_mul, Nat.mul_one, Nat.add_zero]; exact rfl) | exact rfl))) ?_; refine Q5 (k := 3) rfl rfl rfl rfl rfl (Jc (v := JO s.length row) rfl (kn 0 rfl) rfl rfl) ?_; refine JH (k := 4) rfl rfl rfl rfl rfl (fun _ _ => vf rfl hcap) ?_; refine JH (k := 5) rfl rfl rfl rfl rfl (fun _ hS => (JG rfl)) ?_; refine JH (k := 6) rfl rfl rfl rfl rfl (fun _ hS => (KC rfl rfl rfl)) ?_
 refine JH (k := 7) rfl rfl rfl rfl rfl (fun _ hS => (Ja rfl rfl (by first | (simp only [Nat.zero_add, Nat.reduceAdd, Nat.reduceMul, Nat.zero_mul, Nat.mul_one, Nat.add_zero]; exact rfl) | exact rfl))) ?_; refine Q5 (k := 8) rfl rfl rfl rfl rfl (Jc (v := JO s.length row) rfl (kn 0 rfl) rfl rfl) ?_; refine JH (k := 9) rfl rfl rfl rfl rfl (fun _ _ => VY rfl hb.1.zero rfl) ?_; refine Qc ?_; refine ZA (e := 5) (s := s) (row := row) (L0 := [vF r s row own]) (List.perm_append_comm (l₁ := [_])) rfl rfl rfl rfl rfl rfl hb.1 hb.2 (by omega) ?_; refine Jb rfl ?_; refine nK hK2 ?_; refine Jd ?_; refine pT rfl rfl rfl fun w1 hs1 => ?_; exact ⟨(), rfl, hs1.weakL (List.nil_sublist _)⟩
inductive ItL : Type
  | mk (l : Bool) (b : BS) (p : Pl) (xs : List ItL) : ItL
def ItL.l : ItL → Bool
 | .mk l _ _ _ => l
def ItL.b : ItL → BS
 | .mk _ b _ _ => b
def ItL.p : ItL → Pl
 | .mk _ _ p _ => p
def ItL.xs : ItL → List ItL
 | .mk _ _ _ xs => xs
def ItL.cells : ItL → List Value
 | .mk l b p xs => [.bool l, Jq b, Ky xs.length p]
def ItL.val (t : ItL) : Value := .agg t.cells.toArray
def ItL.er : ItL → It
 | .mk l b _ xs => .mk l b (xs.map ItL.er)
theorem ItL.len (t : ItL) : t.cells.length = 3 := by cases t; rfl
theorem ItL.one (t : ItL) : t.cells.all QX = true := by cases t; rfl
inductive ItL.In (R : Jy) : ItL → Prop
  | mk {l : Bool} {b : BS} {p : Pl} {xs : List ItL} (hb : b.length ≤ 1000000) (hl : xs.length ≤ 1000000) (hs : Seg R xs.length (xs.flatMap ItL.cells) p) (hi : ∀ x ∈ xs, ItL.In R x) : ItL.In R (.mk l b p xs)
theorem ItL.In.mono {R R' : Jy} (hs : ∀ q ∈ R, q ∈ R') {t : ItL} (h : ItL.In R t) : ItL.In R' t := by
 induction h with
 | mk hb hl h1 h2 ih => exact .mk hb hl (h1.mono hs) ih
theorem ItL.In.sub {R : Jy} {t : ItL} (h : ItL.In R t) : ∀ x ∈ t.xs, ItL.In R x := by cases h; assumption
theorem ItL.In.seg {R : Jy} {t : ItL} (h : ItL.In R t) : Seg R t.xs.length (t.xs.flatMap ItL.cells) t.p := by cases h; assumption
theorem ItL.In.hb {R : Jy} {t : ItL} (h : ItL.In R t) : t.b.length ≤ 1000000 := by cases h; assumption
theorem ItL.In.hl {R : Jy} {t : ItL} (h : ItL.In R t) : t.xs.length ≤ 1000000 := by cases h; assumption
theorem ItL.er_l (t : ItL) : t.er.l = t.l := by cases t; rw [ItL.er]; rfl
theorem ItL.er_b (t : ItL) : t.er.b = t.b := by cases t; rw [ItL.er]; rfl
theorem ItL.er_xs (t : ItL) : t.er.xs = t.xs.map ItL.er := by cases t; rw [ItL.er]; rfl
def Jj (s : BS) : ItL := .mk false s none []
theorem KX {R : Jy} {s : BS} (h : s.length ≤ 1000000) : (Jj s).In R := .mk h (Nat.zero_le _) rfl (fun _ h => nomatch h)
theorem QM (s : BS) : (Jj s).er = Ki s := by unfold Jj; rw [ItL.er]; rfl
structure ItR (R : Jy) (e : It) : Type where
  x : ItL
  L : Jy
  h : x.In (L ++ R)
  e : x.er = e
def Jpc : ItL := Jj []
def JK (l : List ItL) : List Value := l.flatMap ItL.cells
def KN (l : List BS) : List Value := l.map Jq
theorem QU (l : List ItL) : (JK l).length = l.length * 3 := ZL ItL.len l
theorem Wz (s : BS) : Pure Tryz.prog 38 [Jq s].toArray (Jj s).val := by
 refine JF Tryz.func38 rfl rfl fun w => ?_; refine sR fun _ hK1 => ?_; refine LN rfl fun r1 => ?_; refine nK hK1 ?_; refine sR fun _ hK2 => ?_; refine Jb rfl (LR rfl (J7 (r := [_, _, _]) rfl rfl) ?_)
 refine Jv (k := 0) (n := 3) (cs' := #[_, _, _]) (vs := #[_, _, _]) rfl rfl rfl rfl rfl rfl rfl (by exact Nat.le_of_ble_eq_true rfl) rfl (by first | (simp only [List.set_cons_zero, List.set_cons_succ]; exact rfl) | exact rfl) ?_; refine nK hK2 ?_; refine Jd ?_; refine Jp rfl rfl (.cons (J0 (vs := [_, _, _]) rfl (kn 0 rfl) rfl rfl) .nil) (fun w1 hs1 => ?_); exact ⟨rfl, hs1.keep⟩
theorem Vw {n : Nat} (hn : n < 18446744073709551616) : Pure Tryz.prog 39 [uV n].toArray (Jj (KT n)).val := by
 refine JF Tryz.func39 rfl rfl fun w => ?_; refine sR fun _ hK1 => ?_; refine LN rfl fun r1 => ?_; refine nK hK1 ?_; refine sR fun _ hK2 => ?_; refine Jb rfl (JC rfl rfl rfl (enters_of Tryz.func111 (by kernel_rfl) rfl) (wP hn) (JC rfl rfl rfl jP (Wz _) ?_)); refine Js (k := 0) (n := 3) (ys := (Jj (KT n)).cells) rfl rfl rfl rfl rfl rfl rfl rfl rfl ?_; refine nK hK2 ?_; refine Jd ?_; refine Jp rfl rfl (.cons (J0 (vs := [_, _, _]) rfl (kn 0 rfl) rfl rfl) .nil) (fun w1 hs1 => ?_); exact ⟨rfl, hs1.keep⟩
theorem WZ {x : W4} (hx : x.ok) : Pure Tryz.prog 98 [wV x.l].toArray (Jj (JE x.l)).val := by
 refine JF Tryz.func98 rfl rfl fun w => ?_; refine sR fun _ hK1 => ?_; refine JX (cs := List.toArray (x.l.map uV)) rfl rfl rfl rfl fun r0 => ?_; refine LN rfl fun r1 => ?_; refine nK hK1 ?_; refine sR fun _ hK2 => ?_; refine LR rfl (Jm (xs := x.l.map uV) (n := 4) rfl (kn 1 rfl) rfl rfl rfl) ?_; refine JC rfl rfl rfl (enters_of Tryz.func190 (by kernel_rfl) rfl) (Yx hx.wok) ?_; refine JC rfl rfl rfl jP (Wz _) ?_; refine Js (k := 0) (n := 3) (ys := (Jj (JE x.l)).cells) rfl rfl rfl rfl rfl rfl rfl rfl rfl ?_; refine nK hK2 ?_; refine Jd ?_; refine Jp rfl rfl (.cons (J0 (vs := [_, _, _]) rfl (kn 0 rfl) rfl rfl) .nil) (fun w1 hs1 => ?_); exact ⟨rfl, hs1.keep⟩
def Jfd (v : Value) : Value := .agg [.bool true, Jq [], v].toArray
theorem Zb (a : Option Addr) (n k : Nat) : Pure Tryz.prog 34 [.slice a n k].toArray (Jfd (.slice a n k)) := by
 refine JF Tryz.func34 rfl rfl fun w => ?_; refine sR fun _ hK1 => ?_; refine LN rfl fun r1 => ?_; refine nK hK1 ?_; refine sR fun _ hK2 => ?_; refine Jb rfl (LR rfl (J7 (r := [_, _, _]) rfl rfl) ?_)
 refine Jv (k := 0) (n := 3) (cs' := #[_, _, _]) (vs := #[_, _, _]) rfl rfl rfl rfl rfl rfl rfl (by exact Nat.le_of_ble_eq_true rfl) rfl (by first | (simp only [List.set_cons_zero, List.set_cons_succ]; exact rfl) | exact rfl) ?_; refine nK hK2 ?_; refine Jd ?_; refine Jp rfl rfl (.cons (J0 (vs := [_, _, _]) rfl (kn 0 rfl) rfl rfl) .nil) (fun w1 hs1 => ?_); exact ⟨rfl, hs1.keep⟩
theorem Jfe {α : Type} {f : α → ItL} {l : List α} {i : Nat} {y : α} (h : l[i]? = some y) : JK ((l.take i).map f) ++ (f y).cells = JK ((l.take (i + 1)).map f) := by
 rw [List.take_add_one, h, Option.toList_some, List.map_append, JK, JK, List.flatMap_append]; simp
structure ItN (e : It) : Type where
  x : ItL
  L : Jy
  h : x.In L
  e : x.er = e
theorem Ql {n : Nat} {row : QH} {sz : Nat} {cs : List Value} (h : rowOk sz n cs row) : JO n row = Ky n (Qm row) := (Jly _ _ (fun e => by rw [e] at h; exact h.1)).symm
theorem Y4 {R : Jy} {xs : List ItL} {e : TypeId} {row : QH} (hl : xs.length ≤ 1000000) (ho : rowOk 3 xs.length (JK xs) row) (hr : ∀ q ∈ Kk e (JK xs) row, q ∈ R) (hx : ∀ x ∈ xs, x.In R) :
  (ItL.mk true [] (Qm row) xs).In R := .mk (by simp) hl ((Qg (e := e) ho (by decide)).mono hr) hx
theorem Y5 (p : Pl) (xs : List ItL) : (ItL.mk true [] p xs).er = KG (xs.map ItL.er) := by rw [ItL.er]; rfl
theorem wX (l : List BS) : (l.map Jj).map ItL.er = l.map Ki := by
 rw [List.map_map]; exact List.map_congr_left fun s _ => QM s
theorem Jan {R : Jy} {l : List BS} {p : Pl} (hl : l.length ≤ 100000) (hs : Seg R l.length (KN l) p) (hb : ∀ s ∈ l, s.length ≤ 1000000) :
  PureT (α := ItN (QZ l)) Tryz.prog 40 [Ky l.length p].toArray (fun y => y.x.val) [] (fun y => y.L) R := by
 refine J1 Tryz.func40 rfl rfl fun w => ?_; refine sR fun _ hK1 => ?_; refine LN rfl fun r1 => ?_; refine nK hK1 ?_; refine sR fun _ hK2 => ?_; refine JC rfl rfl rfl Jb7 (Zb none 0 0) ?_; refine LN rfl fun r2 => ?_
 refine Jv (k := 0) (n := 3) (cs' := #[_, _, _]) (vs := #[_, _, _]) rfl rfl rfl rfl rfl rfl rfl (by exact Nat.le_of_ble_eq_true rfl) rfl (by first | (simp only [List.set_cons_zero, List.set_cons_succ]; exact rfl) | exact rfl) ?_; refine nK hK2 ?_; refine sQ fun _ hK3 => ?_; refine sR fun _ hK4 => ?_; refine Jb rfl (LR rfl (JJ rfl hs rfl) (Jb rfl ?_)); refine nK hK4 ?_; refine J3 (JS (σ := Nat × QH) (fun q => q.1 ≤ l.length ∧ rowOk 3 q.1 (JK ((l.take q.1).map Jj)) q.2) (fun q => [(2, Kw r1), (3, Kw r2), (7, Ky l.length p), (8, .int .i64 (l.length : Int)), (9, .int .i64 (q.1 : Int))]) (fun q => (r2, .cells #[.bool true, Jq [], JO q.1 q.2] 91 (0, 0)) :: (r1, .cells #[.bool false, Jq [], .slice none 0 0] 91 (0, 0)) :: Kk 91 (JK ((l.take q.1).map Jj)) q.2) (fun _ _ _ => True) (fun q => l.length - q.1) (0, none) ⟨Nat.zero_le _, rfl, rfl⟩ (lK rfl) (List.Sublist.refl _) (fun _ _ h => h) ?_); rintro ⟨i, row⟩ ⟨hi1, hrow⟩; simp only at hi1 hrow; change HC _ _ [(2, Kw r1), (3, Kw r2), (7, Ky l.length p), (8, .int .i64 (l.length : Int)), (9, .int .i64 (i : Int))] ((r2, .cells #[.bool true, Jq [], JO i row] 91 (0, 0)) :: (r1, .cells #[.bool false, Jq [], .slice none 0 0] 91 (0, 0)) :: Kk 91 (JK ((l.take i).map Jj)) row) _ _ _; refine sR fun _ hK5 => ?_; refine J2 rfl ?_; refine nK hK5 ?_; refine sQ fun _ hK6 => ?_; refine cD (fun g => ?_) fun g => ?_
 ·refine Jg (hK6 ?_); refine sB fun _ hK8 => ?_; refine sQ fun _ hK9 => ?_
  obtain ⟨y, hy, hmy⟩ := QA (show i < l.length by omega)
  refine Je ?_
  refine LR rfl (JB (j := i) rfl hs rfl rfl rfl (by first | rfl | omega) (by omega)) ?_; refine LR rfl (Qy oR rfl hs (by omega) rfl (show (KN l)[i]? = some (Jq y) from by unfold KN; rw [List.getElem?_map, hy]; rfl)) ?_; refine Jb rfl ?_; refine nK hK9 ?_
  refine Km [(r2, .cells #[.bool true, Jq [], JO i row] 91 (0, 0))] [(0, .pure), (1, .pure), (2, .pure), (3, .pure), (4, .grow (QK (ZI 1) (.cells (Jj y).cells.toArray 91 (0, 0))))] 5 [0, 1, 2, 3, 4] (by kernel_rfl) (by kernel_rfl) (by first | exact (fun _ h => absurd h List.not_mem_nil) | simp [SubS] | (intro p hp; simp [hp])) ?_
  refine JH (k := 0) rfl rfl rfl rfl rfl (fun _ hS => (Ja rfl rfl (by first | (simp only [Nat.zero_add, Nat.reduceAdd, Nat.reduceMul, Nat.zero_mul, Nat.mul_one, Nat.add_zero]; exact rfl) | exact rfl))) ?_; refine JH (k := 1) rfl rfl rfl rfl rfl (fun _ hS => (Jc rfl (.inl (hS _ (Jw (n := 0) rfl))) rfl rfl)) ?_; refine JH (k := 2) rfl rfl rfl rfl rfl (fun _ hS => (JG rfl)) ?_; refine Kf (k := 3) rfl rfl rfl rfl rfl jP (Wz y) ?_; refine Wy (k := 4) (n := 1) (sz := 3) (vs := [_]) (zs := [_, _, _]) (r := (Jj y).cells) rfl rfl rfl rfl rfl rfl rfl rfl rfl rfl rfl (by rw [Qo]; exact rfl) rfl fun rb => ?_; refine Qc ?_; refine Kh (L0 := [_, _, _]) (xs := JK ((l.take i).map Jj)) (row := row) (n := i) (sz := 3) (b := 48) (news := (Jj y).cells) (List.perm_append_comm (l₁ := [_, _, _])) rfl rfl rfl rfl (kn 0 rfl) rfl rfl rfl rfl rfl (by decide) rfl rfl rfl (by decide) hrow (by omega) (by omega) fun ra cap sp hra => ?_
  refine LR rfl (Ja rfl rfl (by first | (simp only [Nat.zero_add, Nat.reduceAdd, Nat.reduceMul, Nat.zero_mul, Nat.mul_one, Nat.add_zero]; exact rfl) | exact rfl)) ?_; refine Ju (k := 2) (cs' := #[.bool true, Jq [], JO (i + 1) (some (ra, cap, sp))]) rfl rfl rfl rfl rfl rfl rfl rfl rfl rfl ?_; refine Jt ?_; refine Jo (hK8 ?_); refine Je ?_
  refine J2 rfl ?_; refine JA (show _ = Value.int .i64 ((i + 1 : Nat) : Int) from by rw [wrap_i64 (by omega) (by omega)]; congr 1 <;> omega) ?_; refine Jb rfl (Jt (JU ?_)); rw [Jfe hy] at hra ⊢; refine VW [2, 3, 0] (L' := [_, _, _]) (by decide) rfl ?_; exact JN (i + 1, some (ra, cap, sp)) ⟨by simp only; omega, hra⟩ (by simp only; omega) (lK rfl) (List.Sublist.refl _) (fun _ _ h => h)
 ·refine JL (Jn ?_); refine Jn (J8 (hK3 ?_)); refine sQ fun _ hK10 => ?_
  have honeV : ([.bool true, Jq [], JO i row] : List Value).all QX = true := by cases row <;> rfl
  refine Je (LR rfl (Jm (xs := [.bool true, Jq [], JO i row]) (n := 3) rfl (kn 0 rfl) rfl rfl rfl) (Js (k := 1) (n := 3) (ys := [.bool true, Jq [], JO i row]) rfl rfl rfl rfl rfl rfl rfl honeV rfl ?_)); refine nK hK10 ?_; refine Jd ?_; refine Jp rfl rfl (.cons (J0 (vs := [_, _, _]) rfl (kn 1 rfl) rfl rfl) .nil) (fun w1 hs1 => ?_)
  have hiM : i = l.length := by omega
  rw [hiM, List.take_length] at hrow hs1
  have hrow2 : rowOk 3 (l.map Jj).length (JK (l.map Jj)) row := by rw [List.length_map]; exact hrow
  have hvr : JO i row = Ky (l.map Jj).length (Qm row) := by rw [hiM, List.length_map]; exact Ql hrow
  exact ⟨⟨.mk true [] (Qm row) (l.map Jj), Kk 91 (JK (l.map Jj)) row, Y4 (by rw [List.length_map]; omega) hrow2 (fun q h => h) (fun x hx => by obtain ⟨s, hs, rfl⟩ := List.mem_map.1 hx; exact KX (hb s hs)), by rw [Y5, wX]; rfl⟩, congrArg (fun z => Ending.returned (Value.agg #[.bool true, Jq [], z])) hvr, hs1.weakL (.cons _ (.cons _ (List.Sublist.refl _)))⟩
theorem Jff : ∀ l : List BS, Lib.join l [] = l.flatten
 | [] => rfl
 | [x] => by simp [Lib.join, List.intercalate]
 | x :: y :: r => by
  have := Jff (y :: r)
  unfold Lib.join List.intercalate at this ⊢
  simp only [List.intersperse_cons₂, List.flatten_cons] at this ⊢; rw [this]; simp
theorem j6 {R : Jy} {n : Nat} {cs : List Value} {a : Addr} {cap : Nat} {w : World} (h : Seg R n cs (some (a, cap))) (hn : 0 < n) (hR : YI R w) : a.spot = none ∧ a.block < w.heap.size ∧ ∀ (j : Nat) v, cs[j]? = some v → w.cell? ⟨a.block, a.off + j, none⟩ = some v := by
 obtain ⟨h1, h2⟩ := h
 obtain ⟨h3, all, e, fr, h4, h5⟩ := h2 hn
 have h6 := hR _ h4
 refine ⟨h3, J6 h6, fun j v hv => ?_⟩; rw [Ve h6, ← Array.getElem?_toList]; exact wt h5 hv
theorem zC {R : Jy} {l : List BS} {p : Pl} (hs : Seg R l.length (KN l) p) (hl : l.flatten.length ≤ 1000000000) (hn : l.length ≤ 1000000000) :
    PureR Tryz.prog 177 [Ky l.length p, Jq []].toArray (Jq l.flatten) R := ⟨fun w hR => by
  by_cases h0 : l.length = 0
  · obtain rfl := List.eq_nil_of_length_eq_zero h0
    exact (Tryz.strings_Join_none (plA p) (plC p) ⟨#[]⟩ w).mono fun _ _ ⟨h1, h2⟩ => ⟨h1, h2 ▸ Keep.refl _ _⟩
  · cases p with
    | none => exact absurd hs h0
    | some q =>
      obtain ⟨a, cap⟩ := q
      obtain ⟨h1, h2, h3⟩ := j6 hs (by omega) hR
      obtain ⟨b, o, sp⟩ := a
      simp only at h1; subst h1
      have hm : (l.map bs).map (·.data.toList) = l := by rw [List.map_map]; conv => rhs; rw [← List.map_id l]
                                                         exact List.map_congr_left fun s _ => rfl
      have := Tryz.strings_Join b o cap (l.map bs) ⟨#[]⟩ w (fun j x hx => h3 j _ (by
        rw [List.getElem?_map] at hx
        unfold KN; rw [List.getElem?_map]
        cases e : l[j]? with
        | none => rw [e] at hx; cases hx
        | some y => rw [e] at hx; cases hx; rfl)) h2 (by rw [List.length_map]; omega) (by rw [List.length_map]; exact hs.1) (by rw [hm]; show (Lib.join l []).length ≤ _; rw [Jff]; omega)
      rw [hm, List.length_map] at this; refine this.mono fun _ _ ⟨e1, e2⟩ => ⟨?_, Keep.of_below e2⟩
      rw [e1]; show Ending.returned (.string ⟨(Lib.join l []).toArray⟩) = _; rw [Jff]; rfl⟩
theorem Jao {R : Jy} {l : List BS} {p : Pl} (hs : Seg R l.length (KN l) p) (hl : l.flatten.length ≤ 1000000000) (hn : l.length ≤ 1000000000) :
  PureR Tryz.prog 236 [Ky l.length p].toArray (Jq l.flatten) R := by
 refine Jz Tryz.func236 rfl rfl fun w => ?_; refine sR fun _ hK1 => ?_; refine Jb rfl ?_; refine nK hK1 ?_; refine sR fun _ hK2 => ?_; refine Jb rfl (J4 rfl rfl rfl Jey (zC hs hl hn) oR (Jb rfl ?_)); refine nK hK2 ?_; refine Jd ?_; refine pT rfl rfl rfl fun w1 hs1 => ?_; exact ⟨rfl, hs1.keep⟩
theorem Jap {R : Jy} {r : Nat} {a b : BS} {e : TypeId} (h : (r, Obj.cells [Jq a, Jq b].toArray e (0, 0)) ∈ R) : Seg R [a, b].length (KN [a, b]) (some (⟨r, 0, none⟩, 2)) :=
 ⟨Nat.le_refl _, fun _ => ⟨rfl, _, e, (0, 0), h, rfl⟩⟩
theorem Jl8 {n by_ : Nat} (hn : n ≤ 100000000) (hb : by_ = 128 ∨ by_ = 192) : Pure Tryz.prog 237 [.int .i64 (n : Int), .int .i64 (by_ : Int)].toArray (Jq (Qq n by_)) := by
 have h3 := (WX (n := n) (k := 4) (by omega) (by omega)).2 (by omega)
 refine JF Tryz.func237 rfl rfl fun w => ?_; refine sR fun _ hK1 => ?_; refine Jb rfl ?_; refine nK hK1 ?_; refine sQ fun _ hK2 => ?_; refine sR fun _ hK3 => ?_; refine Jb rfl (J2 rfl ?_); refine nK hK3 ?_; refine cD (fun g => ?_) fun g => ?_
 ·refine sR fun _ hK5 => ?_; refine Jb rfl (Jb rfl ?_)
  refine J2 rfl ?_; refine JA (show _ = Value.int .i64 ((by_ + n : Nat) : Int) from by rw [wrap_i64 (by omega) (by omega)]; congr 1 <;> omega) ?_; refine J2 rfl (JA (show _ = bV (UInt8.ofNat (by_ + n)) from vd (by omega)) ?_); refine JV (vs := [_]) (zs := [_]) (r := [_]) rfl rfl rfl rfl rfl rfl rfl rfl rfl (by show (madeCells #[_] _).toList = _; rw [KA]; exact rfl) rfl fun r1 => ?_; refine LR rfl (Q9 (row := some (r1, 1, [])) (b := [UInt8.ofNat (by_ + n)]) rfl ⟨rfl, rfl⟩ (fun q hq => by rw [List.mem_singleton.1 hq]; exact Vf (k := 0) rfl) rfl rfl rfl) ?_; refine Jb rfl ?_; refine nK hK5 ?_; refine Jd (Ji ?_); refine pT rfl rfl rfl fun w1 hs1 => ?_; refine ⟨?_, hs1.keep⟩
  unfold Qq
  rw [if_pos (by omega)]; rfl
 ·refine Jg (hK2 ?_); refine sR fun _ hK6 => ?_; refine Jb rfl (J2 rfl (JA (show _ = uV n from congrArg (Value.int .u64) (wrap_u64 (by omega) (by omega))) ?_)); refine JC rfl rfl rfl (enters_of Tryz.func111 (by kernel_rfl) rfl) (wP (n := n) (by omega)) ?_; refine Jb rfl ?_; refine nK hK6 ?_; refine sR fun _ hK7 => ?_; refine Jb rfl ?_
  refine J2 rfl ?_; refine JA (show _ = Value.int .i64 ((by_ + 56 : Nat) : Int) from by rw [wrap_i64 (by omega) (by omega)]; congr 1 <;> omega) ?_
  refine J2 rfl ?_; refine JA (show _ = Value.int .i64 ((by_ + 55 : Nat) : Int) from by rw [wrap_i64 (by omega) (by omega)]; congr 1 <;> omega) ?_; refine Jb rfl (LR rfl (JI rfl rfl) ?_)
  refine J2 rfl ?_; refine JA (show _ = Value.int .i64 ((by_ + 55 + (KT n).length : Nat) : Int) from by rw [wrap_i64 (by omega) (by omega)]; congr 1 <;> omega) ?_; refine J2 rfl (JA (show _ = bV (UInt8.ofNat (by_ + 55 + (KT n).length)) from vd (by omega)) ?_); refine JV (vs := [_]) (zs := [_]) (r := [_]) rfl rfl rfl rfl rfl rfl rfl rfl rfl (by show (madeCells #[_] _).toList = _; rw [KA]; exact rfl) rfl fun r2 => ?_; refine LR rfl (Q9 (row := some (r2, 1, [])) (b := [UInt8.ofNat (by_ + 55 + (KT n).length)]) rfl ⟨rfl, rfl⟩ (fun q hq => by rw [List.mem_singleton.1 hq]; exact Vf (k := 0) rfl) rfl rfl rfl) ?_; refine Jb rfl ?_; refine JV (vs := [_, _]) (zs := [_, _]) (r := [_, _]) rfl rfl rfl rfl rfl rfl rfl rfl rfl (by show (madeCells #[_] _).toList = _; rw [KA]; exact rfl) rfl fun r3 => ?_; refine J4 rfl rfl rfl (enters_of Tryz.func236 (by kernel_rfl) rfl) (Jao (R := [(r3, .cells [Jq [UInt8.ofNat (by_ + 55 + (KT n).length)], Jq (KT n)].toArray 9 (0, 0))]) (Jap List.mem_cons_self) (by simp; omega) (by simp)) (fun q hq => by rw [List.mem_singleton.1 hq]; exact Vf (k := 0) rfl) ?_; refine Jb rfl ?_; refine nK hK7 ?_; refine Jd ?_; refine pT rfl rfl rfl fun w1 hs1 => ?_; refine ⟨?_, hs1.keep⟩
  unfold Qq
  rw [if_neg (by omega)]; simp [Q2]
theorem wY {s : BS} {by_ : Nat} (hn : s.length ≤ 1000000) (hb : by_ = 128 ∨ by_ = 192) : Pure Tryz.prog 197 [Jq s, .int .i64 (by_ : Int)].toArray (Jq (KB s by_)) := by
 have hh := XA (n := s.length) (by_ := by_) (by omega)
 refine JF Tryz.func197 rfl rfl fun w => ?_; refine sR fun _ hK1 => ?_; refine Jb rfl ?_; refine nK hK1 ?_; refine sR fun _ hK2 => ?_; refine Jb rfl (LR rfl (JI rfl rfl) ?_); refine Jb rfl (JC rfl rfl rfl (enters_of Tryz.func237 (by kernel_rfl) rfl) (Jl8 (n := s.length) (by omega) hb) (Jb rfl ?_)); refine JV (vs := [_, _]) (zs := [_, _]) (r := [_, _]) rfl rfl rfl rfl rfl rfl rfl rfl rfl (by show (madeCells #[_] _).toList = _; rw [KA]; exact rfl) rfl fun r1 => ?_; refine J4 rfl rfl rfl (enters_of Tryz.func236 (by kernel_rfl) rfl) (Jao (R := [(r1, .cells [Jq (Qq s.length by_), Jq s].toArray 9 (0, 0))]) (Jap List.mem_cons_self) (by simp; omega) (by simp)) (fun q hq => by rw [List.mem_singleton.1 hq]; exact Vf (k := 0) rfl) ?_; refine Jb rfl ?_; refine nK hK2 ?_; refine Jd ?_; refine pT rfl rfl rfl fun w1 hs1 => ?_; refine ⟨?_, hs1.keep⟩
 simp [Q2, KB]
def wkV (q : Nat) : Value := .func (.func 196) #[] #[Kw q]
def wkB (q : Nat) : Nat × Obj := (q, .cells #[wkV q] 277 (0, 0))
theorem W0 {xs : List ItL} {i : Nat} {y : ItL} (h : xs[i]? = some y) : KY ((xs.take (i + 1)).map ItL.er) = KY ((xs.take i).map ItL.er) ++ KM y.er := by
 rw [List.take_add_one, h, Option.toList_some, List.map_append, j3]
 simp [KY]
theorem Y6 {xs : List ItL} (i : Nat) : (KY ((xs.take i).map ItL.er)).length ≤ (KY (xs.map ItL.er)).length := by
 have : xs.map ItL.er = (xs.take i).map ItL.er ++ (xs.drop i).map ItL.er := by rw [← List.map_append, List.take_append_drop]
 rw [this, j3, List.length_append]; omega
theorem Zc {b : BS} {xs : List It} : KM (.mk true b xs) = KB (KY xs) 192 := by rw [KM]; rfl
theorem qA {b : BS} {xs : List It} : KM (.mk false b xs) = if b.length = 1 ∧ (b.getD 0 0).toNat < 128 then b else KB b 128 := by rw [KM]; rfl
theorem qB (s : BS) (k : Nat) : s.length ≤ (KB s k).length := by unfold KB; rw [List.length_append]; omega
theorem Jl9 {R : Jy} {t : ItL} (ht : t.In R) (q : Nat) : ∀ (r : Nat) (s : BS) (row : QH) (own : Bool), bOk s row → s.length + (KM t.er).length ≤ 1000000 →
    PureT (α := { x : QH // bOk (s ++ KM t.er) x }) Tryz.prog 196 [t.val, Kw r, Kw q].toArray (fun _ => .tuple #[]) (QS r s row own) (fun x => QS r (s ++ KM t.er) x.1 true) (wkB q :: R) := by
  induction ht with
  | @mk l b p xs hb hl hs hi ih =>
  intro r s row own hbk hlen; rw [ItL.er] at hlen ⊢
  cases l with
  | true =>
    rw [Zc] at hlen ⊢
    have hle := qB (KY (xs.map ItL.er)) 192
    refine J1 Tryz.func196 rfl rfl fun w => ?_; refine sR fun _ hK1 => ?_; refine LN rfl fun r1 => ?_; refine nK hK1 ?_; refine J3 (sR fun _ hK2 => ?_)
    refine LR rfl (Ja rfl rfl (by first | (simp only [Nat.zero_add, Nat.reduceAdd, Nat.reduceMul, Nat.zero_mul, Nat.mul_one, Nat.add_zero]; exact rfl) | exact rfl)) ?_; refine LR rfl (Jc rfl (kn 0 rfl) rfl rfl) ?_; refine Jb rfl ?_; refine nK hK2 ?_; refine cD (fun g => ?_) fun g => ?_
    · refine sR fun _ hK4 => ?_; refine LN rfl fun rB => ?_; refine nK hK4 ?_; refine sQ fun _ hK5 => ?_; refine sR fun _ hK6 => ?_
      refine LR rfl (Ja rfl rfl (by first | (simp only [Nat.zero_add, Nat.reduceAdd, Nat.reduceMul, Nat.zero_mul, Nat.mul_one, Nat.add_zero]; exact rfl) | exact rfl)) ?_; refine LR rfl (Jc rfl (kn 1 rfl) rfl rfl) ?_; refine LR rfl (JJ rfl hs rfl) ?_; refine Jb rfl ?_; refine nK hK6 ?_; refine J3 (JS (σ := Nat × QH × Bool) (fun z => z.1 ≤ xs.length ∧ bOk (KY ((xs.take z.1).map ItL.er)) z.2.1) (fun z => [(1, Kw r), (2, Kw q), (5, Kw rB), (17, Ky xs.length p), (18, .int .i64 (xs.length : Int)), (19, .int .i64 (z.1 : Int))]) (fun z => QS rB (KY ((xs.take z.1).map ItL.er)) z.2.1 z.2.2 ++ QS r s row own) (fun _ _ _ => True) (fun z => xs.length - z.1) (0, none, false) ⟨Nat.zero_le _, ⟨⟨rfl, rfl⟩, fun _ => rfl⟩⟩ (lK rfl) (.cons₂ _ (.cons _ (List.Sublist.refl _))) (fun _ _ h => h) ?_); rintro ⟨i, row2, own2⟩ ⟨hi1, hbk2⟩; simp only at hi1 hbk2; change HC _ _ [(1, Kw r), (2, Kw q), (5, Kw rB), (17, Ky xs.length p), (18, .int .i64 (xs.length : Int)), (19, .int .i64 (i : Int))] (QS rB (KY ((xs.take i).map ItL.er)) row2 own2 ++ QS r s row own) _ _ _; refine sR fun _ hK7 => ?_; refine J2 rfl ?_; refine nK hK7 ?_; refine sQ fun _ hK8 => ?_; refine cD (fun h9 => ?_) fun h9 => ?_
      · refine Jg (hK8 ?_); refine sB fun _ hK10 => ?_; refine sQ fun _ hK11 => ?_
        obtain ⟨y, hy, hmy⟩ := QA (show i < xs.length by omega)
        refine Je ?_
        refine LR rfl (JB (j := i) rfl hs rfl rfl rfl (by first | rfl | omega) (by omega)) ?_; refine LR rfl (Kt ItL.len (fun q hq => Or.inr (List.mem_cons_of_mem _ hq)) rfl hs hy rfl rfl) ?_; refine LN rfl fun r7 => ?_; refine Js (k := 0) (n := 3) (ys := y.cells) rfl rfl rfl rfl rfl (ItL.len y) rfl (ItL.one y) rfl ?_; refine nK hK11 ?_; refine Je (LR rfl (Jc rfl (Kg (k := 0) rfl) rfl rfl) (LR rfl (Jm (xs := y.cells) (n := 3) rfl (kn 0 rfl) rfl rfl (ItL.len y)) ?_)); refine J9 (T := QS rB (KY ((xs.take i).map ItL.er)) row2 own2) (L0 := (r7, _) :: QS r s row own) List.perm_middle.symm rfl rfl rfl (enters_of Tryz.func196 (by kernel_rfl) rfl) (ih y hmy rB (KY ((xs.take i).map ItL.er)) row2 own2 hbk2 (by have h8 := Y6 (xs := xs) (i + 1); rw [W0 hy, List.length_append] at h8; omega)) (fun q hq => .inr hq) fun x => ?_; refine Jt ?_; refine Jo (hK10 ?_); refine Je ?_
        refine J2 rfl ?_; refine JA (show _ = Value.int .i64 ((i + 1 : Nat) : Int) from by rw [wrap_i64 (by omega) (by omega)]; congr 1 <;> omega) ?_; refine Jb rfl (Jt (JU ?_)); refine Wm List.perm_middle ?_; refine JN (i + 1, x.1, true) ⟨by simp only; omega, by rw [W0 hy]; exact x.2⟩ (by simp only; omega) (lK rfl) (.cons _ (by rw [W0 hy]; exact List.Sublist.refl _)) (fun _ _ h => h)
      refine JL (Jn ?_); refine Jn (J8 (hK5 ?_)); refine Je (Jb rfl ?_)
      have h9 := Y6 (xs := xs) i
      refine J9 (T := QS rB (KY ((xs.take i).map ItL.er)) row2 own2) (L0 := QS r s row own) (Rl := []) (List.Perm.refl _) rfl rfl rfl Jid (vG hbk2 (by omega)) oN fun u => ?_
      have hiM : i = xs.length := by omega
      rw [hiM, List.take_length]; change HL _ _ _ (QS r s row own) _ _ _ _; refine JC rfl rfl rfl (enters_of Tryz.func197 (by kernel_rfl) rfl) (wY (by omega) (.inr rfl)) ?_; refine J9 (T := QS r s row own) (L0 := []) (Rl := []) (by rw [List.append_nil]) rfl rfl rfl zw (WY hbk hlen) oN fun x => ?_; refine Jt ?_; refine Jo ?_; refine Qf rfl rfl .nil (fun w1 hs1 => ?_); exact ⟨x, rfl, by rw [List.append_nil] at hs1; exact hs1⟩
    try exact Bool.noConfusion g
  | false =>
    rw [qA] at hlen ⊢
    have hle := qB b 128
    refine J1 Tryz.func196 rfl rfl fun w => ?_; refine sR fun _ hK1 => ?_; refine LN rfl fun r1 => ?_; refine nK hK1 ?_; refine J3 (sR fun _ hK2 => ?_)
    refine LR rfl (Ja rfl rfl (by first | (simp only [Nat.zero_add, Nat.reduceAdd, Nat.reduceMul, Nat.zero_mul, Nat.mul_one, Nat.add_zero]; exact rfl) | exact rfl)) ?_; refine LR rfl (Jc rfl (kn 0 rfl) rfl rfl) ?_; refine Jb rfl ?_; refine nK hK2 ?_; refine Jl rfl (fun g => ?_) (fun g => ?_)
    try exact Bool.noConfusion g
    · refine sR fun _ hK7 => ?_
      refine LR rfl (Ja rfl rfl (by first | (simp only [Nat.zero_add, Nat.reduceAdd, Nat.reduceMul, Nat.zero_mul, Nat.mul_one, Nat.add_zero]; exact rfl) | exact rfl)) ?_; refine LR rfl (Jc rfl (kn 0 rfl) rfl rfl) ?_; refine LR rfl (JI rfl rfl) ?_; refine J2 rfl (Jb rfl ?_)
      refine JM 36 rfl (fun gb => ?_) (fun gb => ?_) <;> (try simp only [ZZ] at gb) <;> first | (refine LR rfl (Ja rfl rfl (by first | (simp only [Nat.zero_add, Nat.reduceAdd, Nat.reduceMul, Nat.zero_mul, Nat.mul_one, Nat.add_zero]; exact rfl) | exact rfl)) ?_) | (refine LK rfl ?_)
      all_goals first | refine LR rfl (Jc rfl (kn 0 rfl) rfl rfl) ?_ | refine LK rfl ?_
      all_goals first | (refine LR rfl (Kp (j := 0) rfl rfl rfl rfl (by omega) rfl) ?_) | refine LK rfl ?_
      all_goals first | refine J2 rfl ?_ | refine LK rfl ?_
      all_goals first | refine LR rfl (Jx rfl rfl) ?_ | refine LR rfl (J5 rfl rfl) ?_
      all_goals (
       refine Jb rfl (Jt (hK7 ?_)); refine Jl rfl (fun g => ?_) (fun g => ?_)
       · try exact Bool.noConfusion g
         all_goals try simp only [ZZ] at g
         all_goals (
          refine Je (Jb rfl ?_)
          refine LR rfl (Ja rfl rfl (by first | (simp only [Nat.zero_add, Nat.reduceAdd, Nat.reduceMul, Nat.zero_mul, Nat.mul_one, Nat.add_zero]; exact rfl) | exact rfl)) ?_; refine LR rfl (Jc rfl (kn 0 rfl) rfl rfl) ?_
          have hc : b.length = 1 ∧ (b.getD 0 0).toNat < 128 := by first | exact ⟨by omega, by omega⟩ | skip
          rw [if_pos hc] at hlen ⊢; refine J9 (T := QS r s row own) (L0 := [_]) (Rl := []) (List.perm_append_comm (l₁ := [_])) rfl rfl rfl zw (WY hbk hlen) oN fun x => ?_; refine Jt ?_; refine Jo ?_; refine Qf rfl rfl .nil (fun w1 hs1 => ?_); exact ⟨x, rfl, hs1.weakL (List.sublist_append_left _ _)⟩
          skip)
       try simp only [ZZ] at g
       refine Je (Jb rfl ?_)
       refine LR rfl (Ja rfl rfl (by first | (simp only [Nat.zero_add, Nat.reduceAdd, Nat.reduceMul, Nat.zero_mul, Nat.mul_one, Nat.add_zero]; exact rfl) | exact rfl)) ?_; refine LR rfl (Jc rfl (kn 0 rfl) rfl rfl) ?_
       have hc : ¬ (b.length = 1 ∧ (b.getD 0 0).toNat < 128) := by omega
       rw [if_neg hc] at hlen ⊢; refine JC rfl rfl rfl (enters_of Tryz.func197 (by kernel_rfl) rfl) (wY (by omega) (.inl rfl)) ?_; refine J9 (T := QS r s row own) (L0 := [_]) (Rl := []) (List.perm_append_comm (l₁ := [_])) rfl rfl rfl zw (WY hbk hlen) oN fun x => ?_; refine Jt ?_; refine Jo ?_; refine Qf rfl rfl .nil (fun w1 hs1 => ?_); exact ⟨x, rfl, hs1.weakL (List.sublist_append_left _ _)⟩
       skip)
theorem Jaq {R : Jy} {t : ItL} (ht : t.In R) (hl : (KM t.er).length ≤ 1000000) : PureR Tryz.prog 107 [t.val].toArray (Jq (KM t.er)) R := by
 have hw := fun q rB => Jl9 ht q rB [] none false ⟨⟨rfl, rfl⟩, fun _ => rfl⟩ (by simpa using hl)
 refine Jz Tryz.func107 rfl rfl fun w => ?_; refine sR fun _ hK1 => ?_; refine JX (cs := List.toArray (t.cells)) rfl rfl rfl rfl fun r0 => ?_; refine Jb rfl ?_; refine nK hK1 ?_; refine sR fun _ hK2 => ?_; refine LN rfl fun rq => ?_; refine nK hK2 ?_; refine sR fun _ hK3 => ?_; refine LR rfl (JQ rfl rfl) ?_; refine Ju (k := 0) (cs' := #[wkV rq]) rfl rfl rfl rfl rfl rfl rfl rfl rfl rfl ?_; refine nK hK3 ?_; refine sR fun _ hK4 => ?_; refine LN rfl fun rB => ?_; refine nK hK4 ?_; refine sR fun _ hK5 => ?_; refine LR rfl (Jc rfl (kn 1 rfl) rfl rfl) ?_; refine LR rfl (Jm (xs := t.cells) (n := 3) rfl (kn 2 rfl) rfl rfl (ItL.len t)) ?_; refine J9 (T := QS rB [] none false) (L0 := [wkB rq, (r0, _)]) (List.Perm.refl _) rfl rfl rfl (enters_of Tryz.func196 (by kernel_rfl) rfl) (hw rq rB) (fun q hq => (List.mem_cons.1 hq).elim (fun e => Or.inl (by rw [e]; exact List.mem_cons_self)) Or.inr) fun x => ?_; refine nK hK5 ?_; refine sR fun _ hK6 => ?_; refine J9 (T := QS rB ([] ++ KM t.er) x.1 true) (L0 := [wkB rq, (r0, _)]) (Rl := []) (List.Perm.refl _) rfl rfl rfl Jid (vG x.2 (by simpa using hl)) oN fun u => ?_; refine Jb rfl ?_; refine nK hK6 ?_; refine Jd ?_; refine pT rfl rfl rfl fun w1 hs1 => ?_; exact ⟨rfl, hs1.keep⟩
theorem Jma {R : Jy} {t : ItL} (ht : t.In R) (hl : (KM t.er).length ≤ 1000000) : PureR Tryz.prog 195 [t.val].toArray (.int .i64 ((KM t.er).length : Int)) R := by
 refine Jz Tryz.func195 rfl rfl fun w => ?_; refine sR fun _ hK1 => ?_; refine JX (cs := List.toArray (t.cells)) rfl rfl rfl rfl fun r0 => ?_; refine Jb rfl ?_; refine nK hK1 ?_; refine sR fun _ hK2 => ?_; refine LR rfl (Jm (xs := t.cells) (n := 3) rfl (kn 0 rfl) rfl rfl (ItL.len t)) ?_; refine J4 rfl rfl rfl (enters_of Tryz.func107 (by kernel_rfl) rfl) (Jaq ht hl) oR ?_; refine LR rfl (JI rfl rfl) ?_; refine Jb rfl ?_; refine nK hK2 ?_; refine Jd ?_; refine pT rfl rfl rfl fun w1 hs1 => ?_; exact ⟨rfl, hs1.keep⟩
def Jip (e : Int) : Value := .iface 272 (.agg #[.int .i64 e])
theorem Jar (b : Bool) (e : Int) : PureX (α := Unit) Tryz.prog 194 [.bool b, .int .i64 e].toArray (b = true) (fun v => b = false ∧ v = Jip e) (fun _ => .tuple #[]) (fun _ => []) [] := by
 refine wF Tryz.func194 rfl rfl fun w => ?_; refine sR fun _ hK1 => ?_; refine Jb rfl (J2 rfl ?_); refine nK hK1 ?_; refine cD (fun g => ?_) fun g => ?_
 refine Je (Jb rfl (LR rfl (J7 (r := [_]) rfl rfl) ?_)); refine J2 rfl (Jem rfl rfl ?_); exact Jh9 rfl rfl ⟨by assumption, rfl⟩
 ·refine Jg ?_; refine Qf rfl rfl .nil (fun w1 hs1 => ?_); exact .inl ⟨by assumption, (), rfl, hs1.weakL (List.nil_sublist _)⟩
theorem ZN (e : Int) : Pure Tryz.prog 194 [.bool true, .int .i64 e].toArray (.tuple #[]) := ⟨fun w => ((Jar true e).run w (fun p hp => nomatch hp)).mono fun _ _ h => by
 rcases h with ⟨_, x, he, hk, _⟩ | ⟨v, hv, _⟩
 ·exact ⟨he, hk⟩
 ·cases hv.1⟩
theorem Jiq {f : Nat} {xs : List ItL} (h : yR f (xs.map ItL.er) = true) : ∀ x ∈ xs, Zt f x.er = true := fun x hx => vD h _ (List.mem_map.2 ⟨x, hx, rfl⟩)
theorem Jir {R : Jy} {t : ItL} (ht : t.In R) : ∀ (d f : Nat), d + f = 12 → Zt f t.er = true → PureR Tryz.prog 193 [t.val, .int .i64 (d : Int)].toArray (.tuple #[]) R := by
 induction ht with
 | @mk l b p xs hb hl hs hi ih =>
 intro d f hd hok; rw [ItL.er] at hok; refine Jz Tryz.func193 rfl rfl fun w => ?_
 cases l with
 | true =>
  cases f with
  | zero => rw [Zt] at hok; simp at hok
  | succ f =>
  rw [Zt] at hok; simp at hok
  obtain ⟨⟨rfl, hxl⟩, hxs⟩ := hok
  refine sR fun _ hK1 => ?_; refine LN rfl fun r1 => ?_; refine nK hK1 ?_; refine sR fun _ hK2 => ?_
  refine LR rfl (Ja rfl rfl (by first | (simp only [Nat.zero_add, Nat.reduceAdd, Nat.reduceMul, Nat.zero_mul, Nat.mul_one, Nat.add_zero]; exact rfl) | exact rfl)) ?_; refine LR rfl (Jc rfl (kn 0 rfl) rfl rfl) ?_; refine Jb rfl ?_
  refine LR rfl (Ja rfl rfl (by first | (simp only [Nat.zero_add, Nat.reduceAdd, Nat.reduceMul, Nat.zero_mul, Nat.mul_one, Nat.add_zero]; exact rfl) | exact rfl)) ?_; refine LR rfl (Jc rfl (kn 0 rfl) rfl rfl) ?_; refine LR rfl (Q3 rfl rfl) ?_; refine LR rfl (Jx rfl rfl) ?_; refine Jb rfl (ZE rfl rfl rfl (LK rfl ?_)); refine LK rfl ?_; refine LK rfl ?_; refine LK rfl ?_; refine LK rfl ?_; refine LK rfl ?_; refine LK rfl ?_; refine LK rfl ?_; refine LR rfl (Jx rfl rfl) ?_; refine JC rfl rfl rfl wK (ZN 2) ?_; refine nK hK2 ?_; refine sQ fun _ hK15 => ?_; refine sR fun _ hK16 => ?_
  refine LR rfl (Ja rfl rfl (by first | (simp only [Nat.zero_add, Nat.reduceAdd, Nat.reduceMul, Nat.zero_mul, Nat.mul_one, Nat.add_zero]; exact rfl) | exact rfl)) ?_; refine LR rfl (Jc rfl (kn 0 rfl) rfl rfl) ?_; refine J2 rfl ?_; refine nK hK16 ?_; refine cD (fun g => ?_) fun g => ?_
  try exact Bool.noConfusion g
  ·refine Jg (hK15 ?_); refine sR fun _ hK18 => ?_; refine Jb rfl (J2 rfl (JA (show _ = Value.bool true from congrArg Value.bool (decide_eq_true (by omega))) ?_)); refine JC rfl rfl rfl wK (ZN 7) ?_; refine nK hK18 ?_; refine sR fun _ hK19 => ?_
   refine LR rfl (Ja rfl rfl (by first | (simp only [Nat.zero_add, Nat.reduceAdd, Nat.reduceMul, Nat.zero_mul, Nat.mul_one, Nat.add_zero]; exact rfl) | exact rfl)) ?_; refine LR rfl (Jc rfl (kn 0 rfl) rfl rfl) ?_; refine LR rfl (JJ rfl hs rfl) ?_; refine J2 rfl (JA (show _ = Value.bool true from congrArg Value.bool (decide_eq_true (by omega))) (JC rfl rfl rfl wK (ZN 5) ?_)); refine nK hK19 ?_; refine sR fun _ hK20 => ?_
   refine LR rfl (Ja rfl rfl (by first | (simp only [Nat.zero_add, Nat.reduceAdd, Nat.reduceMul, Nat.zero_mul, Nat.mul_one, Nat.add_zero]; exact rfl) | exact rfl)) ?_; refine LR rfl (Jc rfl (kn 0 rfl) rfl rfl) ?_; refine LR rfl (JJ rfl hs rfl) ?_; refine Jb rfl ?_; refine nK hK20 ?_; refine J3 (JS (σ := Nat) (fun i => i ≤ xs.length) (fun i => [(1, .int .i64 (d : Int)), (37, Ky xs.length p), (38, .int .i64 (xs.length : Int)), (39, .int .i64 (i : Int))]) (fun _ => []) (fun _ _ _ => True) (fun i => xs.length - i) 0 (Nat.zero_le _) (lK rfl) (List.nil_sublist _) (fun _ _ h => h) ?_); rintro i hi1; refine sR fun _ hK21 => ?_; refine J2 rfl ?_; refine nK hK21 ?_; refine sQ fun _ hK22 => ?_; refine cD (fun g => ?_) fun g => ?_
   ·refine Jg (hK22 ?_); refine sB fun _ hK24 => ?_; refine sQ fun _ hK25 => ?_
    obtain ⟨y, hy, hmy⟩ := QA (show i < xs.length by omega)
    refine Je ?_
    refine LR rfl (JB (j := i) rfl hs rfl rfl rfl (by first | rfl | omega) (by omega)) ?_; refine LR rfl (Kt ItL.len oR rfl hs hy rfl rfl) ?_; refine LN rfl fun r7 => ?_; refine Js (k := 0) (n := 3) (ys := y.cells) rfl rfl rfl rfl rfl (ItL.len y) rfl (ItL.one y) rfl ?_; refine nK hK25 ?_; refine Je (LR rfl (Jm (xs := y.cells) (n := 3) rfl (kn 0 rfl) rfl rfl (ItL.len y)) (Jb rfl ?_))
    refine J2 rfl ?_; refine JA (show _ = Value.int .i64 ((d + 1 : Nat) : Int) from by rw [wrap_i64 (by omega) (by omega)]; congr 1 <;> omega) ?_; refine J4 rfl rfl rfl (enters_of Tryz.func193 (by kernel_rfl) rfl) (ih y hmy (d + 1) f (by omega) (Jiq hxs y hmy)) oR ?_; refine Jt ?_; refine Jo (hK24 ?_); refine Je ?_
    refine J2 rfl ?_; refine JA (show _ = Value.int .i64 ((i + 1 : Nat) : Int) from by rw [wrap_i64 (by omega) (by omega)]; congr 1 <;> omega) ?_; refine Jb rfl (Jt (JU ?_)); exact JN (i + 1) (by omega) (by omega) (lK rfl) (List.nil_sublist _) (fun _ _ h => h)
   refine JL (Jn ?_); refine Jn (J8 ?_); refine Qf rfl rfl .nil (fun w1 hs1 => ?_); exact ⟨rfl, hs1.keep⟩
 | false =>
  obtain rfl : xs = [] := by cases f <;> (rw [Zt] at hok; simpa using hok)
  refine sR fun _ hK1 => ?_; refine LN rfl fun r1 => ?_; refine nK hK1 ?_; refine sR fun _ hK2 => ?_
  refine LR rfl (Ja rfl rfl (by first | (simp only [Nat.zero_add, Nat.reduceAdd, Nat.reduceMul, Nat.zero_mul, Nat.mul_one, Nat.add_zero]; exact rfl) | exact rfl)) ?_; refine LR rfl (Jc rfl (kn 0 rfl) rfl rfl) ?_; refine Jb rfl (ZE rfl rfl rfl (LK rfl ?_)); refine LK rfl ?_; refine LR rfl (J5 rfl rfl) ?_; refine Jb rfl ?_
  refine LR rfl (Ja rfl rfl (by first | (simp only [Nat.zero_add, Nat.reduceAdd, Nat.reduceMul, Nat.zero_mul, Nat.mul_one, Nat.add_zero]; exact rfl) | exact rfl)) ?_; refine LR rfl (Jc rfl (kn 0 rfl) rfl rfl) ?_; refine J2 rfl (Jb rfl ?_)
  refine LR rfl (Ja rfl rfl (by first | (simp only [Nat.zero_add, Nat.reduceAdd, Nat.reduceMul, Nat.zero_mul, Nat.mul_one, Nat.add_zero]; exact rfl) | exact rfl)) ?_; refine LR rfl (Jc rfl (kn 0 rfl) rfl rfl) ?_; refine LR rfl (JJ rfl hs rfl) ?_; refine J2 rfl (LR rfl (Jx rfl rfl) (LR rfl (J5 rfl rfl) ?_)); refine JC rfl rfl rfl wK (ZN 2) ?_; refine nK hK2 ?_; refine sQ fun _ hK15 => ?_; refine sR fun _ hK16 => ?_
  refine LR rfl (Ja rfl rfl (by first | (simp only [Nat.zero_add, Nat.reduceAdd, Nat.reduceMul, Nat.zero_mul, Nat.mul_one, Nat.add_zero]; exact rfl) | exact rfl)) ?_; refine LR rfl (Jc rfl (kn 0 rfl) rfl rfl) ?_; refine J2 rfl ?_; refine nK hK16 ?_; refine Jl rfl (fun g => ?_) (fun g => ?_)
  refine Jd (Ji ?_); refine Jp rfl rfl .nil (fun w1 hs1 => ?_); exact ⟨rfl, hs1.keep⟩
  ·try exact Bool.noConfusion g
def eT (re : Nat) (e : Int) : Jy := [(re, .cells #[.int .i64 e] 43 (0, 0))]
theorem Jmb (re : Nat) (e0 : Int) (w : World) (hT : YI (eT re e0) w) : CallsDIn (FW none) 0 Tryz.prog 192 [Kw re].toArray .returning w (fun e u' w' => (∃ x, e = .returned x) ∧ settle u' = .returning ∧ Keep [re] w w' ∧ YI (eT re e0) w') := by
 refine VM (wy Tryz.prog w (eT re e0) [] Tryz.f192.ntmps) Tryz.func192 rfl rfl rfl rfl (L := eT re e0) (X := fun _ _ => True) (St.startT hT (fun p hp => nomatch hp) (List.pairwise_singleton _ _) (fun p hp => nomatch hp)) fun c₀ cs hu => ?_
 obtain ⟨hrv, hrc⟩ := wG (cs := cs) hu
 refine vx fun K hK => ?_; refine XV ?_; change HS _ _ _ _ _ _ [0, 1, 2, 3, 4, 5, 6, 7] _ _; refine XX rfl rfl rfl rfl (fun a w hf => rfl) hrv hrc ?_; refine XW rfl rfl rfl rfl (KC rfl rfl rfl) ?_; refine XW rfl rfl rfl rfl (JG rfl) ?_; refine XW rfl rfl rfl rfl (Jf rfl rfl) ?_; refine XW rfl rfl rfl rfl (Jf rfl rfl) ?_; refine Za rfl Xw rfl rfl (LN rfl fun r2 => Jt (XC ?_)); refine Za rfl Xx rfl rfl (Jv (k := 0) (n := 1) (cs' := #[_]) (vs := #[_]) rfl rfl rfl rfl rfl rfl rfl (by exact Nat.le_of_ble_eq_true rfl) rfl rfl (Jt (XC ?_))); refine XW rfl rfl rfl rfl (JY rfl) ?_; refine zu ?_; refine hK _ _ _ _ _ (vw rfl ?_); clear hK K; refine sR fun _ hK1 => ?_; refine Jb rfl ?_; refine nK hK1 ?_; refine Jl rfl (fun g => ?_) (fun g => ?_)
 try exact Bool.noConfusion g
 ·try simp only [ZZ] at g
  refine Jg ?_; refine X9 (u' := .returning) rfl rfl rfl .nil (fun w1 hs1 => ?_); refine ⟨⟨_, rfl⟩, rfl, by have := hs1.keep; simpa [wy, eT] using this, fun p hp => ?_⟩; exact (hs1.own p (List.mem_cons_of_mem _ hp)).2.2
theorem Jmc (re : Nat) (e0 e1 : Int) (w : World) (hT : YI (eT re e0) w) : CallsDIn (FW none) 0 Tryz.prog 192 [Kw re].toArray (.panicking (vv (Jip e1))) w (fun e u' w' => (∃ x, e = .returned x) ∧ settle u' = .returning ∧ Keep [re] w w' ∧ YI (eT re e1) w') := by
 refine VM (wy Tryz.prog w (eT re e0) [] Tryz.f192.ntmps) Tryz.func192 rfl rfl rfl rfl (L := eT re e0) (X := fun _ _ => True) (St.startT hT (fun p hp => nomatch hp) (List.pairwise_singleton _ _) (fun p hp => nomatch hp)) fun c₀ cs hu => ?_
 obtain ⟨hrv, hrc⟩ := Jeq (cs := cs) hu
 refine vx fun K hK => ?_; refine XV ?_; change HS _ _ _ _ _ _ [0, 1, 2, 3, 4, 5, 6, 7] _ _; refine XX rfl rfl rfl rfl (fun a w hf => rfl) hrv hrc ?_; refine XW rfl rfl rfl rfl (KC rfl rfl rfl) ?_; refine XW rfl rfl rfl rfl (JG rfl) ?_; refine XW rfl rfl rfl rfl (Jf rfl rfl) ?_; refine XW rfl rfl rfl rfl (Jf rfl rfl) ?_; refine Za rfl Xw rfl rfl (LN rfl fun r2 => Jt (XC ?_)); refine Za rfl Xx rfl rfl (Jv (k := 0) (n := 1) (cs' := #[_]) (vs := #[_]) rfl rfl rfl rfl rfl rfl rfl (by exact Nat.le_of_ble_eq_true rfl) rfl rfl (Jt (XC ?_))); refine XW rfl rfl rfl rfl (JY rfl) ?_; refine zu ?_; refine hK _ _ _ _ _ (vw rfl ?_); clear hK K; refine sR fun _ hK1 => ?_; refine Jb rfl ?_; refine nK hK1 ?_; refine Jl rfl (fun g => ?_) (fun g => ?_)
 try simp only [ZZ] at g
 refine Je ?_
 refine LR rfl (Ja rfl rfl (by first | (simp only [Nat.zero_add, Nat.reduceAdd, Nat.reduceMul, Nat.zero_mul, Nat.mul_one, Nat.add_zero]; exact rfl) | exact rfl)) ?_; refine LR rfl (Jc rfl (kn 0 rfl) rfl rfl) ?_; refine Ju (k := 1) (cs' := #[.int .i64 e1]) rfl rfl rfl rfl rfl rfl rfl rfl rfl rfl ?_; refine Jt ?_; refine X9 (u' := .panicking [{ v := Jip e1, recovered := true }]) rfl rfl rfl .nil (fun w1 hs1 => ?_); refine ⟨⟨_, rfl⟩, rfl, by have := hs1.keep; simpa [wy, eT] using this, fun p hp => ?_⟩; exact (hs1.own p (List.mem_cons_of_mem _ hp)).2.2
 ·try exact Bool.noConfusion g
section
variable {c : Cx} {l : KK} {L L0 : Jy} {X : XP} {d : List Deferred} {fn : Func} {R : Ending → World → Prop} {re : Nat} {e0 e1 : Int}
theorem Jfg {w : World} (hs : St c (eT re e0 ++ L0) X w) : YI (eT re e0) w := fun p hp => (hs.own p (List.mem_append_left _ hp)).2.2
theorem Jas {w w' : World} (hs : St c (eT re e0 ++ L0) X w) (hk : Keep [re] w w') (hT : YI (eT re e1) w') : St c (eT re e1 ++ L0) X w' := by
 refine hs.turnT (by simpa [eT] using hk) (fun p hp => ⟨.inl ?_, hT p hp⟩) (List.pairwise_singleton _ _); rw [List.mem_singleton.1 hp]; simp [eT]
theorem Jny (hP : c.P = Tryz.prog) (hp : L.Perm (eT re e0 ++ L0)) (h : HQ c d l (eT re e0 ++ L0) X (bodyPostM (FW none) 0 Tryz.prog fn R .ret)) : HQ c (dF 192 [Kw re] :: d) l L X (bodyPostM (FW none) 0 Tryz.prog fn R .ret) :=
 Wm hp (zt (enters_of Tryz.func192 (by kernel_rfl) rfl) (fun w hs => CallsDIn.mono (Jmb re e0 w (Jfg hs)) fun _ _ _ ⟨h1, h2, h3, h4⟩ => ⟨h1, h2, Jas hs h3 h4⟩) h)
theorem Jnz (hP : c.P = Tryz.prog) (hp : L.Perm (eT re e0 ++ L0)) (h : HQ c d l (eT re e1 ++ L0) X (bodyPostM (FW none) 0 Tryz.prog fn R .ret)) : HQ c (dF 192 [Kw re] :: d) l L X (bodyPostM (FW none) 0 Tryz.prog fn R (.panic (vv (Jip e1)))) :=
 Wm hp (Jia (enters_of Tryz.func192 (by kernel_rfl) rfl) (fun w hs => CallsDIn.mono (Jmc re e0 e1 w (Jfg hs)) fun _ _ _ ⟨h1, h2, h3, h4⟩ => ⟨h1, h2, Jas hs h3 h4⟩) h)
end
def V1 (it : It) : Int := if 65536 < (KM it).length then 5 else 0
theorem Jfh {R : Jy} {t : ItL} (ht : t.In R) (hok : Zt 12 t.er = true) (hl : (KM t.er).length ≤ 1000000) : PureR Tryz.prog 106 [t.val].toArray (.int .i64 (V1 t.er)) R := by
 have hlk := Jir ht 0 12 rfl hok
 refine Jz Tryz.func106 rfl rfl fun w => ?_; refine sR fun _ hK1 => ?_; refine JX (cs := List.toArray (t.cells)) rfl rfl rfl rfl fun r0 => ?_; refine LN rfl fun re => ?_; refine nK hK1 ?_; refine sR fun _ hK2 => ?_; refine LR rfl (JQ rfl rfl) ?_; refine Xq (caps := [Kw re]) rfl rfl rfl ?_ rfl; refine nK hK2 ?_; refine sR fun _ hK3 => ?_; refine LR rfl (Jm (xs := t.cells) (n := 3) rfl (kn 1 rfl) rfl rfl (ItL.len t)) ?_; refine J4 rfl rfl rfl (enters_of Tryz.func193 (by kernel_rfl) rfl) hlk oR ?_; refine nK hK3 ?_; refine sR fun _ hK4 => ?_; refine LR rfl (Jm (xs := t.cells) (n := 3) rfl (kn 1 rfl) rfl rfl (ItL.len t)) ?_; refine J4 rfl rfl rfl (enters_of Tryz.func195 (by kernel_rfl) rfl) (Jma ht hl) oR ?_; refine J2 rfl ?_; refine Jel rfl rfl rfl wK (Jar _ 5) oN (fun hok _ => ?_) (fun v hv => by have hb := Z2.1 hv.1; rw [hv.2]; refine Jen (Jnz (L0 := [_]) rfl (List.Perm.refl _) ?_); refine Jp rfl rfl (.cons (KW rfl (kn 0 rfl) rfl rfl) .nil) (fun w1 hs1 => ⟨?_, hs1.keep⟩); unfold V1; rw [if_pos (by omega)]; rfl)
 have hb := Z1.mp hok
 refine nK hK4 ?_; refine sR fun _ hK5 => ?_; refine Ju (k := 0) (cs' := #[.int .i64 0]) rfl rfl rfl rfl rfl rfl rfl rfl rfl rfl ?_; refine nK hK5 ?_; refine Jd (Jny (L0 := [_]) rfl (List.Perm.refl _) ?_); refine Jp rfl rfl (.cons (KW rfl (kn 0 rfl) rfl rfl) .nil) (fun w1 hs1 => ⟨?_, hs1.keep⟩)
 unfold V1; rw [if_neg (by omega)]; rfl
theorem qC {R : Jy} {t : ItL} (ht : t.In R) (hok : Zt 12 t.er = true) (hl : (KM t.er).length ≤ 1000000) : PureR Tryz.prog 36 [t.val].toArray (.tuple #[Jq (if V1 t.er ≠ 0 then [] else KM t.er), .int .i64 (V1 t.er)]) R := by
 refine Jz Tryz.func36 rfl rfl fun w => ?_; refine sR fun _ hK1 => ?_; refine JX (cs := List.toArray (t.cells)) rfl rfl rfl rfl fun r0 => ?_; refine Jb rfl (Jb rfl ?_); refine nK hK1 ?_; refine sQ fun _ hK2 => ?_; refine sR fun _ hK3 => ?_; refine LR rfl (Jm (xs := t.cells) (n := 3) rfl (kn 0 rfl) rfl rfl (ItL.len t)) ?_; refine J4 rfl rfl rfl (enters_of Tryz.func106 (by kernel_rfl) rfl) (Jfh ht hok hl) oR ?_; refine Jb rfl ?_; refine nK hK3 ?_; refine sR fun _ hK4 => ?_; refine Jb rfl (J2 rfl ?_); refine nK hK4 ?_; refine cD (fun g => ?_) fun g => ?_
 refine sR fun _ hK6 => ?_; refine Jb rfl (Jb rfl (Jb rfl ?_)); refine nK hK6 ?_; refine Jd (Ji ?_); refine Jp rfl rfl (.cons (Jk rfl) (.cons (Jk rfl) .nil)) (fun w1 hs1 => ?_); refine ⟨?_, hs1.keep⟩; rw [if_pos (by assumption)]; rfl
 ·refine Jg (hK2 ?_); refine sR fun _ hK7 => ?_; refine LR rfl (Jm (xs := t.cells) (n := 3) rfl (kn 0 rfl) rfl rfl (ItL.len t)) ?_; refine J4 rfl rfl rfl (enters_of Tryz.func107 (by kernel_rfl) rfl) (Jaq ht hl) oR ?_; refine Jb rfl (Jb rfl ?_); refine nK hK7 ?_; refine Jd ?_; refine Jp rfl rfl (.cons (Jk rfl) (.cons (Jk rfl) .nil)) (fun w1 hs1 => ?_); refine ⟨?_, hs1.keep⟩
  (have h0 : V1 t.er = 0 := by assumption
   rw [if_neg (by rw [h0]; decide), h0]; rfl)
structure AxL : Type where
  addr : BS
  p : Pl
  keys : List BS
def AxL.cells (a : AxL) : List Value := [Jq a.addr, Ky a.keys.length a.p]
def AxL.val (a : AxL) : Value := .agg a.cells.toArray
def AxL.er (a : AxL) : AxE := ⟨a.addr, a.keys⟩
theorem AxL.len (a : AxL) : a.cells.length = 2 := rfl
theorem AxL.one (a : AxL) : a.cells.all QX = true := rfl
structure AxL.In (R : Jy) (a : AxL) : Prop where
  addr : a.addr.length ≤ 9223372036854775807
  len : a.keys.length ≤ 9223372036854775807
  seg : Seg R a.keys.length (KN a.keys) a.p
  keys : ∀ s ∈ a.keys, s.length ≤ 9223372036854775807
theorem AxL.In.mono {R R' : Jy} (hs : ∀ q ∈ R, q ∈ R') {a : AxL} (h : a.In R) : a.In R' := ⟨h.addr, h.len, h.seg.mono hs, h.keys⟩
def AuE.cells (a : AuE) : List Value := [uV a.chain, Jq a.addr, uV a.nonce, uV a.y, uV a.r.a, uV a.r.b, uV a.r.c, uV a.r.d, uV a.s.a, uV a.s.b, uV a.s.c, uV a.s.d]
theorem AuE.len (a : AuE) : a.cells.length = 12 := rfl
theorem AuE.one (a : AuE) : a.cells.all QX = true := rfl
def Xk (l : List AxL) : List Value := l.flatMap AxL.cells
def Jn0 (l : List AuE) : List Value := l.flatMap AuE.cells
structure TxL : Type where
  kind : Int
  chain : Nat
  nonce : Nat
  tip : W4
  price : W4
  gas : Nat
  dest : BS
  value : W4
  data : BS
  accP : Pl
  acc : List AxL
  auP : Pl
  auths : List AuE
  y : Nat
  r : W4
  s : W4
  source : BS
  from_ : BS
  mint : W4
  system : Bool
def wC (w : W4) : List Value := [uV w.a, uV w.b, uV w.c, uV w.d]
def TxL.cells (t : TxL) : List Value := [.int .i64 t.kind, uV t.chain, uV t.nonce, uV t.tip.a, uV t.tip.b, uV t.tip.c, uV t.tip.d, uV t.price.a, uV t.price.b, uV t.price.c, uV t.price.d, uV t.gas, Jq t.dest,
 uV t.value.a, uV t.value.b, uV t.value.c, uV t.value.d, Jq t.data, Ky t.acc.length t.accP, Ky t.auths.length t.auP, uV t.y, uV t.r.a, uV t.r.b, uV t.r.c, uV t.r.d, uV t.s.a, uV t.s.b, uV t.s.c, uV t.s.d,
 Jq t.source, Jq t.from_, uV t.mint.a, uV t.mint.b, uV t.mint.c, uV t.mint.d, .bool t.system]
def TxL.val (t : TxL) : Value := .agg t.cells.toArray
def TxL.er (t : TxL) : TxE := ⟨t.kind, t.chain, t.nonce, t.tip, t.price, t.gas, t.dest, t.value, t.data, t.acc.map AxL.er, t.auths, t.y, t.r, t.s, t.source, t.from_, t.mint, t.system⟩
theorem TxL.len (t : TxL) : t.cells.length = 36 := rfl
theorem TxL.one (t : TxL) : t.cells.all QX = true := rfl
structure TxL.In (R : Jy) (t : TxL) : Prop where
  ok : t.er.ok
  dest : t.dest.length ≤ 9223372036854775807
  data : t.data.length ≤ 9223372036854775807
  source : t.source.length ≤ 9223372036854775807
  from_ : t.from_.length ≤ 9223372036854775807
  accL : t.acc.length ≤ 9223372036854775807
  accS : Seg R t.acc.length (Xk t.acc) t.accP
  acc : ∀ a ∈ t.acc, a.In R
  auL : t.auths.length ≤ 9223372036854775807
  auS : Seg R t.auths.length (Jn0 t.auths) t.auP
  au : ∀ a ∈ t.auths, a.addr.length ≤ 9223372036854775807
theorem TxL.In.mono {R R' : Jy} (hs : ∀ q ∈ R, q ∈ R') {t : TxL} (h : t.In R) : t.In R' :=
 ⟨h.ok, h.dest, h.data, h.source, h.from_, h.accL, h.accS.mono hs, fun a ha => (h.acc a ha).mono hs, h.auL, h.auS.mono hs, h.au⟩
def V0 (l : List TxL) : List Value := l.flatMap TxL.cells
theorem Jfi {R : Jy} {xs : List AxL} {p : Pl} (hl : xs.length ≤ 9223372036854775807) (hs : Seg R xs.length (xs.flatMap AxL.cells) p) {g : FuncId} {caps : List Value} {pr : AxL → Bool} (eg : Enters Tryz.prog g) (hg : ∀ x ∈ xs, PureR Tryz.prog g (AxL.val x :: caps).toArray (.bool (pr x)) R) :
  PureR Tryz.prog 189 [Ky xs.length p, .func (.func g) #[] caps.toArray].toArray (.int .i64 (jO pr xs)) R := by
 refine Jz Tryz.func189 rfl rfl fun w => ?_; refine sR fun _ hK1 => ?_; refine Jb rfl ?_; refine nK hK1 ?_; refine sQ fun _ hK2 => ?_; refine sR fun _ hK3 => ?_; refine Jb rfl (LR rfl (JJ rfl hs rfl) (Jb rfl ?_)); refine nK hK3 ?_; refine J3 ?_; refine JS (σ := Nat) (fun i => i ≤ xs.length ∧ ∀ j, j < i → ∀ y, xs[j]? = some y → pr y = false) (fun i => [(0, Ky xs.length p), (1, .func (.func g) #[] caps.toArray), (7, .int .i64 (xs.length : Int)), (8, .int .i64 (i : Int))]) (fun _ => []) (fun _ _ _ => True) (fun i => xs.length - i) 0 ⟨by omega, fun j hj => absurd hj (by omega)⟩ (lK rfl) (List.nil_sublist _) (fun _ _ h => h) ?_; rintro i ⟨hi1, hinv⟩; refine sR fun _ hK4 => ?_; refine J2 rfl ?_; refine nK hK4 ?_; refine sQ fun _ hK5 => ?_; refine cD (fun h6 => ?_) fun h6 => ?_
 refine Jg (hK5 ?_); refine sB fun _ hK7 => ?_; refine sR fun _ hK8 => ?_; refine Jb rfl (Jb rfl ?_); refine nK hK8 ?_; refine sQ fun _ hK9 => ?_
 obtain ⟨x, hx, hmx⟩ := QA (show i < xs.length by omega)
 refine Je (Jb rfl ?_); refine Jb rfl (Jb rfl ?_)
 refine LR rfl (JB (j := i) rfl hs rfl rfl rfl (by first | rfl | omega) (by omega)) ?_; refine LR rfl (Kt AxL.len oR rfl hs hx rfl rfl) ?_; refine J4 rfl rfl rfl eg (hg x hmx) oR ?_; refine nK hK9 ?_; refine cD (fun h10 => ?_) fun h10 => ?_
 refine sR fun _ hK11 => ?_; refine Jb rfl (Jb rfl ?_); refine nK hK11 ?_; refine Jd (Jr (Ji ?_)); refine Ji (Jr (Ji ?_)); refine pT rfl rfl rfl fun w1 hs1 => ?_; refine ⟨?_, hs1.keep⟩; rw [Yv hx (by assumption) hinv]; rfl
 refine Jg (Jo (hK7 ?_)); refine Je (J2 rfl (Ke (by omega) (by omega) ?_)); refine Jb rfl (Jt (JU ?_))
 exact JN (i + 1) ⟨by omega, fun j hj y hy => by
  rcases Nat.lt_succ_iff_lt_or_eq.1 hj with hj | rfl
  exact hinv j hj y hy
  rw [hx] at hy; cases hy; assumption⟩ (by omega) (lK rfl) (List.nil_sublist _) (fun _ _ h => h)
 ·refine JL (Jn ?_); refine Jn (J8 (hK2 ?_)); refine sR fun _ hK12 => ?_; refine Jb rfl ?_; refine nK hK12 ?_; refine Jd ?_; refine pT rfl rfl rfl fun w1 hs1 => ?_; refine ⟨?_, hs1.keep⟩; rw [Yu fun j x hx => hinv j (by have := (List.getElem?_eq_some_iff.1 hx).1; omega) x hx]; rfl
theorem Zu {R : Jy} {xs : List AxL} {p : Pl} (hl : xs.length ≤ 9223372036854775807) (hs : Seg R xs.length (Xk xs) p) {g : FuncId} {caps : List Value} {pr : AxL → Bool} (eg : Enters Tryz.prog g) (hg : ∀ x ∈ xs, PureR Tryz.prog g (AxL.val x :: caps).toArray (.bool (pr x)) R) :
  PureR Tryz.prog 97 [Ky xs.length p, .func (.func g) #[] caps.toArray].toArray (.bool (xs.any pr)) R := by
 refine Jz Tryz.func97 rfl rfl fun w => ?_; refine sR fun _ hK1 => ?_; refine Jb rfl ?_; refine nK hK1 ?_; refine sR fun _ hK2 => ?_; refine Jb rfl (Jb rfl (J4 rfl rfl rfl (enters_of Tryz.func189 (by kernel_rfl) rfl) (Jfi hl hs eg hg) oR ?_)); refine J2 rfl (Jb rfl ?_); refine nK hK2 ?_; refine Jd ?_; refine pT rfl rfl rfl fun w1 hs1 => ?_; refine ⟨?_, hs1.keep⟩; rw [← ZM]; rfl
theorem Jfj {R : Jy} {xs : List AuE} {p : Pl} (hl : xs.length ≤ 9223372036854775807) (hs : Seg R xs.length (xs.flatMap AuE.cells) p) {g : FuncId} {caps : List Value} {pr : AuE → Bool} (eg : Enters Tryz.prog g) (hg : ∀ x ∈ xs, PureR Tryz.prog g (.agg (AuE.cells x).toArray :: caps).toArray (.bool (pr x)) R) :
  PureR Tryz.prog 234 [Ky xs.length p, .func (.func g) #[] caps.toArray].toArray (.int .i64 (jO pr xs)) R := by
 refine Jz Tryz.func234 rfl rfl fun w => ?_; refine sR fun _ hK1 => ?_; refine Jb rfl ?_; refine nK hK1 ?_; refine sQ fun _ hK2 => ?_; refine sR fun _ hK3 => ?_; refine Jb rfl (LR rfl (JJ rfl hs rfl) (Jb rfl ?_)); refine nK hK3 ?_; refine J3 ?_; refine JS (σ := Nat) (fun i => i ≤ xs.length ∧ ∀ j, j < i → ∀ y, xs[j]? = some y → pr y = false) (fun i => [(0, Ky xs.length p), (1, .func (.func g) #[] caps.toArray), (7, .int .i64 (xs.length : Int)), (8, .int .i64 (i : Int))]) (fun _ => []) (fun _ _ _ => True) (fun i => xs.length - i) 0 ⟨by omega, fun j hj => absurd hj (by omega)⟩ (lK rfl) (List.nil_sublist _) (fun _ _ h => h) ?_; rintro i ⟨hi1, hinv⟩; refine sR fun _ hK4 => ?_; refine J2 rfl ?_; refine nK hK4 ?_; refine sQ fun _ hK5 => ?_; refine cD (fun h6 => ?_) fun h6 => ?_
 refine Jg (hK5 ?_); refine sB fun _ hK7 => ?_; refine sR fun _ hK8 => ?_; refine Jb rfl (Jb rfl ?_); refine nK hK8 ?_; refine sQ fun _ hK9 => ?_
 obtain ⟨x, hx, hmx⟩ := QA (show i < xs.length by omega)
 refine Je (Jb rfl ?_); refine Jb rfl (Jb rfl ?_)
 refine LR rfl (JB (j := i) rfl hs rfl rfl rfl (by first | rfl | omega) (by omega)) ?_; refine LR rfl (Kt AuE.len oR rfl hs hx rfl rfl) ?_; refine J4 rfl rfl rfl eg (hg x hmx) oR ?_; refine nK hK9 ?_; refine cD (fun h10 => ?_) fun h10 => ?_
 refine sR fun _ hK11 => ?_; refine Jb rfl (Jb rfl ?_); refine nK hK11 ?_; refine Jd (Jr (Ji ?_)); refine Ji (Jr (Ji ?_)); refine pT rfl rfl rfl fun w1 hs1 => ?_; refine ⟨?_, hs1.keep⟩; rw [Yv hx (by assumption) hinv]; rfl
 refine Jg (Jo (hK7 ?_)); refine Je (J2 rfl (Ke (by omega) (by omega) ?_)); refine Jb rfl (Jt (JU ?_))
 exact JN (i + 1) ⟨by omega, fun j hj y hy => by
  rcases Nat.lt_succ_iff_lt_or_eq.1 hj with hj | rfl
  exact hinv j hj y hy
  rw [hx] at hy; cases hy; assumption⟩ (by omega) (lK rfl) (List.nil_sublist _) (fun _ _ h => h)
 ·refine JL (Jn ?_); refine Jn (J8 (hK2 ?_)); refine sR fun _ hK12 => ?_; refine Jb rfl ?_; refine nK hK12 ?_; refine Jd ?_; refine pT rfl rfl rfl fun w1 hs1 => ?_; refine ⟨?_, hs1.keep⟩; rw [Yu fun j x hx => hinv j (by have := (List.getElem?_eq_some_iff.1 hx).1; omega) x hx]; rfl
theorem wZ {R : Jy} {xs : List AuE} {p : Pl} (hl : xs.length ≤ 9223372036854775807) (hs : Seg R xs.length (Jn0 xs) p) {g : FuncId} {caps : List Value} {pr : AuE → Bool} (eg : Enters Tryz.prog g) (hg : ∀ x ∈ xs, PureR Tryz.prog g (.agg (AuE.cells x).toArray :: caps).toArray (.bool (pr x)) R) :
  PureR Tryz.prog 188 [Ky xs.length p, .func (.func g) #[] caps.toArray].toArray (.bool (xs.any pr)) R := by
 refine Jz Tryz.func188 rfl rfl fun w => ?_; refine sR fun _ hK1 => ?_; refine Jb rfl ?_; refine nK hK1 ?_; refine sR fun _ hK2 => ?_; refine Jb rfl (Jb rfl (J4 rfl rfl rfl (enters_of Tryz.func234 (by kernel_rfl) rfl) (Jfj hl hs eg hg) oR ?_)); refine J2 rfl (Jb rfl ?_); refine nK hK2 ?_; refine Jd ?_; refine pT rfl rfl rfl fun w1 hs1 => ?_; refine ⟨?_, hs1.keep⟩; rw [← ZM]; rfl
theorem Jfk {R : Jy} {xs : List BS} {p : Pl} (hl : xs.length ≤ 9223372036854775807) (hs : Seg R xs.length (KN xs) p) {g : FuncId} {caps : List Value} {pr : BS → Bool} (eg : Enters Tryz.prog g) (hg : ∀ x ∈ xs, PureR Tryz.prog g (Jq x :: caps).toArray (.bool (pr x)) R) :
  PureR Tryz.prog 199 [Ky xs.length p, .func (.func g) #[] caps.toArray].toArray (.int .i64 (jO pr xs)) R := by
 refine Jz Tryz.func199 rfl rfl fun w => ?_; refine sR fun _ hK1 => ?_; refine Jb rfl ?_; refine nK hK1 ?_; refine sQ fun _ hK2 => ?_; refine sR fun _ hK3 => ?_; refine Jb rfl (LR rfl (JJ rfl hs rfl) (Jb rfl ?_)); refine nK hK3 ?_; refine J3 ?_; refine JS (σ := Nat) (fun i => i ≤ xs.length ∧ ∀ j, j < i → ∀ y, xs[j]? = some y → pr y = false) (fun i => [(0, Ky xs.length p), (1, .func (.func g) #[] caps.toArray), (7, .int .i64 (xs.length : Int)), (8, .int .i64 (i : Int))]) (fun _ => []) (fun _ _ _ => True) (fun i => xs.length - i) 0 ⟨by omega, fun j hj => absurd hj (by omega)⟩ (lK rfl) (List.nil_sublist _) (fun _ _ h => h) ?_; rintro i ⟨hi1, hinv⟩; refine sR fun _ hK4 => ?_; refine J2 rfl ?_; refine nK hK4 ?_; refine sQ fun _ hK5 => ?_; refine cD (fun h6 => ?_) fun h6 => ?_
 refine Jg (hK5 ?_); refine sB fun _ hK7 => ?_; refine sR fun _ hK8 => ?_; refine Jb rfl (Jb rfl ?_); refine nK hK8 ?_; refine sQ fun _ hK9 => ?_
 obtain ⟨x, hx, hmx⟩ := QA (show i < xs.length by omega)
 refine Je (Jb rfl ?_); refine Jb rfl (Jb rfl ?_)
 refine LR rfl (JB (j := i) rfl hs rfl rfl rfl (by first | rfl | omega) (by omega)) ?_; refine LR rfl (Qy oR rfl hs (by omega) rfl (show (KN xs)[i]? = some (Jq x) from by unfold KN; rw [List.getElem?_map, hx]; rfl)) ?_; refine J4 rfl rfl rfl eg (hg x hmx) oR ?_; refine nK hK9 ?_; refine cD (fun h10 => ?_) fun h10 => ?_
 refine sR fun _ hK11 => ?_; refine Jb rfl (Jb rfl ?_); refine nK hK11 ?_; refine Jd (Jr (Ji ?_)); refine Ji (Jr (Ji ?_)); refine pT rfl rfl rfl fun w1 hs1 => ?_; refine ⟨?_, hs1.keep⟩; rw [Yv hx (by assumption) hinv]; rfl
 refine Jg (Jo (hK7 ?_)); refine Je (J2 rfl (Ke (by omega) (by omega) ?_)); refine Jb rfl (Jt (JU ?_))
 exact JN (i + 1) ⟨by omega, fun j hj y hy => by
  rcases Nat.lt_succ_iff_lt_or_eq.1 hj with hj | rfl
  exact hinv j hj y hy
  rw [hx] at hy; cases hy; assumption⟩ (by omega) (lK rfl) (List.nil_sublist _) (fun _ _ h => h)
 ·refine JL (Jn ?_); refine Jn (J8 (hK2 ?_)); refine sR fun _ hK12 => ?_; refine Jb rfl ?_; refine nK hK12 ?_; refine Jd ?_; refine pT rfl rfl rfl fun w1 hs1 => ?_; refine ⟨?_, hs1.keep⟩; rw [Yu fun j x hx => hinv j (by have := (List.getElem?_eq_some_iff.1 hx).1; omega) x hx]; rfl
theorem Wr {R : Jy} {xs : List BS} {p : Pl} (hl : xs.length ≤ 9223372036854775807) (hs : Seg R xs.length (KN xs) p) {g : FuncId} {caps : List Value} {pr : BS → Bool} (eg : Enters Tryz.prog g) (hg : ∀ x ∈ xs, PureR Tryz.prog g (Jq x :: caps).toArray (.bool (pr x)) R) :
  PureR Tryz.prog 110 [Ky xs.length p, .func (.func g) #[] caps.toArray].toArray (.bool (xs.any pr)) R := by
 refine Jz Tryz.func110 rfl rfl fun w => ?_; refine sR fun _ hK1 => ?_; refine Jb rfl ?_; refine nK hK1 ?_; refine sR fun _ hK2 => ?_; refine Jb rfl (Jb rfl (J4 rfl rfl rfl (enters_of Tryz.func199 (by kernel_rfl) rfl) (Jfk hl hs eg hg) oR ?_)); refine J2 rfl (Jb rfl ?_); refine nK hK2 ?_; refine Jd ?_; refine pT rfl rfl rfl fun w1 hs1 => ?_; refine ⟨?_, hs1.keep⟩; rw [← ZM]; rfl
theorem Jpe (a b : Nat) : ((a : Int) != (b : Int)) = decide (a ≠ b) := by
 rw [Bool.eq_iff_iff]; simp [bne_iff_ne]; omega
theorem Jmd (a b : Nat) : ((a : Int) == (b : Int)) = decide (a = b) := by
 rw [Bool.eq_iff_iff]; simp; omega
theorem Jfl (s : BS) : Pure Tryz.prog 185 [Jq s].toArray (.bool (decide (s.length ≠ 32))) := by
 refine JF Tryz.func185 rfl rfl fun w => ?_; refine sR fun _ hK1 => ?_; refine Jb rfl ?_; refine nK hK1 ?_; refine sR fun _ hK2 => ?_; refine Jb rfl (LR rfl (JI rfl rfl) ?_); refine J2 rfl (Jb rfl ?_); refine nK hK2 ?_; refine Jd ?_; refine pT rfl rfl rfl fun w1 hs1 => ?_; exact ⟨congrArg (fun b => Ending.returned (Value.bool b)) (Jpe _ 32), hs1.keep⟩
def okB (q : Nat) : Nat × Obj := (q, .cells #[fV 185] 197 (0, 0))
theorem Jfm {R : Jy} {a : AxL} (ha : a.In R) (q : Nat) : PureR Tryz.prog 186 [a.val, Kw q].toArray (.bool (VI a.er)) (okB q :: R) := by
 refine Jz Tryz.func186 rfl rfl fun w => ?_; refine sR fun _ hK1 => ?_; refine LN rfl fun r1 => ?_; refine Jb rfl ?_; refine nK hK1 ?_; refine sR fun _ hK2 => ?_
 refine LR rfl (Ja rfl rfl (by first | (simp only [Nat.zero_add, Nat.reduceAdd, Nat.reduceMul, Nat.zero_mul, Nat.mul_one, Nat.add_zero]; exact rfl) | exact rfl)) ?_; refine LR rfl (Jc rfl (kn 0 rfl) rfl rfl) ?_; refine LR rfl (JI rfl rfl) ?_; refine J2 rfl (Jb rfl ?_)
 refine JM 8 rfl (fun gb => ?_) (fun gb => ?_) <;> (try simp only [ZZ] at gb) <;> first | (refine LR rfl (Ja rfl rfl (by first | (simp only [Nat.zero_add, Nat.reduceAdd, Nat.reduceMul, Nat.zero_mul, Nat.mul_one, Nat.add_zero]; exact rfl) | exact rfl)) ?_) | (refine LK rfl ?_)
 all_goals first | refine LR rfl (Jc rfl (kn 0 rfl) rfl rfl) ?_ | refine LK rfl ?_
 all_goals first | refine LR rfl (Jc rfl (Kg (k := 0) rfl) rfl rfl) ?_ | refine LK rfl ?_
 all_goals first | (refine J4 rfl rfl rfl Jab (Wr (R := R) (caps := []) (pr := fun s => decide (s.length ≠ 32)) ha.len ha.seg (enters_of Tryz.func185 (by kernel_rfl) rfl) (fun x _ => (Jfl x).toR)) (fun q hq => Or.inr (List.mem_cons_of_mem _ hq)) ?_) | refine LK rfl ?_
 all_goals first | refine LR rfl (Jx rfl rfl) ?_ | refine LR rfl (J5 rfl rfl) ?_
 all_goals (
  refine Jb rfl (Jt (hK2 ?_)); refine Jd ?_; refine pT rfl rfl rfl fun w1 hs1 => ?_; refine ⟨congrArg (fun b => Ending.returned (Value.bool b)) ?_, hs1.keep⟩
  unfold VI
  show _ = (decide (a.addr.length ≠ 20) || _)
  first | (rw [show decide (a.addr.length ≠ 20) = true from decide_eq_true (by omega)]; rfl) | (rw [show decide (a.addr.length ≠ 20) = false from decide_eq_false (by omega)]; rfl)
  skip)
theorem Jfn (a : AuE) : Pure Tryz.prog 187 [.agg a.cells.toArray].toArray (.bool (XM a)) := by
 refine JF Tryz.func187 rfl rfl fun w => ?_; refine sR fun _ hK1 => ?_; refine LN rfl fun r1 => ?_; refine Jb rfl ?_; refine nK hK1 ?_; refine sR fun _ hK2 => ?_
 refine LR rfl (Ja rfl rfl (by first | (simp only [Nat.zero_add, Nat.reduceAdd, Nat.reduceMul, Nat.zero_mul, Nat.mul_one, Nat.add_zero]; exact rfl) | exact rfl)) ?_; refine LR rfl (Jc rfl (kn 0 rfl) rfl rfl) ?_; refine LR rfl (JI rfl rfl) ?_; refine J2 rfl (Jb rfl ?_)
 refine JM 7 rfl (fun gb => ?_) (fun gb => ?_) <;> (try simp only [ZZ] at gb) <;> first | (refine LR rfl (Ja rfl rfl (by first | (simp only [Nat.zero_add, Nat.reduceAdd, Nat.reduceMul, Nat.zero_mul, Nat.mul_one, Nat.add_zero]; exact rfl) | exact rfl)) ?_) | (refine LK rfl ?_)
 all_goals first | refine LR rfl (Jc rfl (kn 0 rfl) rfl rfl) ?_ | refine LK rfl ?_
 all_goals first | refine J2 rfl ?_ | refine LK rfl ?_
 all_goals first | refine LR rfl (Jx rfl rfl) ?_ | refine LR rfl (J5 rfl rfl) ?_
 all_goals (
  refine Jb rfl (Jt (hK2 ?_)); refine Jd ?_; refine pT rfl rfl rfl fun w1 hs1 => ?_; refine ⟨congrArg (fun b => Ending.returned (Value.bool b)) ?_, hs1.keep⟩
  unfold XM
  first | (rw [show decide (a.addr.length ≠ 20) = true from decide_eq_true (by omega)]; rfl) | (rw [show decide (a.addr.length ≠ 20) = false from decide_eq_false (by omega), Bool.false_or, decide_eq_decide]; omega)
  skip)
theorem j7 {t : TxE} (h : t.y > 1 ∨ t.access.any VI = true ∨ t.auths.any XM = true) : Qw t = false := by unfold Qw; rw [if_pos h]
theorem Jfo {t : TxE} (h : ¬ t.y > 1) (h2 : t.access.any VI = false) (h3 : t.auths.any XM = false) (hk : t.kind = 0) (hc : 4611686018427387904 < t.chain) : Qw t = false := by
 unfold Qw; rw [if_neg (by rw [h2, h3]; simpa using h), if_pos hk, decide_eq_false (by omega)]; rfl
theorem Jfp {t : TxE} (h : ¬ t.y > 1) (h2 : t.access.any VI = false) (h3 : t.auths.any XM = false) (hk : t.kind = 0) (hc : t.chain ≤ 4611686018427387904) (hd : t.dest = []) : Qw t = true := by
 unfold Qw toB; rw [if_neg (by rw [h2, h3]; simpa using h), if_pos hk, decide_eq_true hc, decide_eq_true hd]; rfl
theorem Jfq {t : TxE} (h : ¬ t.y > 1) (h2 : t.access.any VI = false) (h3 : t.auths.any XM = false) (hk : t.kind = 0) (hc : t.chain ≤ 4611686018427387904) (hd : ¬ t.dest = []) {v : Bool} (hv : v = decide (t.dest.length = 20)) : v = Qw t := by
 rw [hv]
 unfold Qw toB; rw [if_neg (by rw [h2, h3]; simpa using h), if_pos hk, decide_eq_true hc, decide_eq_false hd]; rfl
theorem ya {t : TxE} (h : ¬ t.y > 1) (h2 : t.access.any VI = false) (h3 : t.auths.any XM = false) (hk : t.kind = 1 ∨ t.kind = 2) (hd : t.dest = []) : Qw t = true := by
 unfold Qw toB; rw [if_neg (by rw [h2, h3]; simpa using h), if_neg (by omega), if_neg (by omega), if_neg (by omega), decide_eq_true hd]; rfl
theorem yc {t : TxE} (h : ¬ t.y > 1) (h2 : t.access.any VI = false) (h3 : t.auths.any XM = false) (hk : t.kind = 1 ∨ t.kind = 2) (hd : ¬ t.dest = []) {v : Bool} (hv : v = decide (t.dest.length = 20)) : v = Qw t := by
 rw [hv]
 unfold Qw toB; rw [if_neg (by rw [h2, h3]; simpa using h), if_neg (by omega), if_neg (by omega), if_neg (by omega), decide_eq_false hd]; rfl
def K012 (k : Int) : Prop := k = 0 ∨ k = 1 ∨ k = 2
theorem Jme (l : List AxL) : (l.map AxL.er).any VI = l.any fun a => VI a.er := by rw [List.any_map]; rfl
theorem Jis {R : Jy} {t : TxL} (ht : t.In R) (hk : K012 t.kind) : PureR Tryz.prog 96 [t.val].toArray (.bool (Qw t.er)) R := by
  have hX := Jme t.acc
  obtain ⟨kind, chain, nonce, tip, price, gas, dest, value, data, accP, acc, auP, auths, y, r, s, source, from_, mint, system⟩ := t
  simp only at hX
  rcases hk with h | h | h <;> (
    simp only at h; subst h; refine Jz Tryz.func96 rfl rfl fun w => ?_; refine sR fun _ hK1 => ?_; refine LN rfl fun r1 => ?_; refine Jb rfl ?_; refine nK hK1 ?_; refine sR fun _ hK2 => ?_; refine LN rfl fun r3 => ?_; refine Ju (k := 0) (cs' := #[fV 185]) rfl rfl rfl rfl rfl rfl rfl rfl rfl rfl ?_; refine nK hK2 ?_; refine sR fun _ hK3 => ?_; refine LR rfl (JQ rfl rfl) ?_; refine Jb rfl ?_; refine nK hK3 ?_; refine sR fun _ hK4 => ?_; refine Jb rfl ?_; refine nK hK4 ?_; refine sQ fun _ hK5 => ?_; refine sR fun _ hK6 => ?_
    refine LR rfl (Ja rfl rfl (by first | (simp only [Nat.zero_add, Nat.reduceAdd, Nat.reduceMul, Nat.zero_mul, Nat.mul_one, Nat.add_zero]; exact rfl) | exact rfl)) ?_; refine LR rfl (Jc rfl (kn 1 rfl) rfl rfl) ?_; refine J2 rfl (Jb rfl ?_)
    refine JM 10 rfl (fun gb => ?_) (fun gb => ?_) <;> (try simp only [ZZ] at gb) <;> first | (refine LR rfl (Ja rfl rfl (by first | (simp only [Nat.zero_add, Nat.reduceAdd, Nat.reduceMul, Nat.zero_mul, Nat.mul_one, Nat.add_zero]; exact rfl) | exact rfl)) ?_) | (refine LK rfl ?_)
    all_goals first | refine LR rfl (Jc rfl (kn 1 rfl) rfl rfl) ?_ | refine LK rfl ?_
    all_goals first | refine Jb rfl ?_ | refine LK rfl ?_
    all_goals first | (refine J4 rfl rfl rfl (enters_of Tryz.func97 (by kernel_rfl) rfl) (Zu (R := okB r3 :: R) (caps := [Kw r3]) (pr := fun a => VI a.er) ht.accL (ht.accS.mono fun q hq => List.mem_cons_of_mem _ hq) (enters_of Tryz.func186 (by kernel_rfl) rfl) (fun x hx => Jfm (ht.acc x hx) r3)) (fun q hq => (List.mem_cons.1 hq).elim (fun e => Or.inl (by rw [e]; exact List.mem_cons_self)) Or.inr) ?_) | refine LK rfl ?_
    all_goals first | refine LR rfl (Jx rfl rfl) ?_ | refine LR rfl (J5 rfl rfl) ?_
    all_goals refine Jb rfl ?_
    all_goals first | refine LK rfl ?_ | (refine JM 16 rfl (fun gb => ?_) (fun gb => ?_) <;> (try simp only [ZZ] at gb) <;> first | (refine LR rfl (Ja rfl rfl (by first | (simp only [Nat.zero_add, Nat.reduceAdd, Nat.reduceMul, Nat.zero_mul, Nat.mul_one, Nat.add_zero]; exact rfl) | exact rfl)) ?_) | (refine LK rfl ?_))
    all_goals first | refine LR rfl (Jc rfl (kn 1 rfl) rfl rfl) ?_ | refine LK rfl ?_
    all_goals first | refine Jb rfl ?_ | refine LK rfl ?_
    all_goals first | (refine J4 rfl rfl rfl (enters_of Tryz.func188 (by kernel_rfl) rfl) (wZ (R := R) (caps := []) (pr := XM) ht.auL ht.auS (enters_of Tryz.func187 (by kernel_rfl) rfl) (fun x _ => (Jfn x).toR)) oR ?_) | refine LK rfl ?_
    all_goals first | refine LR rfl (Jx rfl rfl) ?_ | refine LR rfl (J5 rfl rfl) ?_
    all_goals (
     refine Jt (hK6 ?_); refine Jl rfl (fun g => ?_) (fun g => ?_)
     try simp only [ZZ] at g
     refine sR fun _ hK16 => ?_; refine Jb rfl ?_; refine nK hK16 ?_; refine Jd (Ji ?_); refine pT rfl rfl rfl fun w1 hs1 => ?_; refine ⟨congrArg (fun b => Ending.returned (Value.bool b)) ?_, hs1.keep⟩
     first | exact (j7 (.inl (by show y > 1; omega))).symm | exact (j7 (.inr (.inl (hX.trans (by assumption))))).symm | exact (j7 (.inr (.inr (by assumption)))).symm
     · try exact Bool.noConfusion g
       all_goals try simp only [ZZ] at g
       all_goals (
        refine Jg (hK5 ?_); refine sQ fun _ hK17 => ?_; refine sR fun _ hK18 => ?_
        refine LR rfl (Ja rfl rfl (by first | (simp only [Nat.zero_add, Nat.reduceAdd, Nat.reduceMul, Nat.zero_mul, Nat.mul_one, Nat.add_zero]; exact rfl) | exact rfl)) ?_; refine LR rfl (Jc rfl (kn 1 rfl) rfl rfl) ?_; refine nK hK18 ?_; refine J3 (sR fun _ hK19 => ?_); refine J2 rfl (Jb rfl ?_); refine nK hK19 ?_; refine Jl rfl (fun g => ?_) (fun g => ?_)
        · try exact Bool.noConfusion g
          all_goals try simp only [ZZ] at g
          all_goals (
           refine sR fun _ hK21 => ?_
           refine LR rfl (Ja rfl rfl (by first | (simp only [Nat.zero_add, Nat.reduceAdd, Nat.reduceMul, Nat.zero_mul, Nat.mul_one, Nat.add_zero]; exact rfl) | exact rfl)) ?_; refine LR rfl (Jc rfl (kn 1 rfl) rfl rfl) ?_; refine J2 rfl (Jb rfl ?_)
           refine JM 29 rfl (fun gb => ?_) (fun gb => ?_) <;> (try simp only [ZZ] at gb) <;> first | (refine LR rfl (Ja rfl rfl (by first | (simp only [Nat.zero_add, Nat.reduceAdd, Nat.reduceMul, Nat.zero_mul, Nat.mul_one, Nat.add_zero]; exact rfl) | exact rfl)) ?_) | (refine LK rfl ?_)
           all_goals first | refine LR rfl (Jc rfl (kn 1 rfl) rfl rfl) ?_ | refine LK rfl ?_
           all_goals first | refine LR rfl (Q3 rfl rfl) ?_ | refine LK rfl ?_
           all_goals first | refine Jb rfl ?_ | refine LK rfl ?_
           all_goals first | refine LK rfl ?_ | (refine JM 33 rfl (fun gb => ?_) (fun gb => ?_) <;> (try simp only [ZZ] at gb) <;> first | (refine LR rfl (Ja rfl rfl (by first | (simp only [Nat.zero_add, Nat.reduceAdd, Nat.reduceMul, Nat.zero_mul, Nat.mul_one, Nat.add_zero]; exact rfl) | exact rfl)) ?_) | (refine LK rfl ?_))
           all_goals first | refine LR rfl (Jc rfl (kn 1 rfl) rfl rfl) ?_ | refine LK rfl ?_
           all_goals first | refine LR rfl (JI rfl rfl) ?_ | refine LK rfl ?_
           all_goals first | refine J2 rfl ?_ | refine LK rfl ?_
           all_goals first | refine LR rfl (Jx rfl rfl) ?_ | refine LR rfl (J5 rfl rfl) ?_ | refine LK rfl ?_
           all_goals first | refine LR rfl (Jx rfl rfl) ?_ | refine LR rfl (J5 rfl rfl) ?_
           all_goals (
            refine Jb rfl (Jt (hK21 ?_)); refine Jd (Jr (Ji ?_)); refine pT rfl rfl rfl fun w1 hs1 => ?_; refine ⟨congrArg (fun b => Ending.returned (Value.bool b)) ?_, hs1.keep⟩
            first | exact (Jfo (by show ¬ y > 1; omega) (hX.trans (by assumption)) (by assumption) rfl (by show 4611686018427387904 < chain; omega)).symm | exact (Jfp (by show ¬ y > 1; omega) (hX.trans (by assumption)) (by assumption) rfl (by show chain ≤ 4611686018427387904; omega) (by assumption)).symm | exact Jfq (by show ¬ y > 1; omega) (hX.trans (by assumption)) (by assumption) rfl (by show chain ≤ 4611686018427387904; omega) (by assumption) (Jmd _ 20)
            skip)
           skip)
        · try exact Bool.noConfusion g
          all_goals try simp only [ZZ] at g
          all_goals (
           refine sR fun _ hK31 => ?_; refine J2 rfl (Jb rfl ?_); refine nK hK31 ?_; refine Jl rfl (fun g => ?_) (fun g => ?_)
           try exact Bool.noConfusion g
           · try simp only [ZZ] at g
             refine sR fun _ hK38 => ?_; refine J2 rfl (Jb rfl ?_); refine nK hK38 ?_; refine Jl rfl (fun g => ?_) (fun g => ?_)
             try exact Bool.noConfusion g
             · try simp only [ZZ] at g
               refine Jg (Jo (hK17 ?_)); refine sR fun _ hK54 => ?_
               refine LR rfl (Ja rfl rfl (by first | (simp only [Nat.zero_add, Nat.reduceAdd, Nat.reduceMul, Nat.zero_mul, Nat.mul_one, Nat.add_zero]; exact rfl) | exact rfl)) ?_; refine LR rfl (Jc rfl (kn 1 rfl) rfl rfl) ?_; refine LR rfl (Q3 rfl rfl) ?_; refine Jb rfl ?_
               refine JM 78 rfl (fun gb => ?_) (fun gb => ?_) <;> (try simp only [ZZ] at gb) <;> first | (refine LR rfl (Ja rfl rfl (by first | (simp only [Nat.zero_add, Nat.reduceAdd, Nat.reduceMul, Nat.zero_mul, Nat.mul_one, Nat.add_zero]; exact rfl) | exact rfl)) ?_) | (refine LK rfl ?_)
               all_goals first | refine LR rfl (Jc rfl (kn 1 rfl) rfl rfl) ?_ | refine LK rfl ?_
               all_goals first | refine LR rfl (JI rfl rfl) ?_ | refine LK rfl ?_
               all_goals first | refine J2 rfl ?_ | refine LK rfl ?_
               all_goals first | refine LR rfl (Jx rfl rfl) ?_ | refine LR rfl (J5 rfl rfl) ?_
               all_goals (
                refine Jb rfl (Jt (hK54 ?_)); refine Jd ?_; refine pT rfl rfl rfl fun w1 hs1 => ?_; refine ⟨congrArg (fun b => Ending.returned (Value.bool b)) ?_, hs1.keep⟩
                first | exact (ya (by show ¬ y > 1; omega) (hX.trans (by assumption)) (by assumption) (.inl rfl) (by assumption)).symm | exact (ya (by show ¬ y > 1; omega) (hX.trans (by assumption)) (by assumption) (.inr rfl) (by assumption)).symm | exact yc (by show ¬ y > 1; omega) (hX.trans (by assumption)) (by assumption) (.inl rfl) (by assumption) (Jmd _ 20) | exact yc (by show ¬ y > 1; omega) (hX.trans (by assumption)) (by assumption) (.inr rfl) (by assumption) (Jmd _ 20)
                skip)
           skip)
        skip)
     skip)
    )
theorem Jn1 (a b : Int) : YL (.int .i64 a) (.int .i64 b) = decide (a = b) := by
 show (a == b) = _
 rw [Bool.eq_iff_iff]; simp
theorem Jpf (a b : Bool) : YL (.bool a) (.bool b) = decide (a = b) := by cases a <;> cases b <;> rfl
theorem zD (w : World) (n : Nat) : Keep [] w (w.drewN n) := ⟨rfl, rfl, rfl, Nat.le_refl _, fun _ _ _ => rfl⟩
theorem qD {l : List BS} {a o : Nat} {w : World} (h : ∀ (j : Nat) v, (KN l)[j]? = some v → w.cell? ⟨a, o + j, none⟩ = some v) : ∀ j, j < (l.map bs).length → w.cell? ⟨a, o + j, none⟩ = some (.string ((l.map bs).getD j ByteArray.empty)) := fun j hj => by
 rw [List.length_map] at hj; refine h j _ ?_
 unfold KN
 rw [List.getElem?_map, List.getElem?_eq_getElem hj, List.getD_eq_getElem?_getD, List.getElem?_map, List.getElem?_eq_getElem hj]; rfl
theorem zE {l m : List BS} : l.map bs = m.map bs ↔ l = m := by
 constructor
 ·intro h
  induction l generalizing m with
  | nil => cases m with
   | nil => rfl
   | cons => simp at h
  | cons x xs ih => cases m with
   | nil => simp at h
   | cons y ys => simp only [List.map_cons, List.cons.injEq] at h ⊢; exact ⟨Jle.1 h.1, ih h.2⟩
 ·intro h; rw [h]
theorem Jn2 {R : Jy} {xs ys : List BS} {p q : Pl} (hl : xs.length ≤ 9223372036854775807) (hl2 : ys.length ≤ 9223372036854775807) (hs : Seg R xs.length (KN xs) p) (hs' : Seg R ys.length (KN ys) q) :
  PureR Tryz.prog 63 [Ky xs.length p, Ky ys.length q].toArray (.bool (decide (xs = ys))) R := ⟨fun w hR => by
 by_cases h0 : xs.length = ys.length
 ·by_cases h1 : xs.length = 0
  ·obtain rfl := List.eq_nil_of_length_eq_zero h1
   obtain rfl := List.eq_nil_of_length_eq_zero (h0.symm.trans h1)
   exact (Tryz.slices_Equal_string_empty (plA p) (plA q) (plC p) 0 (plC q) w (by decide)).mono fun _ _ ⟨h1, h2⟩ => ⟨h1, h2 ▸ Keep.refl _ _⟩
  ·cases p with
   | none => exact absurd hs h1
   | some p =>
   cases q with
   | none => exact absurd hs' (by rw [← h0]; exact h1)
   | some q =>
   obtain ⟨⟨b1, o1, sp1⟩, c1⟩ := p
   obtain ⟨⟨b2, o2, sp2⟩, c2⟩ := q
   obtain ⟨g1, _, g3⟩ := j6 hs (by omega) hR
   obtain ⟨k1, _, k3⟩ := j6 hs' (by omega) hR
   simp only at g1 k1; subst g1; subst k1
   have := Tryz.slices_Equal_string b1 o1 xs.length c1 b2 o2 ys.length c2 (xs.map bs) (ys.map bs) w (by rw [List.length_map]; exact Nat.le_refl _) (by rw [List.length_map]; exact Nat.le_refl _) hl hl2 (qD g3) (qD k3)
   refine this.mono fun _ _ ⟨e1, n, e2⟩ => ⟨?_, e2 ▸ zD w n⟩; rw [e1, List.take_of_length_le (by rw [List.length_map]; exact Nat.le_refl _), List.take_of_length_le (by rw [List.length_map]; exact Nat.le_refl _)]; exact congrArg (fun b => Ending.returned (Value.bool b)) (decide_eq_decide.2 zE)
 ·exact (Tryz.slices_Equal_string_lens (plA p) (plA q) xs.length (plC p) ys.length (plC q) w h0).mono fun _ _ ⟨h1, h2⟩ => ⟨by rw [h1, decide_eq_false fun e => h0 (by rw [e])], h2 ▸ Keep.refl _ _⟩⟩
theorem Jfr {R : Jy} {a b : AxL} (ha : a.In R) (hb : b.In R) : PureR Tryz.prog 157 [a.val, b.val].toArray (.bool (decide (a.er = b.er))) R := by
  refine Jz Tryz.func157 rfl rfl fun w => ?_; refine sR fun _ hK1 => ?_; refine LN rfl fun r1 => ?_; refine LN rfl fun r2 => ?_; refine Jb rfl ?_; refine nK hK1 ?_; refine sR fun _ hK2 => ?_
  refine LR rfl (Ja rfl rfl (by first | (simp only [Nat.zero_add, Nat.reduceAdd, Nat.reduceMul, Nat.zero_mul, Nat.mul_one, Nat.add_zero]; exact rfl) | exact rfl)) ?_; refine LR rfl (Jc rfl (kn 1 rfl) rfl rfl) ?_
  refine LR rfl (Ja rfl rfl (by first | (simp only [Nat.zero_add, Nat.reduceAdd, Nat.reduceMul, Nat.zero_mul, Nat.mul_one, Nat.add_zero]; exact rfl) | exact rfl)) ?_; refine LR rfl (Jc rfl (kn 0 rfl) rfl rfl) ?_; refine LR rfl (Q3 rfl rfl) ?_; refine Jb rfl ?_
  refine JM 10 rfl (fun gb => ?_) (fun gb => ?_) <;> (try simp only [ZZ] at gb) <;> first | (refine LR rfl (Ja rfl rfl (by first | (simp only [Nat.zero_add, Nat.reduceAdd, Nat.reduceMul, Nat.zero_mul, Nat.mul_one, Nat.add_zero]; exact rfl) | exact rfl)) ?_) | (refine LK rfl ?_)
  all_goals first | refine LR rfl (Jc rfl (kn 1 rfl) rfl rfl) ?_ | refine LK rfl ?_
  all_goals first | (refine LR rfl (Ja rfl rfl (by first | (simp only [Nat.zero_add, Nat.reduceAdd, Nat.reduceMul, Nat.zero_mul, Nat.mul_one, Nat.add_zero]; exact rfl) | exact rfl)) ?_) | refine LK rfl ?_
  all_goals first | refine LR rfl (Jc rfl (kn 0 rfl) rfl rfl) ?_ | refine LK rfl ?_
  all_goals first | (refine J4 rfl rfl rfl (enters_of Tryz.func63 (by kernel_rfl) rfl) (Jn2 ha.len hb.len ha.seg hb.seg) oR ?_) | refine LK rfl ?_
  all_goals first | refine LR rfl (Jx rfl rfl) ?_ | refine LR rfl (J5 rfl rfl) ?_
  all_goals (
   refine Jb rfl (Jt (hK2 ?_)); refine Jd ?_; refine pT rfl rfl rfl fun w1 hs1 => ?_; refine ⟨congrArg (fun z => Ending.returned (Value.bool z)) ?_, hs1.keep⟩
   unfold AxL.er
   first
     | (have h1 : a.addr = b.addr := by assumption
        rw [decide_eq_decide, h1]; simp; done)
     | (have h1 : ¬ a.addr = b.addr := by assumption
        rw [decide_eq_false (by simp [h1])])
   skip)
theorem Jfs {R : Jy} {xs ys : List AxL} {p q : Pl} (hl : xs.length ≤ 9223372036854775807) (hl2 : ys.length ≤ 9223372036854775807) (hs : Seg R xs.length (xs.flatMap AxL.cells) p) (hs' : Seg R ys.length (ys.flatMap AxL.cells) q) (hx' : ∀ x ∈ xs, x.In R) (hy' : ∀ y ∈ ys, y.In R) :
  PureR Tryz.prog 158 [Ky xs.length p, Ky ys.length q, fV 157].toArray (.bool (decide (xs.map AxL.er = ys.map AxL.er))) R := by
 refine Jz Tryz.func158 rfl rfl fun w => ?_; refine sR fun K1 hK1 => ?_; refine Jb rfl ?_; refine nK hK1 ?_; clear hK1 K1; refine sQ fun K2 hK2 => ?_; refine sR fun K3 hK3 => ?_; refine Jb rfl (LR rfl (JJ rfl hs rfl) ?_); refine Jb rfl (LR rfl (JJ rfl hs' rfl) (J2 rfl ?_)); refine nK hK3 ?_; clear hK3 K3; refine cD (fun g => ?_) fun g => ?_
 refine sR fun K5 hK5 => ?_; refine Jb rfl ?_; refine nK hK5 ?_; clear hK5 K5; refine Jd (Ji ?_); clear hK2 K2; refine pT rfl rfl rfl fun w1 hs1 => ?_; refine ⟨?_, hs1.keep⟩; rw [decide_eq_false (show ¬ xs.map AxL.er = ys.map AxL.er from fun e => by have := congrArg List.length e; rw [List.length_map, List.length_map] at this; omega)]; rfl
 ·refine Jg (hK2 ?_); clear hK2 K2; refine sQ fun K6 hK6 => ?_; refine sR fun K7 hK7 => ?_; refine Jb rfl (LR rfl (JJ rfl hs rfl) (Jb rfl ?_)); refine nK hK7 ?_; clear hK7 K7; refine J3 ?_
  have hll : xs.length = ys.length := by omega
  refine JS (σ := Nat) (fun i => i ≤ xs.length ∧ ∀ j, j < i → (xs.map AxL.er)[j]? = (ys.map AxL.er)[j]?) (fun i => [(0, Ky xs.length p), (1, Ky ys.length q), (2, fV 157), (15, Ky xs.length p), (16, .int .i64 (xs.length : Int)), (17, .int .i64 (i : Int))]) (fun _ => []) (fun _ _ _ => True) (fun i => xs.length - i) 0 ⟨by omega, fun j hj => absurd hj (by omega)⟩ (lK rfl) (List.nil_sublist _) (fun _ _ h => h) ?_; rintro i ⟨hi1, hinv⟩; refine sR fun K8 hK8 => ?_; refine J2 rfl ?_; refine nK hK8 ?_; clear hK8 K8; refine sQ fun K9 hK9 => ?_; refine cD (fun g => ?_) fun g => ?_
  refine Jg (hK9 ?_); clear hK9 K9; refine sB fun K11 hK11 => ?_; refine sQ fun K12 hK12 => ?_
  obtain ⟨x, hx, hmx⟩ := QA (show i < xs.length by omega)
  obtain ⟨y, hy, hmy⟩ := QA (show i < ys.length by omega)
  refine Je (Jb rfl ?_)
  refine LR rfl (JB (j := i) rfl hs rfl rfl rfl (by first | rfl | omega) (by omega)) ?_; refine LR rfl (Kt AxL.len oR rfl hs hx rfl rfl) ?_; refine LN rfl fun r1 => ?_; refine Jb rfl (Js (k := 0) (n := 2) (ys := x.cells) rfl rfl rfl rfl rfl rfl rfl rfl rfl ?_); refine nK hK12 ?_; clear hK12 K12; refine sR fun K13 hK13 => ?_; refine Jb rfl (Jb rfl ?_)
  refine LR rfl (JB (j := i) rfl hs' rfl rfl rfl (by first | rfl | omega) (by omega)) ?_; refine LR rfl (Kt AxL.len oR rfl hs' hy rfl rfl) ?_; refine LN rfl fun r2 => ?_; refine Js (k := 0) (n := 2) (ys := y.cells) rfl rfl rfl rfl rfl rfl rfl rfl rfl ?_; refine nK hK13 ?_; clear hK13 K13; refine sR fun K14 hK14 => ?_; refine Jb rfl (LR rfl (Jm (xs := x.cells) (n := 2) rfl (kn 1 rfl) rfl rfl rfl) (LR rfl (Jm (xs := y.cells) (n := 2) rfl (kn 0 rfl) rfl rfl rfl) ?_)); refine J4 rfl rfl rfl (enters_of Tryz.func157 (by kernel_rfl) rfl) (Jfr (hx' x hmx) (hy' y hmy)) oR ?_; refine J2 rfl ?_; refine nK hK14 ?_; clear hK14 K14; refine cD (fun g => ?_) fun g => ?_
  refine sR fun K16 hK16 => ?_; refine Jb rfl ?_; refine nK hK16 ?_; clear hK16 K16; refine Jd (Jr (Ji ?_)); clear hK11 K11; refine Ji (Jr (Ji ?_)); clear hK6 K6; refine pT rfl rfl rfl fun w1 hs1 => ?_; refine ⟨?_, hs1.keep⟩; rw [decide_eq_false (Jek (i := i) (x := x.er) (y := y.er) (by rw [List.getElem?_map, hx]; rfl) (by rw [List.getElem?_map, hy]; rfl) (by simp_all))]; rfl
  refine Jg (Jo (hK11 ?_)); clear hK11 K11; refine Je (J2 rfl (Ke (by omega) (by omega) ?_)); refine Jb rfl (Jt (JU ?_))
  exact JN (i + 1) ⟨by omega, fun j hj => by
   rcases Nat.lt_succ_iff_lt_or_eq.1 hj with hj | rfl
   exact hinv j hj
   rw [List.getElem?_map, List.getElem?_map, hx, hy]; simp_all⟩ (by omega) (lK rfl) (List.nil_sublist _) (fun _ _ h => h)
  ·refine JL (Jn ?_); clear hK9 K9; refine Jn (J8 (hK6 ?_)); clear hK6 K6; refine sR fun K17 hK17 => ?_; refine Jb rfl ?_; refine nK hK17 ?_; clear hK17 K17; refine Jd ?_; refine pT rfl rfl rfl fun w1 hs1 => ?_; refine ⟨?_, hs1.keep⟩; rw [decide_eq_true (Jej (by rw [List.length_map, List.length_map]; exact hll) (by rw [List.length_map]; omega) hinv)]; rfl
theorem Jn3 (x y : AuE) : (YL (uV x.chain) (uV y.chain) && (YL (Jq x.addr) (Jq y.addr) && (YL (uV x.nonce) (uV y.nonce) && (YL (uV x.y) (uV y.y) && (KP [uV x.r.a, uV x.r.b, uV x.r.c, uV x.r.d] [uV y.r.a, uV y.r.b, uV y.r.c, uV y.r.d] && (KP [uV x.s.a, uV x.s.b, uV x.s.c, uV x.s.d] [uV y.s.a, uV y.s.b, uV y.s.c, uV y.s.d] && true)))))) = decide (x = y) := by
 rw [Bool.eq_iff_iff]; simp only [eqU, eqW, xY, Bool.and_eq_true, decide_eq_true_eq, Bool.and_true]
 obtain ⟨a, b, c, d, e, f⟩ := x
 obtain ⟨a', b', c', d', e', f'⟩ := y
 simp only [AuE.mk.injEq]
theorem Jft {R : Jy} {xs ys : List AuE} {p q : Pl} (hl : xs.length ≤ 9223372036854775807) (hl2 : ys.length ≤ 9223372036854775807) (hs : Seg R xs.length (xs.flatMap AuE.cells) p) (hs' : Seg R ys.length (ys.flatMap AuE.cells) q) :
  PureR Tryz.prog 159 [Ky xs.length p, Ky ys.length q].toArray (.bool (decide (xs = ys))) R := by
 refine Jz Tryz.func159 rfl rfl fun w => ?_; refine sR fun K1 hK1 => ?_; refine Jb rfl ?_; refine nK hK1 ?_; clear hK1 K1; refine sQ fun K2 hK2 => ?_; refine sR fun K3 hK3 => ?_; refine Jb rfl (LR rfl (JJ rfl hs rfl) ?_); refine Jb rfl (LR rfl (JJ rfl hs' rfl) (J2 rfl ?_)); refine nK hK3 ?_; clear hK3 K3; refine cD (fun g => ?_) fun g => ?_
 refine sR fun K5 hK5 => ?_; refine Jb rfl ?_; refine nK hK5 ?_; clear hK5 K5; refine Jd (Ji ?_); clear hK2 K2; refine pT rfl rfl rfl fun w1 hs1 => ?_; refine ⟨?_, hs1.keep⟩; rw [decide_eq_false (show ¬ xs = ys from fun e => by have := congrArg List.length e; omega)]; rfl
 ·refine Jg (hK2 ?_); clear hK2 K2; refine sQ fun K6 hK6 => ?_; refine sR fun K7 hK7 => ?_; refine Jb rfl (LR rfl (JJ rfl hs rfl) (Jb rfl ?_)); refine nK hK7 ?_; clear hK7 K7; refine J3 ?_
  have hll : xs.length = ys.length := by omega
  refine JS (σ := Nat) (fun i => i ≤ xs.length ∧ ∀ j, j < i → xs[j]? = ys[j]?) (fun i => [(0, Ky xs.length p), (1, Ky ys.length q), (12, .int .i64 (xs.length : Int)), (13, .int .i64 (i : Int))]) (fun _ => []) (fun _ _ _ => True) (fun i => xs.length - i) 0 ⟨by omega, fun j hj => absurd hj (by omega)⟩ (lK rfl) (List.nil_sublist _) (fun _ _ h => h) ?_; rintro i ⟨hi1, hinv⟩; refine sR fun K8 hK8 => ?_; refine J2 rfl ?_; refine nK hK8 ?_; clear hK8 K8; refine sQ fun K9 hK9 => ?_; refine cD (fun g => ?_) fun g => ?_
  refine Jg (hK9 ?_); clear hK9 K9; refine sB fun K11 hK11 => ?_; refine sR fun K12 hK12 => ?_; refine Jb rfl (Jb rfl ?_); refine nK hK12 ?_; clear hK12 K12; refine sQ fun K13 hK13 => ?_
  obtain ⟨x, hx, hmx⟩ := QA (show i < xs.length by omega)
  obtain ⟨y, hy, hmy⟩ := QA (show i < ys.length by omega)
  refine Qs 9 (by kernel_rfl) (by kernel_rfl) ?_; refine JD rfl rfl rfl (JG rfl) ?_; refine JD rfl rfl rfl (JG rfl) ?_
  refine JD rfl rfl rfl (JB (j := i) rfl hs rfl rfl rfl (by first | rfl | omega) (by omega)) ?_; refine JD rfl rfl rfl (Kt AuE.len oR rfl hs hx rfl rfl) ?_; refine JD rfl rfl rfl (JG rfl) ?_; refine JD rfl rfl rfl (JG rfl) ?_
  refine JD rfl rfl rfl (JB (j := i) rfl hs' rfl rfl rfl (by first | rfl | omega) (by omega)) ?_; refine JD rfl rfl rfl (Kt AuE.len oR rfl hs' hy rfl rfl) ?_; refine JD rfl rfl rfl (Jh6 (xs := x.cells) (ys := y.cells) rfl rfl rfl (by kernel_rfl) (by kernel_rfl) (.scal (by decide) rfl rfl rfl rfl rfl (.scal (by decide) rfl rfl rfl rfl rfl (.scal (by decide) rfl rfl rfl rfl rfl (.scal (by decide) rfl rfl rfl rfl rfl (.arr (by decide) rfl rfl rfl rfl rfl rfl rfl rfl rfl rfl (.arr (by decide) rfl rfl rfl rfl rfl rfl rfl rfl rfl rfl .nil))))))) ?_; refine Wl (congrArg (fun b => Value.bool (!b)) (Jn3 x y)) ?_; refine Q8 ?_; refine nK hK13 ?_; clear hK13 K13; refine cD (fun g => ?_) fun g => ?_
  refine sR fun K15 hK15 => ?_; refine Jb rfl ?_; refine nK hK15 ?_; clear hK15 K15; refine Jd (Jr (Ji ?_)); clear hK11 K11; refine Ji (Jr (Ji ?_)); clear hK6 K6; refine pT rfl rfl rfl fun w1 hs1 => ?_; refine ⟨?_, hs1.keep⟩; rw [decide_eq_false (Jek hx hy (by simp_all))]; rfl
  refine Jg (Jo (hK11 ?_)); clear hK11 K11; refine Je (J2 rfl (Ke (by omega) (by omega) ?_)); refine Jb rfl (Jt (JU ?_))
  exact JN (i + 1) ⟨by omega, fun j hj => by
   rcases Nat.lt_succ_iff_lt_or_eq.1 hj with hj | rfl
   exact hinv j hj
   rw [hx, hy]; simp_all⟩ (by omega) (lK rfl) (List.nil_sublist _) (fun _ _ h => h)
  ·refine JL (Jn ?_); clear hK9 K9; refine Jn (J8 (hK6 ?_)); clear hK6 K6; refine sR fun K16 hK16 => ?_; refine Jb rfl ?_; refine nK hK16 ?_; clear hK16 K16; refine Jd ?_; refine pT rfl rfl rfl fun w1 hs1 => ?_; refine ⟨?_, hs1.keep⟩; rw [decide_eq_true (Jej hll (by omega) hinv)]; rfl
def qE (t : TxL) : List Value := [.int .i64 t.kind, uV t.chain, uV t.nonce, uV t.gas, uV t.y, uV t.tip.a, uV t.tip.b, uV t.tip.c, uV t.tip.d, uV t.price.a, uV t.price.b, uV t.price.c, uV t.price.d,
 uV t.value.a, uV t.value.b, uV t.value.c, uV t.value.d, uV t.r.a, uV t.r.b, uV t.r.c, uV t.r.d, uV t.s.a, uV t.s.b, uV t.s.c, uV t.s.d, uV t.mint.a, uV t.mint.b, uV t.mint.c, uV t.mint.d,
 Jq t.dest, Jq t.data, Jq t.source, Jq t.from_, .bool t.system]
theorem yg (t : TxL) : Pure Tryz.prog 160 [t.val].toArray (.agg (qE t).toArray) := by
 refine JF Tryz.func160 rfl rfl fun w => ?_; refine sR fun _ hK1 => ?_; refine JX (cs := List.toArray (t.cells)) rfl rfl rfl rfl fun r0 => ?_; refine LN rfl fun r2 => ?_; refine nK hK1 ?_; refine sR fun _ hK2 => ?_
 refine LR rfl (Ja rfl rfl (by first | (simp only [Nat.zero_add, Nat.reduceAdd, Nat.reduceMul, Nat.zero_mul, Nat.mul_one, Nat.add_zero]; exact rfl) | exact rfl)) ?_; refine LR rfl (Jc rfl (kn 1 rfl) rfl rfl) ?_
 refine LR rfl (Ja rfl rfl (by first | (simp only [Nat.zero_add, Nat.reduceAdd, Nat.reduceMul, Nat.zero_mul, Nat.mul_one, Nat.add_zero]; exact rfl) | exact rfl)) ?_; refine LR rfl (Jc rfl (kn 1 rfl) rfl rfl) ?_
 refine LR rfl (Ja rfl rfl (by first | (simp only [Nat.zero_add, Nat.reduceAdd, Nat.reduceMul, Nat.zero_mul, Nat.mul_one, Nat.add_zero]; exact rfl) | exact rfl)) ?_; refine LR rfl (Jc rfl (kn 1 rfl) rfl rfl) ?_
 refine LR rfl (Ja rfl rfl (by first | (simp only [Nat.zero_add, Nat.reduceAdd, Nat.reduceMul, Nat.zero_mul, Nat.mul_one, Nat.add_zero]; exact rfl) | exact rfl)) ?_; refine LR rfl (Jc rfl (kn 1 rfl) rfl rfl) ?_
 refine LR rfl (Ja rfl rfl (by first | (simp only [Nat.zero_add, Nat.reduceAdd, Nat.reduceMul, Nat.zero_mul, Nat.mul_one, Nat.add_zero]; exact rfl) | exact rfl)) ?_; refine LR rfl (Jc rfl (kn 1 rfl) rfl rfl) ?_
 refine LR rfl (Ja rfl rfl (by first | (simp only [Nat.zero_add, Nat.reduceAdd, Nat.reduceMul, Nat.zero_mul, Nat.mul_one, Nat.add_zero]; exact rfl) | exact rfl)) ?_; refine LR rfl (JT (vs := [_, _, _, _]) rfl (kn 1 rfl) rfl rfl rfl rfl) ?_
 refine LR rfl (Ja rfl rfl (by first | (simp only [Nat.zero_add, Nat.reduceAdd, Nat.reduceMul, Nat.zero_mul, Nat.mul_one, Nat.add_zero]; exact rfl) | exact rfl)) ?_; refine LR rfl (JT (vs := [_, _, _, _]) rfl (kn 1 rfl) rfl rfl rfl rfl) ?_
 refine LR rfl (Ja rfl rfl (by first | (simp only [Nat.zero_add, Nat.reduceAdd, Nat.reduceMul, Nat.zero_mul, Nat.mul_one, Nat.add_zero]; exact rfl) | exact rfl)) ?_; refine LR rfl (JT (vs := [_, _, _, _]) rfl (kn 1 rfl) rfl rfl rfl rfl) ?_
 refine LR rfl (Ja rfl rfl (by first | (simp only [Nat.zero_add, Nat.reduceAdd, Nat.reduceMul, Nat.zero_mul, Nat.mul_one, Nat.add_zero]; exact rfl) | exact rfl)) ?_; refine LR rfl (JT (vs := [_, _, _, _]) rfl (kn 1 rfl) rfl rfl rfl rfl) ?_
 refine LR rfl (Ja rfl rfl (by first | (simp only [Nat.zero_add, Nat.reduceAdd, Nat.reduceMul, Nat.zero_mul, Nat.mul_one, Nat.add_zero]; exact rfl) | exact rfl)) ?_; refine LR rfl (JT (vs := [_, _, _, _]) rfl (kn 1 rfl) rfl rfl rfl rfl) ?_
 refine LR rfl (Ja rfl rfl (by first | (simp only [Nat.zero_add, Nat.reduceAdd, Nat.reduceMul, Nat.zero_mul, Nat.mul_one, Nat.add_zero]; exact rfl) | exact rfl)) ?_; refine LR rfl (JT (vs := [_, _, _, _]) rfl (kn 1 rfl) rfl rfl rfl rfl) ?_
 refine LR rfl (Ja rfl rfl (by first | (simp only [Nat.zero_add, Nat.reduceAdd, Nat.reduceMul, Nat.zero_mul, Nat.mul_one, Nat.add_zero]; exact rfl) | exact rfl)) ?_; refine LR rfl (Jc rfl (kn 1 rfl) rfl rfl) ?_
 refine LR rfl (Ja rfl rfl (by first | (simp only [Nat.zero_add, Nat.reduceAdd, Nat.reduceMul, Nat.zero_mul, Nat.mul_one, Nat.add_zero]; exact rfl) | exact rfl)) ?_; refine LR rfl (Jc rfl (kn 1 rfl) rfl rfl) ?_
 refine LR rfl (Ja rfl rfl (by first | (simp only [Nat.zero_add, Nat.reduceAdd, Nat.reduceMul, Nat.zero_mul, Nat.mul_one, Nat.add_zero]; exact rfl) | exact rfl)) ?_; refine LR rfl (Jc rfl (kn 1 rfl) rfl rfl) ?_
 refine LR rfl (Ja rfl rfl (by first | (simp only [Nat.zero_add, Nat.reduceAdd, Nat.reduceMul, Nat.zero_mul, Nat.mul_one, Nat.add_zero]; exact rfl) | exact rfl)) ?_; refine LR rfl (Jc rfl (kn 1 rfl) rfl rfl) ?_
 refine LR rfl (Ja rfl rfl (by first | (simp only [Nat.zero_add, Nat.reduceAdd, Nat.reduceMul, Nat.zero_mul, Nat.mul_one, Nat.add_zero]; exact rfl) | exact rfl)) ?_; refine LR rfl (Jc rfl (kn 1 rfl) rfl rfl) ?_; refine LR rfl (J7 (r := qE t) rfl (by kernel_rfl)) ?_; refine Js (k := 0) (n := 34) (ys := qE t) rfl rfl rfl rfl rfl rfl rfl rfl rfl ?_; refine nK hK2 ?_; refine Jd ?_; refine Qf rfl rfl (.cons (J0 (vs := qE t) rfl (kn 0 rfl) rfl rfl) .nil) (fun w1 hs1 => ⟨rfl, hs1.keep⟩)
def j8 (t u : TxL) : Prop := t.kind = u.kind ∧ t.chain = u.chain ∧ t.nonce = u.nonce ∧ t.gas = u.gas ∧ t.y = u.y ∧ t.tip = u.tip ∧ t.price = u.price ∧ t.value = u.value ∧ t.r = u.r ∧ t.s = u.s ∧ t.mint = u.mint ∧ t.dest = u.dest ∧ t.data = u.data ∧ t.source = u.source ∧ t.from_ = u.from_ ∧ t.system = u.system
instance (t u : TxL) : Decidable (j8 t u) := inferInstanceAs (Decidable (_ ∧ _))
theorem Jit (t u : TxL) : (YL (.int .i64 t.kind) (.int .i64 u.kind) && (YL (uV t.chain) (uV u.chain) && (YL (uV t.nonce) (uV u.nonce) && (YL (uV t.gas) (uV u.gas) && (YL (uV t.y) (uV u.y) &&
  (KP (wC t.tip) (wC u.tip) && (KP (wC t.price) (wC u.price) && (KP (wC t.value) (wC u.value) && (KP (wC t.r) (wC u.r) && (KP (wC t.s) (wC u.s) && (KP (wC t.mint) (wC u.mint) &&
  (YL (Jq t.dest) (Jq u.dest) && (YL (Jq t.data) (Jq u.data) && (YL (Jq t.source) (Jq u.source) && (YL (Jq t.from_) (Jq u.from_) && (YL (.bool t.system) (.bool u.system) && true)))))))))))))))) = decide (j8 t u) := by
 rw [Bool.eq_iff_iff, decide_eq_true_iff]
 unfold wC j8
 simp only [eqU, eqW, xY, Jn1, Jpf, Bool.and_eq_true, decide_eq_true_eq, Bool.and_true]
theorem Jkw (t u : TxL) : t.er = u.er ↔ (t.acc.map AxL.er = u.acc.map AxL.er ∧ t.auths = u.auths ∧ j8 t u) := by
 unfold TxL.er j8
 simp only [TxE.mk.injEq]
 constructor
 ·rintro ⟨a, b, c, d, e, f, g, h, i, j, k, l, m, n, o, p, q, r⟩; exact ⟨j, k, a, b, c, f, l, d, e, h, m, n, q, g, i, o, p, r⟩
 ·rintro ⟨j, k, a, b, c, f, l, d, e, h, m, n, q, g, i, o, p, r⟩; exact ⟨a, b, c, d, e, f, g, h, i, j, k, l, m, n, o, p, q, r⟩
theorem Jiu {R : Jy} {t u : TxL} (ht : t.In R) (hu : u.In R) : PureR Tryz.prog 64 [t.val, u.val].toArray (.bool (decide (t.er = u.er))) R := by
  refine Jz Tryz.func64 rfl rfl fun w => ?_; refine sR fun K1 hK1 => ?_; refine JX (cs := List.toArray (t.cells)) rfl rfl rfl rfl fun r0 => ?_; refine JX (cs := List.toArray (u.cells)) rfl rfl rfl rfl fun r1 => ?_; refine Jb rfl ?_; refine nK hK1 ?_; clear hK1 K1; refine sR fun K2 hK2 => ?_; refine Jb rfl ?_; refine nK hK2 ?_; clear hK2 K2; refine sQ fun K3 hK3 => ?_; refine sR fun K4 hK4 => ?_
  refine LR rfl (Ja rfl rfl (by first | (simp only [Nat.zero_add, Nat.reduceAdd, Nat.reduceMul, Nat.zero_mul, Nat.mul_one, Nat.add_zero]; exact rfl) | exact rfl)) ?_; refine LR rfl (Jc rfl (kn 1 rfl) rfl rfl) ?_
  refine LR rfl (Ja rfl rfl (by first | (simp only [Nat.zero_add, Nat.reduceAdd, Nat.reduceMul, Nat.zero_mul, Nat.mul_one, Nat.add_zero]; exact rfl) | exact rfl)) ?_; refine LR rfl (Jc rfl (kn 0 rfl) rfl rfl) ?_; refine Jb rfl (J4 rfl rfl rfl (enters_of Tryz.func158 (by kernel_rfl) rfl) (Jfs ht.accL hu.accL ht.accS hu.accS ht.acc hu.acc) oR ?_); refine J2 rfl (Jb rfl ?_)
  refine JM 14 rfl (fun gb => ?_) (fun gb => ?_) <;> (try simp only [ZZ] at gb) <;> first | (refine LR rfl (Ja rfl rfl (by first | (simp only [Nat.zero_add, Nat.reduceAdd, Nat.reduceMul, Nat.zero_mul, Nat.mul_one, Nat.add_zero]; exact rfl) | exact rfl)) ?_) | (refine LK rfl ?_)
  all_goals first | refine LR rfl (Jc rfl (kn 1 rfl) rfl rfl) ?_ | refine LK rfl ?_
  all_goals first | (refine LR rfl (Ja rfl rfl (by first | (simp only [Nat.zero_add, Nat.reduceAdd, Nat.reduceMul, Nat.zero_mul, Nat.mul_one, Nat.add_zero]; exact rfl) | exact rfl)) ?_) | refine LK rfl ?_
  all_goals first | refine LR rfl (Jc rfl (kn 0 rfl) rfl rfl) ?_ | refine LK rfl ?_
  all_goals first | (refine J4 rfl rfl rfl (enters_of Tryz.func159 (by kernel_rfl) rfl) (Jft ht.auL hu.auL ht.auS hu.auS) oR ?_) | refine LK rfl ?_
  all_goals first | refine J2 rfl ?_ | refine LK rfl ?_
  all_goals first | refine LR rfl (Jx rfl rfl) ?_ | refine LR rfl (J5 rfl rfl) ?_
  all_goals (
   refine Jt (hK4 ?_); clear hK4 K4; refine Jl rfl (fun g => ?_) (fun g => ?_)
   try simp only [ZZ] at g
   refine sR fun K12 hK12 => ?_; refine Jb rfl ?_; refine nK hK12 ?_; clear hK12 K12; refine Jd (Ji ?_); clear hK3 K3; refine pT rfl rfl rfl fun w1 hs1 => ?_; refine ⟨congrArg (fun z => Ending.returned (Value.bool z)) ?_, hs1.keep⟩; exact (decide_eq_false fun h => by have h2 := (Jkw t u).1 h; simp_all).symm
   · try exact Bool.noConfusion g
     all_goals try simp only [ZZ] at g
     all_goals (
      refine Jg (hK3 ?_); clear hK3 K3; refine sR fun K13 hK13 => ?_; refine Jb rfl ?_; refine nK hK13 ?_; clear hK13 K13; refine sQ fun K14 hK14 => ?_; refine Qs 8 (by kernel_rfl) (by kernel_rfl) ?_; refine JD rfl rfl rfl (JG rfl) ?_; refine JD rfl rfl rfl (Jm (xs := t.cells) (n := 36) rfl (kn 1 rfl) rfl rfl rfl) ?_; refine VT rfl rfl rfl (enters_of Tryz.func160 (by kernel_rfl) rfl) (yg t) ?_; refine JD rfl rfl rfl (JG rfl) ?_; refine JD rfl rfl rfl (Jm (xs := u.cells) (n := 36) rfl (kn 0 rfl) rfl rfl rfl) ?_; refine VT rfl rfl rfl (enters_of Tryz.func160 (by kernel_rfl) rfl) (yg u) ?_; refine JD rfl rfl rfl (Jh5 (xs := qE t) (ys := qE u) rfl rfl rfl (by kernel_rfl) (by kernel_rfl) (.scal (by decide) rfl rfl rfl rfl rfl (.scal (by decide) rfl rfl rfl rfl rfl (.scal (by decide) rfl rfl rfl rfl rfl (.scal (by decide) rfl rfl rfl rfl rfl (.scal (by decide) rfl rfl rfl rfl rfl (.arr (by decide) rfl rfl rfl rfl rfl rfl rfl rfl rfl rfl (.arr (by decide) rfl rfl rfl rfl rfl rfl rfl rfl rfl rfl (.arr (by decide) rfl rfl rfl rfl rfl rfl rfl rfl rfl rfl (.arr (by decide) rfl rfl rfl rfl rfl rfl rfl rfl rfl rfl (.arr (by decide) rfl rfl rfl rfl rfl rfl rfl rfl rfl rfl (.arr (by decide) rfl rfl rfl rfl rfl rfl rfl rfl rfl rfl (.scal (by decide) rfl rfl rfl rfl rfl (.scal (by decide) rfl rfl rfl rfl rfl (.scal (by decide) rfl rfl rfl rfl rfl (.scal (by decide) rfl rfl rfl rfl rfl (.scal (by decide) rfl rfl rfl rfl rfl .nil))))))))))))))))) ?_; refine Wl (congrArg Value.bool (Jit t u)) ?_; refine JD rfl rfl rfl (JY rfl) ?_; refine Q8 ?_; refine nK hK14 ?_; clear hK14 K14; refine Jd ?_; refine pT rfl rfl rfl fun w1 hs1 => ?_; refine ⟨congrArg (fun z => Ending.returned (Value.bool z)) ?_, hs1.keep⟩; exact (decide_eq_decide.2 ((Jkw t u).trans ⟨fun h => h.2.2, fun h => ⟨by simp_all, by simp_all, h⟩⟩)).symm
      skip)
   skip)
def n0 (t : TxL) : TxL := ⟨t.kind, 0, 0, w40, w40, t.gas, t.dest, t.value, t.data, none, [], none, [], 0, w40, w40, [], [], w40, false⟩
def jR (t : TxL) : TxL := { n0 t with chain := t.chain, nonce := t.nonce, price := t.price, y := t.y, r := t.r, s := t.s, tip := if t.kind = 2 then t.tip else w40, accP := if t.kind = 0 then none else t.accP, acc := if t.kind = 0 then [] else t.acc }
theorem Jfu {t : TxL} (hk : K012 t.kind) : (jR t).er = Y2 t.er := by
 unfold jR Y2 TxL.er n0
 rcases hk with h | h | h <;> simp [h, tx0]
theorem Jmf {R : Jy} {t : TxL} (ht : t.In R) (hk : K012 t.kind) : (jR t).In R where
 ok := by
  rw [Jfu hk]
  have h := ht.ok
  unfold Y2
  rw [if_neg (by show ¬ t.kind = 126; unfold K012 at hk; omega)]; exact ⟨h.chain, h.nonce, (by dsimp only; split; exact h.tip; exact Xp), h.price, h.gas, h.value, (by dsimp only; split; exact h.auths; intro a ha; cases ha), h.y, h.r, h.s, Xp⟩
 dest := ht.dest
 data := ht.data
 source := by show ([] : BS).length ≤ _; simp
 from_ := by show ([] : BS).length ≤ _; simp
 accL := by unfold jR; dsimp only; split; simp; exact ht.accL
 accS := by unfold jR; dsimp only; split; exact rfl; exact ht.accS
 acc := by unfold jR; dsimp only; split; intro a ha; cases ha; exact ht.acc
 auL := by show ([] : List AuE).length ≤ _; simp
 auS := rfl
 au := fun a ha => by cases ha
theorem Jiv {t : TxL} (hk : K012 t.kind) : Pure Tryz.prog 95 [t.val].toArray (jR t).val := by
 refine JF Tryz.func95 rfl rfl fun w => ?_; refine sR fun _ hK1 => ?_; refine JX (cs := List.toArray (t.cells)) rfl rfl rfl rfl fun r0 => ?_; refine LN rfl fun r2 => ?_; refine nK hK1 ?_; refine sR fun _ hK2 => ?_
 refine LR rfl (Ja rfl rfl (by first | (simp only [Nat.zero_add, Nat.reduceAdd, Nat.reduceMul, Nat.zero_mul, Nat.mul_one, Nat.add_zero]; exact rfl) | exact rfl)) ?_; refine LR rfl (Jc rfl (kn 1 rfl) rfl rfl) ?_
 refine LR rfl (Ja rfl rfl (by first | (simp only [Nat.zero_add, Nat.reduceAdd, Nat.reduceMul, Nat.zero_mul, Nat.mul_one, Nat.add_zero]; exact rfl) | exact rfl)) ?_; refine LR rfl (Jc rfl (kn 1 rfl) rfl rfl) ?_
 refine LR rfl (Ja rfl rfl (by first | (simp only [Nat.zero_add, Nat.reduceAdd, Nat.reduceMul, Nat.zero_mul, Nat.mul_one, Nat.add_zero]; exact rfl) | exact rfl)) ?_; refine LR rfl (Jc rfl (kn 1 rfl) rfl rfl) ?_
 refine LR rfl (Ja rfl rfl (by first | (simp only [Nat.zero_add, Nat.reduceAdd, Nat.reduceMul, Nat.zero_mul, Nat.mul_one, Nat.add_zero]; exact rfl) | exact rfl)) ?_; refine LR rfl (JT (vs := [_, _, _, _]) rfl (kn 1 rfl) rfl rfl rfl rfl) ?_
 refine LR rfl (Ja rfl rfl (by first | (simp only [Nat.zero_add, Nat.reduceAdd, Nat.reduceMul, Nat.zero_mul, Nat.mul_one, Nat.add_zero]; exact rfl) | exact rfl)) ?_; refine LR rfl (Jc rfl (kn 1 rfl) rfl rfl) ?_; refine LR rfl (J7 (r := (n0 t).cells) rfl (by kernel_rfl)) ?_; refine LN rfl fun r3 => ?_; refine Js (k := 0) (n := 36) (ys := (n0 t).cells) rfl rfl rfl rfl rfl rfl rfl rfl rfl ?_; refine nK hK2 ?_; refine sQ fun _ hK3 => ?_; refine sR fun _ hK4 => ?_
 refine LR rfl (Ja rfl rfl (by first | (simp only [Nat.zero_add, Nat.reduceAdd, Nat.reduceMul, Nat.zero_mul, Nat.mul_one, Nat.add_zero]; exact rfl) | exact rfl)) ?_; refine LR rfl (Jc rfl (kn 2 rfl) rfl rfl) ?_; refine J2 rfl ?_; refine nK hK4 ?_; refine Jl rfl (fun h5 => ?_) (fun h5 => ?_)
 exact absurd h5 ((by intro h; have := beq_iff_eq.1 h; unfold K012 at hk; omega))
 ·try simp only [ZZ] at h5
  refine Jg (hK3 ?_); refine sQ fun _ hK6 => ?_; refine Km [(r0, .cells (List.toArray t.cells) 33 (0, 0))] [(0, .pure), (1, .pure), (2, .pure), (3, .pure), (4, .pure), (5, .pure), (6, .pure), (7, .pure), (8, .pure), (9, .pure), (10, .pure), (11, .pure), (12, .pure), (13, .turn), (14, .pure), (15, .turn), (16, .pure), (17, .turn), (18, .pure), (19, .turn), (20, .pure), (21, .turn), (22, .pure), (23, .turn)] 24 [0, 1, 2, 3, 4, 5, 6, 7, 8, 9, 10, 11, 12, 13, 14, 15, 16, 17, 18, 19, 20, 21, 22, 23] (by kernel_rfl) (by kernel_rfl) (fun p hp => by rw [List.mem_singleton.1 hp]; exact List.mem_cons_of_mem _ (List.mem_cons_of_mem _ List.mem_cons_self)) ?_
  refine JH (k := 0) rfl rfl rfl rfl rfl (fun _ hS => (Ja rfl rfl (by first | (simp only [Nat.zero_add, Nat.reduceAdd, Nat.reduceMul, Nat.zero_mul, Nat.mul_one, Nat.add_zero]; exact rfl) | exact rfl))) ?_; refine JH (k := 1) rfl rfl rfl rfl rfl (fun _ hS => (Jc rfl (.inl (hS _ (Jw (n := 0) rfl))) rfl rfl)) ?_
  refine JH (k := 2) rfl rfl rfl rfl rfl (fun _ hS => (Ja rfl rfl (by first | (simp only [Nat.zero_add, Nat.reduceAdd, Nat.reduceMul, Nat.zero_mul, Nat.mul_one, Nat.add_zero]; exact rfl) | exact rfl))) ?_; refine JH (k := 3) rfl rfl rfl rfl rfl (fun _ hS => (Jc rfl (.inl (hS _ (Jw (n := 0) rfl))) rfl rfl)) ?_
  refine JH (k := 4) rfl rfl rfl rfl rfl (fun _ hS => (Ja rfl rfl (by first | (simp only [Nat.zero_add, Nat.reduceAdd, Nat.reduceMul, Nat.zero_mul, Nat.mul_one, Nat.add_zero]; exact rfl) | exact rfl))) ?_; refine JH (k := 5) rfl rfl rfl rfl rfl (fun _ hS => (JT (vs := [_, _, _, _]) rfl (.inl (hS _ (Jw (n := 0) rfl))) rfl rfl rfl rfl)) ?_
  refine JH (k := 6) rfl rfl rfl rfl rfl (fun _ hS => (Ja rfl rfl (by first | (simp only [Nat.zero_add, Nat.reduceAdd, Nat.reduceMul, Nat.zero_mul, Nat.mul_one, Nat.add_zero]; exact rfl) | exact rfl))) ?_; refine JH (k := 7) rfl rfl rfl rfl rfl (fun _ hS => (Jc rfl (.inl (hS _ (Jw (n := 0) rfl))) rfl rfl)) ?_
  refine JH (k := 8) rfl rfl rfl rfl rfl (fun _ hS => (Ja rfl rfl (by first | (simp only [Nat.zero_add, Nat.reduceAdd, Nat.reduceMul, Nat.zero_mul, Nat.mul_one, Nat.add_zero]; exact rfl) | exact rfl))) ?_; refine JH (k := 9) rfl rfl rfl rfl rfl (fun _ hS => (JT (vs := [_, _, _, _]) rfl (.inl (hS _ (Jw (n := 0) rfl))) rfl rfl rfl rfl)) ?_
  refine JH (k := 10) rfl rfl rfl rfl rfl (fun _ hS => (Ja rfl rfl (by first | (simp only [Nat.zero_add, Nat.reduceAdd, Nat.reduceMul, Nat.zero_mul, Nat.mul_one, Nat.add_zero]; exact rfl) | exact rfl))) ?_; refine JH (k := 11) rfl rfl rfl rfl rfl (fun _ hS => (JT (vs := [_, _, _, _]) rfl (.inl (hS _ (Jw (n := 0) rfl))) rfl rfl rfl rfl)) ?_
  refine JH (k := 12) rfl rfl rfl rfl rfl (fun _ hS => (Ja rfl rfl (by first | (simp only [Nat.zero_add, Nat.reduceAdd, Nat.reduceMul, Nat.zero_mul, Nat.mul_one, Nat.add_zero]; exact rfl) | exact rfl))) ?_; refine WB (k := 13) (q := 0) (cs' := List.toArray ({ n0 t with chain := t.chain }).cells) rfl rfl rfl rfl rfl rfl rfl rfl rfl (by kernel_rfl) rfl (fun p hp => by rw [List.mem_singleton.1 hp]; exact List.mem_cons_of_mem _ (List.mem_cons_of_mem _ List.mem_cons_self)) ?_
  refine JH (k := 14) rfl rfl rfl rfl rfl (fun _ hS => (Ja rfl rfl (by first | (simp only [Nat.zero_add, Nat.reduceAdd, Nat.reduceMul, Nat.zero_mul, Nat.mul_one, Nat.add_zero]; exact rfl) | exact rfl))) ?_; refine WB (k := 15) (q := 0) (cs' := List.toArray ({ n0 t with chain := t.chain, nonce := t.nonce }).cells) rfl rfl rfl rfl rfl rfl rfl rfl rfl (by kernel_rfl) rfl (fun p hp => by rw [List.mem_singleton.1 hp]; exact List.mem_cons_of_mem _ (List.mem_cons_of_mem _ List.mem_cons_self)) ?_
  refine JH (k := 16) rfl rfl rfl rfl rfl (fun _ hS => (Ja rfl rfl (by first | (simp only [Nat.zero_add, Nat.reduceAdd, Nat.reduceMul, Nat.zero_mul, Nat.mul_one, Nat.add_zero]; exact rfl) | exact rfl))) ?_; refine YZ (k := 17) (q := 0) (n := 4) (vs := #[_, _, _, _]) (cs' := List.toArray ({ n0 t with chain := t.chain, nonce := t.nonce, price := t.price }).cells) rfl rfl rfl rfl rfl rfl rfl rfl rfl (by exact Nat.le_of_ble_eq_true rfl) (by kernel_rfl) rfl (fun p hp => by rw [List.mem_singleton.1 hp]; exact List.mem_cons_of_mem _ (List.mem_cons_of_mem _ List.mem_cons_self)) ?_
  refine JH (k := 18) rfl rfl rfl rfl rfl (fun _ hS => (Ja rfl rfl (by first | (simp only [Nat.zero_add, Nat.reduceAdd, Nat.reduceMul, Nat.zero_mul, Nat.mul_one, Nat.add_zero]; exact rfl) | exact rfl))) ?_; refine WB (k := 19) (q := 0) (cs' := List.toArray ({ n0 t with chain := t.chain, nonce := t.nonce, price := t.price, y := t.y }).cells) rfl rfl rfl rfl rfl rfl rfl rfl rfl (by kernel_rfl) rfl (fun p hp => by rw [List.mem_singleton.1 hp]; exact List.mem_cons_of_mem _ (List.mem_cons_of_mem _ List.mem_cons_self)) ?_
  refine JH (k := 20) rfl rfl rfl rfl rfl (fun _ hS => (Ja rfl rfl (by first | (simp only [Nat.zero_add, Nat.reduceAdd, Nat.reduceMul, Nat.zero_mul, Nat.mul_one, Nat.add_zero]; exact rfl) | exact rfl))) ?_; refine YZ (k := 21) (q := 0) (n := 4) (vs := #[_, _, _, _]) (cs' := List.toArray ({ n0 t with chain := t.chain, nonce := t.nonce, price := t.price, y := t.y, r := t.r }).cells) rfl rfl rfl rfl rfl rfl rfl rfl rfl (by exact Nat.le_of_ble_eq_true rfl) (by kernel_rfl) rfl (fun p hp => by rw [List.mem_singleton.1 hp]; exact List.mem_cons_of_mem _ (List.mem_cons_of_mem _ List.mem_cons_self)) ?_
  refine JH (k := 22) rfl rfl rfl rfl rfl (fun _ hS => (Ja rfl rfl (by first | (simp only [Nat.zero_add, Nat.reduceAdd, Nat.reduceMul, Nat.zero_mul, Nat.mul_one, Nat.add_zero]; exact rfl) | exact rfl))) ?_; refine YZ (k := 23) (q := 0) (n := 4) (vs := #[_, _, _, _]) (cs' := List.toArray ({ n0 t with chain := t.chain, nonce := t.nonce, price := t.price, y := t.y, r := t.r, s := t.s }).cells) rfl rfl rfl rfl rfl rfl rfl rfl rfl (by exact Nat.le_of_ble_eq_true rfl) (by kernel_rfl) rfl (fun p hp => by rw [List.mem_singleton.1 hp]; exact List.mem_cons_of_mem _ (List.mem_cons_of_mem _ List.mem_cons_self)) ?_; refine Qc ?_; refine nK hK6 ?_; refine sQ fun _ hK7 => ?_; refine sR fun _ hK8 => ?_
  refine LR rfl (Ja rfl rfl (by first | (simp only [Nat.zero_add, Nat.reduceAdd, Nat.reduceMul, Nat.zero_mul, Nat.mul_one, Nat.add_zero]; exact rfl) | exact rfl)) ?_; refine LR rfl (Jc rfl (kn 2 rfl) rfl rfl) ?_; refine nK hK8 ?_; refine J3 (sB fun _ hK9 => (sB fun _ hK10 => ?_)); refine sB fun _ hK11 => ?_; refine sQ fun _ hK12 => ?_; refine sQ fun _ hK13 => ?_; refine sR fun _ hK14 => ?_; refine J2 rfl (Jb rfl ?_); refine nK hK14 ?_; refine Jl rfl (fun h15 => ?_) (fun h15 => ?_)
  exact absurd h15 ((by intro h; have := beq_iff_eq.1 h; unfold K012 at hk; omega))
  ·try simp only [ZZ] at h15
   refine Jg (hK13 ?_); refine sQ fun _ hK16 => ?_; refine sR fun _ hK17 => ?_; refine J2 rfl (Jb rfl ?_); refine nK hK17 ?_; refine cD (fun g => ?_) fun g => ?_
   ·refine JL (Jn ?_); refine Jn ?_; refine Q6 rfl (Jn ?_); refine J8 (hK10 ?_); refine Je ?_
    refine LR rfl (Ja rfl rfl (by first | (simp only [Nat.zero_add, Nat.reduceAdd, Nat.reduceMul, Nat.zero_mul, Nat.mul_one, Nat.add_zero]; exact rfl) | exact rfl)) ?_; refine LR rfl (JT (vs := [_, _, _, _]) rfl (kn 2 rfl) rfl rfl rfl rfl) ?_
    refine LR rfl (Ja rfl rfl (by first | (simp only [Nat.zero_add, Nat.reduceAdd, Nat.reduceMul, Nat.zero_mul, Nat.mul_one, Nat.add_zero]; exact rfl) | exact rfl)) ?_; refine Jv (k := 0) (n := 4) (cs' := List.toArray ({ n0 t with chain := t.chain, nonce := t.nonce, price := t.price, y := t.y, r := t.r, s := t.s, tip := t.tip }).cells) (vs := #[_, _, _, _]) rfl rfl rfl rfl rfl rfl rfl (by exact Nat.le_of_ble_eq_true rfl) (by kernel_rfl) rfl ?_; refine Jt ?_; refine Jo (hK9 ?_); refine sR fun _ hK19 => ?_
    refine LR rfl (Ja rfl rfl (by first | (simp only [Nat.zero_add, Nat.reduceAdd, Nat.reduceMul, Nat.zero_mul, Nat.mul_one, Nat.add_zero]; exact rfl) | exact rfl)) ?_; refine LR rfl (Jc rfl (kn 2 rfl) rfl rfl) ?_
    refine LR rfl (Ja rfl rfl (by first | (simp only [Nat.zero_add, Nat.reduceAdd, Nat.reduceMul, Nat.zero_mul, Nat.mul_one, Nat.add_zero]; exact rfl) | exact rfl)) ?_
    (have h2 : t.kind = 2 := by assumption
     refine Ju (k := 0) (cs' := List.toArray ({ n0 t with chain := t.chain, nonce := t.nonce, price := t.price, y := t.y, r := t.r, s := t.s, tip := t.tip, accP := t.accP, acc := t.acc }).cells) rfl rfl rfl rfl rfl rfl rfl rfl (by kernel_rfl) rfl ?_)
    refine nK hK19 ?_; refine JL (J8 (hK7 ?_)); refine sR fun _ hK20 => ?_
    (have h2 : t.kind = 2 := by assumption
     refine LR rfl (Jm (xs := ({ n0 t with chain := t.chain, nonce := t.nonce, price := t.price, y := t.y, r := t.r, s := t.s, tip := t.tip, accP := t.accP, acc := t.acc }).cells) (n := 36) rfl (kn 0 rfl) rfl rfl rfl) ?_)
    refine Js (k := 1) (n := 36) rfl rfl rfl rfl rfl rfl rfl rfl rfl ?_; refine nK hK20 ?_; refine Jd ?_; refine Jp rfl rfl (.cons (J0 (vs := [_, _, _, _, _, _, _, _, _, _, _, _, _, _, _, _, _, _, _, _, _, _, _, _, _, _, _, _, _, _, _, _, _, _, _, _]) rfl (kn 1 rfl) rfl rfl) .nil) (fun w1 hs1 => ?_); refine ⟨congrArg (fun z => Ending.returned (TxL.val z)) ?_, hs1.keep⟩
    unfold jR
    rcases hk with h | h | h <;> first | (simp [h, n0]; done) | (exfalso; omega)
   ·refine Jg (hK16 ?_); refine sR fun _ hK21 => ?_; refine J2 rfl (Jb rfl ?_); refine nK hK21 ?_; refine cD (fun g => ?_) fun g => ?_
    ·refine JL (Jn ?_); refine Q6 rfl (Jn ?_); refine Q6 rfl (Jn ?_); refine J8 (hK9 ?_); refine sR fun _ hK23 => ?_
     refine LR rfl (Ja rfl rfl (by first | (simp only [Nat.zero_add, Nat.reduceAdd, Nat.reduceMul, Nat.zero_mul, Nat.mul_one, Nat.add_zero]; exact rfl) | exact rfl)) ?_; refine LR rfl (Jc rfl (kn 2 rfl) rfl rfl) ?_
     refine LR rfl (Ja rfl rfl (by first | (simp only [Nat.zero_add, Nat.reduceAdd, Nat.reduceMul, Nat.zero_mul, Nat.mul_one, Nat.add_zero]; exact rfl) | exact rfl)) ?_; refine Ju (k := 0) (cs' := List.toArray ({ n0 t with chain := t.chain, nonce := t.nonce, price := t.price, y := t.y, r := t.r, s := t.s, accP := t.accP, acc := t.acc }).cells) rfl rfl rfl rfl rfl rfl rfl rfl (by kernel_rfl) rfl ?_; refine nK hK23 ?_; refine JL (J8 (hK7 ?_)); refine sR fun _ hK24 => ?_
     (have h2 : t.kind = 1 := by assumption
      refine LR rfl (Jm (xs := ({ n0 t with chain := t.chain, nonce := t.nonce, price := t.price, y := t.y, r := t.r, s := t.s, accP := t.accP, acc := t.acc }).cells) (n := 36) rfl (kn 0 rfl) rfl rfl rfl) ?_)
     refine Js (k := 1) (n := 36) rfl rfl rfl rfl rfl rfl rfl rfl rfl ?_; refine nK hK24 ?_; refine Jd ?_; refine Jp rfl rfl (.cons (J0 (vs := [_, _, _, _, _, _, _, _, _, _, _, _, _, _, _, _, _, _, _, _, _, _, _, _, _, _, _, _, _, _, _, _, _, _, _, _]) rfl (kn 1 rfl) rfl rfl) .nil) (fun w1 hs1 => ?_); refine ⟨congrArg (fun z => Ending.returned (TxL.val z)) ?_, hs1.keep⟩
     unfold jR
     rcases hk with h | h | h <;> first | (simp [h, n0]; done) | (exfalso; omega)
    ·refine Jg (hK12 ?_); refine JL (Q6 rfl (Jn ?_)); refine Q6 rfl (Jn ?_); refine Q6 rfl (Jn ?_); refine J8 (hK7 ?_); refine sR fun _ hK25 => ?_; refine LR rfl (Jm (xs := ({ n0 t with chain := t.chain, nonce := t.nonce, price := t.price, y := t.y, r := t.r, s := t.s }).cells) (n := 36) rfl (kn 0 rfl) rfl rfl rfl) ?_; refine Js (k := 1) (n := 36) rfl rfl rfl rfl rfl rfl rfl rfl rfl ?_; refine nK hK25 ?_; refine Jd ?_; refine Jp rfl rfl (.cons (J0 (vs := [_, _, _, _, _, _, _, _, _, _, _, _, _, _, _, _, _, _, _, _, _, _, _, _, _, _, _, _, _, _, _, _, _, _, _, _]) rfl (kn 1 rfl) rfl rfl) .nil) (fun w1 hs1 => ?_); refine ⟨congrArg (fun z => Ending.returned (TxL.val z)) ?_, hs1.keep⟩
     unfold jR
     rcases hk with h | h | h <;> first | (simp [h, n0]; done) | (exfalso; omega)
def yi (r : Nat) : Nat × Obj := (r, .map #[⟨.int .i64 0, .int .i64 9, 0⟩, ⟨.int .i64 1, .int .i64 11, 1⟩, ⟨.int .i64 2, .int .i64 12, 2⟩, ⟨.int .i64 4, .int .i64 13, 3⟩, ⟨.int .i64 126, .int .i64 8, 4⟩] 5)
theorem Zd : PureE (α := Nat) Tryz.prog 50 #[] (fun r => .map (some r)) (fun r => [yi r]) := by
 refine KZ (vs := []) Tryz.func50 rfl rfl fun w => ?_; refine sR fun _ hK1 => ?_; refine Jb rfl ?_; refine nK hK1 ?_; refine sR fun _ hK2 => ?_; refine XR rfl rfl fun rm => ?_; refine Qz (q := 0) (key := .int .i64 0) (val := .int .i64 9) (Ww (t := 3) (by kernel_rfl)) rfl rfl rfl rfl rfl rfl ⟨_, rfl⟩ (by intro e he; simp at he) rfl rfl ?_
 refine Qz (q := 0) (key := .int .i64 1) (val := .int .i64 11) (Ww (t := 3) (by kernel_rfl)) rfl rfl rfl rfl rfl rfl ⟨_, rfl⟩ (by intro e he; simp at he; rcases he with rfl <;> exact ⟨_, rfl⟩) rfl rfl ?_
 refine Qz (q := 0) (key := .int .i64 2) (val := .int .i64 12) (Ww (t := 3) (by kernel_rfl)) rfl rfl rfl rfl rfl rfl ⟨_, rfl⟩ (by intro e he; simp at he; rcases he with rfl | rfl <;> exact ⟨_, rfl⟩) rfl rfl ?_
 refine Qz (q := 0) (key := .int .i64 4) (val := .int .i64 13) (Ww (t := 3) (by kernel_rfl)) rfl rfl rfl rfl rfl rfl ⟨_, rfl⟩ (by intro e he; simp at he; rcases he with rfl | rfl | rfl <;> exact ⟨_, rfl⟩) rfl rfl ?_
 refine Qz (q := 0) (key := .int .i64 126) (val := .int .i64 8) (Ww (t := 3) (by kernel_rfl)) rfl rfl rfl rfl rfl rfl ⟨_, rfl⟩ (by intro e he; simp at he; rcases he with rfl | rfl | rfl | rfl <;> exact ⟨_, rfl⟩) rfl rfl ?_; refine Jb rfl (Jb rfl ?_); refine nK hK2 ?_; refine Jd ?_; refine pT rfl rfl rfl fun w1 hs1 => ?_; exact ⟨rm, rfl, hs1⟩
theorem Jce {R : Jy} {a : AxL} (ha : a.In R) : PureR Tryz.prog 94 [a.val].toArray (.bool (decide (a.keys.length > 16))) R := by
 have hs := ha.seg
 refine Jz Tryz.func94 rfl rfl fun w => ?_; refine sR fun _ hK1 => ?_; refine LN rfl fun r1 => ?_; refine Jb rfl ?_; refine nK hK1 ?_; refine sR fun _ hK2 => ?_
 refine LR rfl (Ja rfl rfl (by first | (simp only [Nat.zero_add, Nat.reduceAdd, Nat.reduceMul, Nat.zero_mul, Nat.mul_one, Nat.add_zero]; exact rfl) | exact rfl)) ?_; refine LR rfl (Jc rfl (kn 0 rfl) rfl rfl) ?_; refine LR rfl (JJ rfl hs rfl) ?_; refine J2 rfl (Jb rfl ?_); refine nK hK2 ?_; refine Jd ?_; refine pT rfl rfl rfl fun w1 hs1 => ?_; exact ⟨congrArg (fun b => Ending.returned (Value.bool b)) (decide_eq_decide.2 (by omega)), hs1.keep⟩
theorem Jfv {t : TxE} (hk : K012 t.kind) (h : t ≠ Y2 t ∨ Qw t = false) : Wx t = 2 := by
 unfold Wx qz; rw [if_neg (by unfold K012 at hk; rcases hk with h | h | h <;> simp [h]), if_pos h]
theorem Jkx {t : TxE} (hk : K012 t.kind) (h : t = Y2 t) (h2 : Qw t = true) (h3 : XN t = true) : Wx t = 5 := by
 unfold Wx qz; rw [if_neg (by unfold K012 at hk; rcases hk with h | h | h <;> simp [h]), if_neg (by rw [h2]; simp [← h]), if_pos h3]
theorem Jn4 {t : TxE} (hk : K012 t.kind) (h : t = Y2 t) (h2 : Qw t = true) (h3 : XN t = false) : Wx t = 0 := by
 unfold Wx qz; rw [if_neg (by unfold K012 at hk; rcases hk with h | h | h <;> simp [h]), if_neg (by rw [h2]; simp [← h]), if_neg (by rw [h3]; simp)]
theorem Jfw {t : TxE} (h : t.data.length > 4096 ∨ t.access.length > 16 ∨ (t.access.any fun a => decide (a.keys.length > 16)) = true ∨ t.auths.length > 8) : XN t = true := by
 unfold XN
 rcases h with h | h | h | h
 ·rw [decide_eq_true h]; rfl
 ·rw [decide_eq_true h]; simp
 ·rw [h]; simp
 ·rw [decide_eq_true h]; simp
theorem Jiw {t : TxE} (h1 : ¬ t.data.length > 4096) (h2 : ¬ t.access.length > 16) (h3 : (t.access.any fun a => decide (a.keys.length > 16)) = false) (h4 : ¬ t.auths.length > 8) : XN t = false := by
 unfold XN
 rw [decide_eq_false h1, decide_eq_false h2, h3, decide_eq_false h4]; rfl
theorem Jfx (l : List AxL) : ((l.map AxL.er).any fun a => decide (a.keys.length > 16)) = l.any fun a => decide (a.keys.length > 16) := by rw [List.any_map]; rfl
theorem WG {R : Jy} {t : TxL} (ht : t.In R) (hk : K012 t.kind) : PureR Tryz.prog 33 [t.val].toArray (.int .i64 (Wx t.er)) R := by
  have hn := Jfu hk
  have hsm := Jiu ht (Jmf ht hk)
  have hke : K012 t.er.kind := hk
  have hkk := Jfx t.acc
  have hseg := ht.accS
  have hseg2 := ht.auS
  rw [hn] at hsm; refine Jz Tryz.func33 rfl rfl fun w => ?_; refine sR fun _ hK1 => ?_; refine JX (cs := List.toArray (t.cells)) rfl rfl rfl rfl fun r0 => ?_; refine Jb rfl ?_; refine nK hK1 ?_; refine sR fun _ hK2 => ?_; refine Jb rfl ?_; refine nK hK2 ?_; refine sB fun _ hK3 => ?_; refine sQ fun _ hK4 => ?_
  refine Km [] [(0, .grow (QY (0 : Nat) (fun r => .map (some r)) (fun r => [yi r]))), (1, .pure), (4, .pure), (5, .pure)] 6 [1, 2, 0, 3, 4, 5] (by kernel_rfl) (by kernel_rfl) (by first | exact (fun _ h => absurd h List.not_mem_nil) | simp [SubS] | (intro p hp; simp [hp])) ?_
  refine JH (k := 1) rfl rfl rfl rfl rfl (fun _ hS => (Ja rfl rfl (by first | (simp only [Nat.zero_add, Nat.reduceAdd, Nat.reduceMul, Nat.zero_mul, Nat.mul_one, Nat.add_zero]; exact rfl) | exact rfl))) ?_; refine Q5 (k := 2) rfl rfl rfl rfl rfl (Jc rfl (kn 0 rfl) rfl rfl) ?_; refine VQ (k := 0) rfl rfl rfl rfl rfl Jb9 Zd fun mr => ?_
  refine Q5 (k := 3) rfl rfl rfl rfl rfl (Vb (v := .int .i64 (qz t.kind : Int)) (Ww (t := 3) (by kernel_rfl)) rfl rfl (kn 0 rfl) rfl rfl ⟨_, rfl⟩ (by intro e he; simp at he; rcases he with rfl | rfl | rfl | rfl | rfl <;> exact ⟨_, rfl⟩) (by rcases hk with h | h | h <;> rw [h] <;> rfl)) ?_; refine JH (k := 4) rfl rfl rfl rfl rfl (fun _ hS => (KC rfl rfl rfl)) ?_; refine JH (k := 5) rfl rfl rfl rfl rfl (fun _ hS => (JY rfl)) ?_; refine Qc ?_; refine nK hK4 ?_; refine Jl rfl (fun h5 => ?_) (fun h5 => ?_)
  · exact absurd h5 ((by intro h; have := beq_iff_eq.1 h; unfold qz K012 at *; rcases hk with h | h | h <;> simp [h] at this))
  · try simp only [ZZ] at h5
    refine sQ fun _ hK6 => ?_; refine Qs 6 (by kernel_rfl) (by kernel_rfl) ?_; refine JD rfl rfl rfl (Jm (xs := t.cells) (n := 36) rfl (kn 1 rfl) rfl rfl rfl) ?_; refine JD rfl rfl rfl (Jm (xs := t.cells) (n := 36) rfl (kn 1 rfl) rfl rfl rfl) ?_; refine VT rfl rfl rfl (enters_of Tryz.func95 (by kernel_rfl) rfl) (Jiv hk) ?_; refine jg rfl rfl rfl (enters_of Tryz.func64 (by kernel_rfl) rfl) hsm oR ?_; refine JD rfl rfl rfl (KC rfl rfl rfl) ?_; refine JD rfl rfl rfl (JG rfl) ?_; refine Q8 ?_
    refine JM 16 rfl (fun gb => ?_) (fun gb => ?_) <;> (try simp only [ZZ] at gb) <;> first | (refine LR rfl (Jm (xs := t.cells) (n := 36) rfl (kn 1 rfl) rfl rfl rfl) ?_) | (refine LK rfl ?_)
    all_goals first | (refine J4 rfl rfl rfl (enters_of Tryz.func96 (by kernel_rfl) rfl) (Jis ht hk) oR ?_) | refine LK rfl ?_
    all_goals first | refine J2 rfl ?_ | refine LK rfl ?_
    all_goals first | refine LR rfl (Jx rfl rfl) ?_ | refine LR rfl (J5 rfl rfl) ?_
    all_goals (
     refine Jb rfl (Jt (hK6 ?_)); refine Jl rfl (fun g => ?_) (fun g => ?_)
     try simp only [ZZ] at g
     refine sR fun _ hK11 => ?_; refine Jb rfl ?_; refine nK hK11 ?_; refine Jd (Jr (Ji ?_)); refine pT rfl rfl rfl fun w1 hs1 => ?_; refine ⟨congrArg (fun z => Ending.returned (Value.int .i64 z)) ?_, hs1.keep⟩
     first | exact (Jfv hke (.inl (by assumption))).symm | exact (Jfv hke (.inr (by assumption))).symm
     · try exact Bool.noConfusion g
       all_goals try simp only [ZZ] at g
       all_goals (
        refine sR fun _ hK12 => ?_
        refine LR rfl (Ja rfl rfl (by first | (simp only [Nat.zero_add, Nat.reduceAdd, Nat.reduceMul, Nat.zero_mul, Nat.mul_one, Nat.add_zero]; exact rfl) | exact rfl)) ?_; refine LR rfl (Jc rfl (kn 1 rfl) rfl rfl) ?_; refine LR rfl (JI rfl rfl) ?_; refine J2 rfl (Jb rfl ?_)
        refine JM 26 rfl (fun gb => ?_) (fun gb => ?_) <;> (try simp only [ZZ] at gb) <;> first | (refine LR rfl (Ja rfl rfl (by first | (simp only [Nat.zero_add, Nat.reduceAdd, Nat.reduceMul, Nat.zero_mul, Nat.mul_one, Nat.add_zero]; exact rfl) | exact rfl)) ?_) | (refine LK rfl ?_)
        all_goals first | refine LR rfl (Jc rfl (kn 1 rfl) rfl rfl) ?_ | refine LK rfl ?_
        all_goals first | refine LR rfl (JJ rfl hseg rfl) ?_ | refine LK rfl ?_
        all_goals first | refine J2 rfl ?_ | refine LK rfl ?_
        all_goals first | refine LR rfl (Jx rfl rfl) ?_ | refine LR rfl (J5 rfl rfl) ?_
        all_goals refine Jb rfl ?_
        all_goals first | refine LK rfl ?_ | (refine JM 32 rfl (fun gb => ?_) (fun gb => ?_) <;> (try simp only [ZZ] at gb) <;> first | (refine LR rfl (Ja rfl rfl (by first | (simp only [Nat.zero_add, Nat.reduceAdd, Nat.reduceMul, Nat.zero_mul, Nat.mul_one, Nat.add_zero]; exact rfl) | exact rfl)) ?_) | (refine LK rfl ?_))
        all_goals first | refine LR rfl (Jc rfl (kn 1 rfl) rfl rfl) ?_ | refine LK rfl ?_
        all_goals first | refine Jb rfl ?_ | refine LK rfl ?_
        all_goals first | (refine J4 rfl rfl rfl (enters_of Tryz.func97 (by kernel_rfl) rfl) (Zu (R := R) (caps := []) (pr := fun a => decide (a.keys.length > 16)) ht.accL ht.accS (enters_of Tryz.func94 (by kernel_rfl) rfl) (fun x hx => Jce (ht.acc x hx))) oR ?_) | refine LK rfl ?_
        all_goals first | refine LR rfl (Jx rfl rfl) ?_ | refine LR rfl (J5 rfl rfl) ?_
        all_goals refine Jb rfl ?_
        all_goals first | refine LK rfl ?_ | (refine JM 38 rfl (fun gb => ?_) (fun gb => ?_) <;> (try simp only [ZZ] at gb) <;> first | (refine LR rfl (Ja rfl rfl (by first | (simp only [Nat.zero_add, Nat.reduceAdd, Nat.reduceMul, Nat.zero_mul, Nat.mul_one, Nat.add_zero]; exact rfl) | exact rfl)) ?_) | (refine LK rfl ?_))
        all_goals first | refine LR rfl (Jc rfl (kn 1 rfl) rfl rfl) ?_ | refine LK rfl ?_
        all_goals first | refine LR rfl (JJ rfl hseg2 rfl) ?_ | refine LK rfl ?_
        all_goals first | refine J2 rfl ?_ | refine LK rfl ?_
        all_goals first | refine LR rfl (Jx rfl rfl) ?_ | refine LR rfl (J5 rfl rfl) ?_
        all_goals (
         refine Jb rfl (Jt (hK12 ?_)); refine Jl rfl (fun g => ?_) (fun g => ?_)
         try simp only [ZZ] at g
         refine sR fun _ hK26 => ?_; refine Jb rfl ?_; refine nK hK26 ?_; refine Jd (Jr (Ji ?_)); refine pT rfl rfl rfl fun w1 hs1 => ?_; refine ⟨congrArg (fun z => Ending.returned (Value.int .i64 z)) ?_, hs1.keep⟩
         (refine (Jkx hke (by assumption) (by assumption) (Jfw ?_)).symm
          show t.data.length > 4096 ∨ (t.acc.map AxL.er).length > 16 ∨ _ ∨ t.auths.length > 8
          rw [List.length_map]
          first | exact .inl (by omega) | exact .inr (.inl (by omega)) | exact .inr (.inr (.inl (hkk.trans (by assumption)))) | exact .inr (.inr (.inr (by omega))))
         · try exact Bool.noConfusion g
           all_goals try simp only [ZZ] at g
           all_goals (
            refine Jg (Jo (hK3 ?_)); refine sR fun _ hK27 => ?_; refine Jb rfl ?_; refine nK hK27 ?_; refine Jd ?_; refine pT rfl rfl rfl fun w1 hs1 => ?_; refine ⟨congrArg (fun z => Ending.returned (Value.int .i64 z)) ?_, hs1.keep⟩
            (refine (Jn4 hke (by assumption) (by assumption) (Jiw ?_ ?_ (hkk.trans (by assumption)) ?_)).symm
             show ¬ t.data.length > 4096; omega
             show ¬ (t.acc.map AxL.er).length > 16; rw [List.length_map]; omega
             show ¬ t.auths.length > 8; omega)
            skip)
         skip)
        skip)
     skip)
section
variable {c : Cx} {l : KK} {L : Jy} {X : XP} {Q : Exit → Act → World → Prop} {d : List Deferred}
variable {ops : Array Oper} {rest : List Oper} {i : Nat} {v : Value} {t : TypeId} {ps : String} {af : Array Edge} {gd : Option (Nat × Bool)} {ty : TypeId}
theorem yj {x y : Operand} {k r e sz b r2 off2 m c2 e2 n cap : Nat} {z : Value} {fr2 : Nat × Nat} {cs2 : Array Value} {news : List Value} {cs : Array Value} {L' : Jy}
  (hg : Kx l ops ⟨some i, .call ⟨.builtin .append, #[x, y], #[t, t]⟩, ty, ps, af, gd⟩ = some true) (hi : Nat.ble (i + 1) c.n = true)
  (hx : Kz l x = some (.slice (some ⟨r, 0, none⟩) n cap)) (hy : Kz l y = some (.slice (some ⟨r2, off2, none⟩) m c2)) (hk2 : known c L r2 (.cells cs2 e2 fr2))
  (ht : KI c.P t = some e) (hz : Qv c.P e = some z) (hs : Qd c.P e = some sz) (hb : qP c.P e = some b)
  (hn : (cs2.toList.drop off2).take (m * sz) = news) (hln : news.length = m * sz) (hone : news.all QX = true)
  (hk : L[k]? = some (r, .cells cs e (0, 0))) (hc : cs.size = cap * sz) (hroom : n + m ≤ cap)
  (hL : L.set k (r, .cells (cs.toList.take (n * sz) ++ news ++ cs.toList.drop (n * sz + m * sz)).toArray e (0, 0)) = L')
  (h : HL c d ((i, .slice (some ⟨r, 0, none⟩) (n + m) cap) :: l) L' X ops rest Q) :
  HL c d l L X ops (⟨some i, .call ⟨.builtin .append, #[x, y], #[t, t]⟩, ty, ps, af, gd⟩ :: rest) Q := by
 obtain ⟨inf, hinf, hz', hs', hb'⟩ := Yi hz hs hb
 subst hs' hb'
 have hone' : ∀ u ∈ news, u.oneCell' = true := fun u hu => by rw [VJ]; exact List.all_eq_true.1 hone u hu
 refine Jc9 hg rfl rfl hi (fun a w hf hst => ?_) h
 have hnews := WP (hst.known hk2) hn
 have hget := hst.get hk
 have hfit : n * inf.size + news.length ≤ cs.size := by rw [hln, hc, ← Nat.add_mul]; exact Nat.mul_le_mul_right _ hroom
 have hr := run_append_room (P := c.P) w t ty e inf (Kj ht) hinf r n cap cs hget ⟨r2, off2, none⟩ m c2 news hln hnews hone' hroom hfit
 refine ⟨w.setRow r (cs.toList.take (n * inf.size) ++ news ++ cs.toList.drop (n * inf.size + news.length)).toArray, ?_, ?_⟩
 ·have ex := hf.eval hx
  have ey := hf.eval hy
  simp [execOp, resolve, Sem.run_bind, ex, ey, Result.andThen, invoke, builtin, hr]
 ·have h1 := hst.set hk (Keep.setRow r (cs.toList.take (n * inf.size) ++ news ++ cs.toList.drop (n * inf.size + news.length)).toArray) (setRow_heap _ _ _ _ _ _ hget)
  rw [← hln] at hL; exact hL ▸ h1
theorem zF {x hi : Operand} {e sz : Nat} {kk : IntKind} (hx : Kz l x = some (.slice none 0 0)) (ht : KI c.P t = some e) (hsz : Qd c.P e = some sz) (hh : Kz l hi = some (.int kk 0)) :
  JP c d l L X ⟨some i, .slice t x none (some hi) none, ty, ps, af, gd⟩ (.slice none 0 0) := fun a w hf _ => by
 have ex := hf.eval hx
 have eh := hf.eval hh
 simp [execOp, ex, eh, Instr.sliceAt, Instr.slice, Sem.run_bind, KO (Kj ht), QG hsz, Result.andThen, Instr.sliceBounds, Instr.sliceBound, asIntOf]
theorem ym {x y : Operand} {e tn sz b m : Nat} {kk : IntKind} {z : Value} {kn : IntKind}
  (hg : Kx l ops ⟨some i, .call ⟨.builtin .append, #[x, y], #[t, tn]⟩, ty, ps, af, gd⟩ = some true) (hi : Nat.ble (i + 1) c.n = true)
  (hx : Kz l x = some (.slice none 0 0)) (hy : Kz l y = some (.int kk (m : Int))) (ht : KI c.P t = some e) (htn : c.P.underlying tn = some (.int kn)) (hz : Qv c.P e = some z) (hs : Qd c.P e = some sz) (hb : qP c.P e = some b) (hzs : z.cells.size = sz) (hsz : 0 < sz)
  (hm : 0 < m) (h63 : m ≤ 9223372036854775807) (h47 : m * b ≤ 140737488355328)
  (h : ∀ r' cap' (Z : List Value), m ≤ cap' → Z.length = cap' * sz → HL c d ((i, .slice (some ⟨r', 0, none⟩) m cap') :: l) ((r', .cells Z.toArray e (0, 0)) :: L) X ops rest Q) :
  HL c d l L X ops (⟨some i, .call ⟨.builtin .append, #[x, y], #[t, tn]⟩, ty, ps, af, gd⟩ :: rest) Q := by
 obtain ⟨inf, hinf, hz', hs', hb'⟩ := Yi hz hs hb
 subst hs' hb'
 refine V7 (α := { p : Nat × Nat × List Value // m ≤ p.2.1 ∧ p.2.2.length = p.2.1 * inf.size }) (V := fun p => .slice (some ⟨p.1.1, 0, none⟩) m p.1.2.1)
  (L' := fun p => (p.1.1, .cells p.1.2.2.toArray e (0, 0)) :: L) (X' := fun _ => X) hg rfl rfl hi (fun a w hf hst => ?_) (fun p => h p.1.1 p.1.2.1 p.1.2.2 p.2.1 p.2.2)
 have ex := hf.eval hx
 have ey := hf.eval hy
 have hold : (Builtin.firstCells inf.size 0 (.slice none 0 0)).run c.P w.drew = .ok ([] : List Value).toArray w.drew := rfl
 have hr := Lib.run_append_grow_zeros (P := c.P) w t tn ty e inf z kk kn (Kj ht) htn hinf hz' none 0 0 [] hold m hm hsz (by omega) (by omega) (by omega) (growslice_fits (by omega) (by rw [Nat.zero_add]; exact h47))
 have hge := grownCap_ge w m 0 e
 simp only [Nat.zero_add] at hr
 obtain ⟨A, hA⟩ : ∃ A, A = (([] : List Value).toArray ++ Builtin.zeroCells z.cells m ++ Builtin.zeroCells z.cells (grownCap w m 0 e - m)) := ⟨_, rfl⟩
 have hAl : A.toList.length = grownCap w m 0 e * inf.size := by
  rw [hA]; simp only [Array.toList_append, List.length_append, List.length_nil, Array.length_toList, size_zeroCells, hzs, Nat.zero_add]; rw [← Nat.add_mul]; congr 1; omega
 rw [← hA] at hr; refine ⟨⟨(w.heap.size, grownCap w m 0 e, A.toList), hge, hAl⟩, w.drew.alloc (.cells A e), ?_, ?_⟩
 ·simp [execOp, resolve, Sem.run_bind, ex, ey, Result.andThen, invoke, builtin, hr]
 ·simp only [Array.toArray_toList]
  exact hst.drew.alloc _
end
theorem XD (a b : List ItL) : JK (a ++ b) = JK a ++ JK b := by unfold JK; rw [List.flatMap_append]
theorem Jfy (xs : List ItL) (sp : List Value) {i : Nat} (h : i ≤ xs.length) : (JK xs ++ sp).take (i * 3) = JK (xs.take i) := by
 have e : JK xs = JK (xs.take i) ++ JK (xs.drop i) := by rw [← XD, List.take_append_drop]
 rw [e, List.append_assoc]; exact List.take_left' (by rw [QU, List.length_take]; omega)
theorem Jfz (xs : List ItL) (sp : List Value) {i : Nat} (h : i ≤ xs.length) : (JK xs ++ sp).drop (i * 3) = JK (xs.drop i) ++ sp := by
 have e : JK xs = JK (xs.take i) ++ JK (xs.drop i) := by rw [← XD, List.take_append_drop]
 rw [e, List.append_assoc]; exact List.drop_left' (by rw [QU, List.length_take]; omega)
theorem Jat (xs : List ItL) : (JK xs).all QX = true := by
 unfold JK; rw [List.all_flatMap]; exact List.all_eq_true.2 fun x _ => ItL.one x
theorem Jmg (xs : List ItL) (i : Nat) : JK (xs.eraseIdx i) = JK (xs.take i) ++ JK (xs.drop (i + 1)) := by rw [List.eraseIdx_eq_take_drop_succ, XD]
theorem yn {xs : List ItL} {i r cap : Nat} {sp : List Value} (hi : i + 1 < xs.length) (hl : xs.length ≤ 1000) (ho : rowOk 3 xs.length (JK xs) (some (r, cap, sp))) :
  PureT (α := { sp' : List Value // rowOk 3 (xs.eraseIdx i).length (JK (xs.eraseIdx i)) (some (r, cap, sp')) }) Tryz.prog 104 [JO xs.length (some (r, cap, sp)), .int .i64 (i : Int), .int .i64 ((i + 1 : Nat) : Int)].toArray
   (fun x => JO (xs.eraseIdx i).length (some (r, cap, x.1))) (Kk 91 (JK xs) (some (r, cap, sp))) (fun x => Kk 91 (JK (xs.eraseIdx i)) (some (r, cap, x.1))) [] := by
 have hel : (xs.eraseIdx i).length = xs.length - 1 := by rw [List.length_eraseIdx, if_pos (by omega)]
 have hol := ho.2
 have hxl := QU xs
 obtain ⟨W, hW⟩ : ∃ W, W = (JK xs ++ sp).drop (i * 3 + (xs.length - (i + 1)) * 3) := ⟨_, rfl⟩
 have hWl : W.length = 3 + sp.length := by rw [hW, List.length_drop, List.length_append, hxl]; omega
 have hc1 : (JK xs ++ sp).take (i * 3) ++ JK (xs.drop (i + 1)) ++ (JK xs ++ sp).drop (i * 3 + (xs.length - (i + 1)) * 3) = JK (xs.eraseIdx i) ++ W := by
  rw [Jfy xs sp (by omega), Jmg, ← hW]
 have hnew : ((JK xs ++ sp).drop ((i + 1) * 3)).take ((xs.length - (i + 1)) * 3) = JK (xs.drop (i + 1)) := by
  rw [Jfz xs sp (by omega)]; exact List.take_left' (by rw [QU, List.length_drop])
 have hc2 : (JK (xs.eraseIdx i) ++ W).take ((xs.length - 1) * 3) ++ [Value.bool false, .string ⟨#[]⟩, .slice none 0 0] ++ (JK (xs.eraseIdx i) ++ W).drop ((xs.length - 1) * 3 + 1 * 3) = JK (xs.eraseIdx i) ++ ([Value.bool false, .string ⟨#[]⟩, .slice none 0 0] ++ W.drop 3) := by
  rw [List.take_left' (by rw [QU, hel]), ← List.drop_drop, List.drop_left' (by rw [QU, hel])]; simp
 have hA : (JK (xs.eraseIdx i) ++ W).length = cap * 3 := by rw [List.length_append, QU, hel, hWl]; omega
 refine J1 Tryz.func104 rfl rfl fun w => ?_; refine sR fun _ hK1 => ?_; refine Jb rfl ?_; refine nK hK1 ?_; refine sR fun _ hK2 => ?_; refine Jb rfl (Jb rfl ?_); refine Jb rfl (Jb rfl (LR rfl (KD rfl rfl) ?_)); refine LR rfl (V2 (sz := 3) (m := i) (kl := some i) (kh := some (i + 1)) (km := some xs.length) (q := i + 1) (z := xs.length) (off' := i * 3) rfl rfl rfl ⟨_, rfl⟩ ⟨_, rfl⟩ ⟨_, rfl⟩ rfl rfl rfl (by omega) (by omega) (by omega) (fun h => by cases h) (by rw [if_neg (by omega)]; omega)) ?_; refine nK hK2 ?_; refine sQ fun _ hK3 => ?_; refine sR fun _ hK4 => ?_; refine Jb rfl (Jb rfl (J2 rfl ?_)); refine nK hK4 ?_; refine Jl rfl (fun h5 => ?_) (fun h5 => ?_)
 exact absurd h5 ((by intro h; have := beq_iff_eq.1 h; omega))
 ·try simp only [ZZ] at h5
  refine Jg (hK3 ?_); refine sR fun _ hK6 => ?_; refine Jb rfl (LR rfl (KD rfl rfl) (Jb rfl ?_)); refine nK hK6 ?_; refine sQ fun _ hK7 => ?_; refine Qs 6 (by kernel_rfl) (by kernel_rfl) ?_; refine JD rfl rfl rfl (JG rfl) ?_; refine JD rfl rfl rfl (JG rfl) ?_
  refine JD rfl rfl rfl (V2 (sz := 3) (m := 0) (kl := none) (kh := some i) (km := none) (q := i) (z := cap) (off' := 0) rfl rfl rfl trivial ⟨_, rfl⟩ trivial rfl rfl rfl (by omega) (by omega) (by omega) (fun h => by cases h) (by split <;> omega)) ?_; refine JD rfl rfl rfl (JG rfl) ?_; refine JD rfl rfl rfl (JG rfl) ?_; refine JD rfl rfl rfl (V2 (sz := 3) (m := i + 1) (kl := some (i + 1)) (kh := none) (km := none) (q := xs.length) (z := cap) (off' := (i + 1) * 3) rfl rfl rfl ⟨_, rfl⟩ trivial trivial rfl rfl rfl (by omega) (by omega) (by omega) (fun _ => rfl) (by rw [if_neg (by omega)]; omega)) ?_; refine Q8 ?_; refine yj (k := 0) (n := i - 0) (m := xs.length - (i + 1)) (sz := 3) (b := 48) (news := JK (xs.drop (i + 1))) (L' := [(r, .cells (JK (xs.eraseIdx i) ++ W).toArray 91 (0, 0))]) rfl rfl rfl rfl (kn 0 rfl) rfl rfl rfl rfl hnew (by rw [QU, List.length_drop]) (Jat _) rfl (by show (JK xs ++ sp).length = _; rw [List.length_append, hxl]; omega) (by omega) (by show [(r, Obj.cells _ _ _)] = _; rw [← hc1]; rfl) ?_; refine Jb rfl ?_; refine nK hK7 ?_; refine sR fun _ hK8 => ?_; refine Jb rfl (Jb rfl (LR rfl (KD (n := i - 0 + (xs.length - (i + 1))) rfl rfl) ?_)); refine JA (show _ = Value.int .i64 ((xs.length - 1 : Nat) : Int) from congrArg (Value.int .i64) (by omega)) ?_; refine Jb rfl ?_; refine LR rfl (V2 (sz := 3) (m := xs.length - 1) (kl := some (xs.length - 1)) (kh := some xs.length) (km := none) (q := xs.length) (z := cap) (off' := (xs.length - 1) * 3) rfl rfl rfl ⟨_, rfl⟩ ⟨_, rfl⟩ trivial rfl rfl rfl (by omega) (by omega) (by omega) (fun h => by cases h) (by rw [if_neg (by omega)]; omega)) ?_; refine Jbz (k := 0) (sz := 3) (cs' := JK (xs.eraseIdx i) ++ ([Value.bool false, .string ⟨#[]⟩, .slice none 0 0] ++ W.drop 3)) rfl rfl rfl rfl rfl rfl rfl (by decide) (by show _ ≤ (JK (xs.eraseIdx i) ++ W).length; omega) (by rw [show xs.length - (xs.length - 1) = 1 from by omega, jq]; exact hc2) rfl ?_; refine nK hK8 ?_; refine sR fun _ hK9 => ?_; refine Jb rfl (Jb rfl ?_); refine nK hK9 ?_; refine Jd ?_; refine pT rfl rfl rfl fun w1 hs1 => ?_; exact ⟨⟨_, by rw [QU], by rw [hel]; simp only [List.length_append, List.length_cons, List.length_nil, List.length_drop, hWl]; omega⟩, congrArg (fun n => Ending.returned (Value.slice (some ⟨r, 0, none⟩) n cap)) (by rw [hel]; omega), hs1⟩
theorem Jix {n : Nat} (hn : 0 < n) (hl : n ≤ 1000) : PureT (α := { p : Nat × Nat × List Value // n ≤ p.2.1 ∧ p.2.2.length = p.2.1 * 3 }) Tryz.prog 191 [.slice none 0 0, .int .i64 (n : Int)].toArray
  (fun p => .slice (some ⟨p.1.1, 0, none⟩) 0 p.1.2.1) [] (fun p => [(p.1.1, .cells p.1.2.2.toArray 91 (0, 0))]) [] := by
 refine J1 Tryz.func191 rfl rfl fun w => ?_; refine sR fun _ hK1 => ?_; refine Jb rfl ?_; refine nK hK1 ?_; refine sQ fun _ hK2 => ?_; refine sR fun _ hK3 => ?_; refine Jb rfl (J2 rfl ?_); refine nK hK3 ?_; refine Jl rfl (fun h4 => ?_) (fun h4 => ?_)
 exact absurd h4 ((by intro h; have := of_decide_eq_true h; omega))
 ·try simp only [ZZ] at h4
  refine Jg (hK2 ?_); refine sQ fun _ hK5 => ?_; refine sR fun _ hK6 => ?_; refine Jb rfl (Jb rfl (LR rfl (xX rfl rfl) ?_)); refine Jb rfl (LR rfl (KD rfl rfl) ?_)
  refine J2 rfl ?_; refine JA (show _ = Value.int .i64 ((0 : Nat) : Int) from by rw [wrap_i64 (by omega) (by omega)]; congr 1 <;> omega) ?_
  refine J2 rfl ?_; refine JA (show _ = Value.int .i64 ((n : Nat) : Int) from by rw [wrap_i64 (by omega) (by omega)]; congr 1 <;> omega) ?_; refine Jb rfl ?_; refine nK hK6 ?_; refine sR fun _ hK7 => ?_; refine Jb rfl (J2 rfl ?_); refine nK hK7 ?_; refine Jl rfl (fun h8 => ?_) (fun h8 => ?_)
  ·try simp only [ZZ] at h8
   refine Je (Jb rfl ?_); refine Jb rfl (LR rfl (xX rfl rfl) (LR rfl (zF rfl rfl rfl rfl) ?_)); refine Jb rfl (ym (m := n) (sz := 3) (b := 48) rfl rfl rfl rfl rfl rfl rfl rfl rfl rfl (by decide) hn (by omega) (by omega) fun r cap Z h1 h2 => ?_); refine Jb rfl (LR rfl (KD rfl rfl) ?_)
   refine LR rfl (V2 (sz := 3) (m := 0) (kl := none) (kh := some 0) (km := none) (q := 0) (z := cap) (off' := 0) rfl rfl rfl trivial ⟨_, rfl⟩ trivial rfl rfl rfl (by omega) (by omega) (by omega) (fun h => by cases h) (by split <;> omega)) ?_; refine Jb rfl ?_; refine nK hK5 ?_; refine sR fun _ hK9 => ?_; refine Jb rfl (Jb rfl ?_); refine nK hK9 ?_; refine Jd ?_; refine pT rfl rfl rfl fun w1 hs1 => ?_; exact ⟨⟨(r, cap, Z), h1, h2⟩, rfl, hs1⟩
  ·exact absurd h8 ((by intro h; have := of_decide_eq_false h; omega))
def Jn5 (xs ys : List ItL) (rr ra rb : Nat) : Jy := [(rr, .cells #[ZI xs.length ra, ZI ys.length rb] 89 (0, 0)), (ra, .cells (JK xs).toArray 91 (0, 0)), (rb, .cells (JK ys).toArray 91 (0, 0))]
def Xa (xs ys : List ItL) (i : Nat) : List ItL := if i = 0 then [] else if i = 1 then xs else xs ++ ys
def ZD (xs ys : List ItL) (i : Nat) : List ItL := if i = 0 then xs else ys
def Jiy (ra rb i : Nat) : Nat := if i = 0 then ra else rb
theorem yo (xs ys : List ItL) {i : Nat} (h : i < 2) : Xa xs ys (i + 1) = Xa xs ys i ++ ZD xs ys i := by
 rcases (show i = 0 ∨ i = 1 by omega) with rfl | rfl
 ·simp [Xa, ZD]
 ·simp [Xa, ZD]
theorem Jf0 {xs ys : List ItL} (hx : 0 < xs.length) (hy : 0 < ys.length) (hxl : xs.length ≤ 100) (hyl : ys.length ≤ 100) (rr ra rb : Nat) :
  PureT (α := { row : QH // rowOk 3 (xs ++ ys).length (JK (xs ++ ys)) row }) Tryz.prog 100 [ZI 2 rr].toArray (fun x => JO (xs ++ ys).length x.1) [] (fun x => Kk 91 (JK (xs ++ ys)) x.1) (Jn5 xs ys rr ra rb) := by
 have hla : (xs ++ ys).length = xs.length + ys.length := List.length_append
 have hst : ∀ i, i < 2 → (Xa xs ys (i + 1)).length = (Xa xs ys i).length + (ZD xs ys i).length := fun i h => by rw [yo xs ys h, List.length_append]
 have hcl : ∀ i, (Xa xs ys i).length ≤ 200 := fun i => by unfold Xa; split; simp; split <;> omega
 have hpl : ∀ i, 0 < (ZD xs ys i).length ∧ (ZD xs ys i).length ≤ 100 := fun i => by unfold ZD; split <;> omega
 have hld : ∀ i, i < 2 → WM [ZI xs.length ra, ZI ys.length rb] i = some (ZI (ZD xs ys i).length (Jiy ra rb i)) := fun i h => by rcases (show i = 0 ∨ i = 1 by omega) with rfl | rfl <;> rfl
 have hkn : ∀ (L0 : Jy) (w : World) (n i : Nat), i < 2 → known (wy Tryz.prog w [] (Jn5 xs ys rr ra rb) n) L0 (Jiy ra rb i) (.cells (JK (ZD xs ys i)).toArray 91 (0, 0)) := fun L0 w n i h => by
  rcases (show i = 0 ∨ i = 1 by omega) with rfl | rfl
  exact Kg (k := 1) rfl
  exact Kg (k := 2) rfl
 refine J1 Tryz.func100 rfl rfl fun w => ?_; refine sR fun _ hK1 => ?_; refine Jb rfl ?_; refine nK hK1 ?_; refine sR fun _ hK2 => ?_; refine Jb rfl ?_; refine nK hK2 ?_; refine sQ fun _ hK3 => ?_; refine sR fun _ hK4 => ?_; refine Jb rfl (LR rfl (KD rfl rfl) (Jb rfl ?_)); refine nK hK4 ?_; refine J3 (JS (σ := Nat) (fun i => i ≤ 2) (fun i => [(0, ZI 2 rr), (2, .slice none 0 0), (3, .int .i64 ((Xa xs ys i).length : Int)), (9, ZI 2 rr), (10, .int .i64 2), (11, .int .i64 (i : Int))]) (fun _ => []) (fun _ _ _ => True) (fun i => 2 - i) 0 (Nat.zero_le _) (lK rfl) (List.nil_sublist _) (fun _ _ h => h) ?_); rintro i hi1; refine sR fun _ hK5 => ?_; refine J2 rfl ?_; refine nK hK5 ?_; refine sQ fun _ hK6 => ?_; refine cD (fun h7 => ?_) fun h7 => ?_
 ·refine Jg (hK6 ?_); refine sB fun _ hK8 => ?_; refine sR fun _ hK9 => ?_; refine LR rfl (QE (m := 1) (j := i) (off' := i) rfl rfl rfl rfl rfl (by omega) (by omega)) ?_; refine LR rfl (Jc (v := ZI (ZD xs ys i).length (Jiy ra rb i)) rfl (Kg (k := 0) rfl) rfl (hld i (by omega))) ?_; refine Jb rfl ?_; refine nK hK9 ?_; refine sR fun _ hK10 => ?_; refine Jb rfl (Jb rfl (LR rfl (KD rfl rfl) ?_))
  have hs2 := hst i (by omega)
  have hc2 := hcl (i + 1)
  refine J2 rfl ?_; refine JA (show _ = Value.int .i64 (((Xa xs ys (i + 1)).length : Nat) : Int) from by rw [wrap_i64 (by omega) (by omega)]; congr 1 <;> omega) ?_; refine Jb rfl ?_; refine nK hK10 ?_; refine sR fun _ hK11 => ?_; refine Jb rfl (J2 rfl ?_); refine nK hK11 ?_; refine Jl rfl (fun h12 => ?_) (fun h12 => ?_)
  exact absurd h12 ((by intro h; have := of_decide_eq_true h; omega))
  ·try simp only [ZZ] at h12
   refine Jg (Jo (hK8 ?_)); refine Je ?_
   refine J2 rfl ?_; refine JA (show _ = Value.int .i64 ((i + 1 : Nat) : Int) from by rw [wrap_i64 (by omega) (by omega)]; congr 1 <;> omega) ?_; refine Jb rfl (Jt (JU ?_)); exact JN (i + 1) (by omega) (by omega) (lK rfl) (List.nil_sublist _) (fun _ _ h => h)
 ·refine JL (Jn ?_); refine Jn (J8 (hK3 ?_)); refine sR fun _ hK13 => ?_; refine Jb rfl ?_
  have hi2 : i = 2 := by omega
  refine J9 (T := []) (L0 := []) (Rl := []) (List.Perm.refl _) rfl rfl rfl (enters_of Tryz.func191 (by kernel_rfl) rfl) (Jix (n := (Xa xs ys i).length) (by rw [hi2]; show 0 < (xs ++ ys).length; omega) (by have := hcl i; omega)) oN fun g => ?_
  obtain ⟨⟨rg, cg, Zg⟩, hg1, hg2⟩ := g
  simp only at hg1 hg2; refine Jb rfl ?_; refine nK hK13 ?_; refine sQ fun _ hK14 => ?_; refine sR fun _ hK15 => ?_; refine Jb rfl (LR rfl (KD rfl rfl) (Jb rfl ?_)); refine nK hK15 ?_; refine J3 ?_; refine JS (σ := Nat × Nat × Nat × List Value) (fun q => q.1 ≤ 2 ∧ rowOk 3 (Xa xs ys q.1).length (JK (Xa xs ys q.1)) (some (q.2.1, q.2.2.1, q.2.2.2))) (fun q => [(0, ZI 2 rr), (6, JO (Xa xs ys q.1).length (some (q.2.1, q.2.2.1, q.2.2.2))), (25, ZI 2 rr), (26, .int .i64 2), (27, .int .i64 (q.1 : Int))]) (fun q => Kk 91 (JK (Xa xs ys q.1)) (some (q.2.1, q.2.2.1, q.2.2.2))) (fun _ _ _ => True) (fun q => 2 - q.1) (0, rg, cg, Zg) ⟨Nat.zero_le _, rfl, by show 0 * 3 + Zg.length = cg * 3; omega⟩ (lK rfl) (List.Sublist.refl _) (fun _ _ h => h) ?_; rintro ⟨j, rj, cj, sj⟩ ⟨hj1, hrow⟩; simp only at hj1 hrow; change HC _ _ [(0, ZI 2 rr), (6, JO (Xa xs ys j).length (some (rj, cj, sj))), (25, ZI 2 rr), (26, .int .i64 2), (27, .int .i64 (j : Int))] (Kk 91 (JK (Xa xs ys j)) (some (rj, cj, sj))) _ _ _; refine sR fun _ hK16 => ?_; refine J2 rfl ?_; refine nK hK16 ?_; refine sQ fun _ hK17 => ?_; refine cD (fun h18 => ?_) fun h18 => ?_
  ·refine Jg (hK17 ?_); refine sB fun _ hK19 => ?_; refine sR fun _ hK20 => ?_; refine LR rfl (QE (m := 1) (j := j) (off' := j) rfl rfl rfl rfl rfl (by omega) (by omega)) ?_; refine LR rfl (Jc (v := ZI (ZD xs ys j).length (Jiy ra rb j)) rfl (Kg (k := 0) rfl) rfl (hld j (by omega))) ?_; refine Jb rfl ?_; refine nK hK20 ?_; refine Je (Jb rfl (Jb rfl ?_))
   have hs2 := hst j (by omega)
   have hc2 := hcl (j + 1)
   have hp2 := hpl j
   refine Kh (L0 := []) (xs := JK (Xa xs ys j)) (row := some (rj, cj, sj)) (n := (Xa xs ys j).length) (sz := 3) (b := 48) (news := JK (ZD xs ys j)) (List.Perm.refl _) rfl rfl rfl rfl (hkn _ _ _ j (by omega)) rfl rfl rfl rfl rfl (by decide) (by rw [List.drop_zero]; exact List.take_of_length_le (by rw [QU]; exact Nat.le_refl _)) (QU _) (Jat _) hp2.1 hrow (by omega) (by omega) fun ra2 cap2 sp2 hra => ?_; refine Jb rfl (Jt ?_); refine Jo (hK19 ?_); refine Je ?_
   refine J2 rfl ?_; refine JA (show _ = Value.int .i64 ((j + 1 : Nat) : Int) from by rw [wrap_i64 (by omega) (by omega)]; congr 1 <;> omega) ?_; refine Jb rfl (Jt (JU ?_)); rw [← XD, ← yo xs ys (by omega)] at hra ⊢; rw [← hs2] at hra ⊢; exact JN (j + 1, ra2, cap2, sp2) ⟨by simp only; omega, hra⟩ (by simp only; omega) (lK rfl) (List.Sublist.refl _) (fun _ _ h => h)
  ·refine JL (Jn ?_); refine Jn (J8 (hK14 ?_)); refine sR fun _ hK21 => ?_; refine Jb rfl (Jb rfl ?_); refine nK hK21 ?_; refine Jd ?_; refine pT rfl rfl rfl fun w1 hs1 => ?_
   have hj2 : j = 2 := by omega
   subst hj2; exact ⟨⟨some (rj, cj, sj), hrow⟩, rfl, hs1⟩
def Wf (r n : Nat) (xs : List ItL) : ItL := .mk true [] (some (⟨r, 0, none⟩, n)) xs
theorem Xy {R : Jy} {r : Nat} {xs : List ItL} (hl : xs.length ≤ 1000000) (hr : (r, Obj.cells (JK xs).toArray 91 (0, 0)) ∈ R) (hx : ∀ x ∈ xs, x.In R) : (Wf r xs.length xs).In R :=
 .mk (by simp) hl ⟨Nat.le_refl _, fun _ => ⟨rfl, _, _, _, hr, by rw [List.drop_zero]; exact List.take_of_length_le (Nat.le_refl _)⟩⟩ hx
theorem Xz (r n : Nat) (xs : List ItL) : (Wf r n xs).er = KG (xs.map ItL.er) := by unfold Wf; rw [ItL.er]; rfl
def Jmh {l : List BS} (hl : l.length ≤ 1000000) (hb : ∀ s ∈ l, s.length ≤ 1000000) : ItN (QZ l) :=
 ⟨Wf 0 (l.map Jj).length (l.map Jj), [(0, .cells (JK (l.map Jj)).toArray 91 (0, 0))], Xy (by rw [List.length_map]; exact hl) List.mem_cons_self (fun x hx => by obtain ⟨s, hs, rfl⟩ := List.mem_map.1 hx; exact KX (hb s hs)), by rw [Xz, wX]; rfl⟩
structure AxS (a : AxL) : Prop where
  addr : a.addr.length ≤ 1000000
  len : a.keys.length ≤ 100000
  keys : ∀ s ∈ a.keys, s.length ≤ 1000000
theorem Jiz {α : Type} [DecidableEq α] (a b c d e : α) (Y P F : List α) : (a :: b :: (Y ++ (c :: d :: e :: (P ++ F)))).Perm (P ++ (a :: b :: c :: d :: e :: (Y ++ F))) := by
 rw [List.perm_iff_count]; intro x; simp only [List.count_append, List.count_cons]; omega
theorem Ji0 {α : Type} [DecidableEq α] (ra a b c d e : α) (Z : List α) : (ra :: a :: b :: c :: d :: e :: Z).Perm (d :: e :: ra :: b :: (Z ++ [a, c])) := by
 rw [List.perm_iff_count]; intro x; simp only [List.count_append, List.count_cons, List.count_nil]; omega
structure PairS (l : List AxL) (i : Nat) (row : QH) (its : List ItL) (F : Jy) : Prop where
  le : i ≤ l.length
  ok : rowOk 3 i (JK its) row
  len : its.length = i
  er : its.map ItL.er = (l.take i).map fun a => j5 a.er
  inn : ∀ x ∈ its, x.In F
open Classical in
theorem Ji1 {R : Jy} {l : List AxL} {p : Pl} (hl : l.length ≤ 100000) (hs : Seg R l.length (l.flatMap AxL.cells) p) (hin : ∀ a ∈ l, a.In R) (hsm : ∀ a ∈ l, AxS a) :
  PureT (α := ItN (KG ((l.map AxL.er).map j5))) Tryz.prog 102 [Ky l.length p].toArray (fun y => y.x.val) [] (fun y => y.L) R := by
 refine J1 Tryz.func102 rfl rfl fun w => ?_; refine sR fun _ hK1 => ?_; refine LN rfl fun r1 => ?_; refine nK hK1 ?_; refine sR fun _ hK2 => ?_; refine JC rfl rfl rfl Jb7 (Zb none 0 0) ?_; refine LN rfl fun r2 => ?_
 refine Jv (k := 0) (n := 3) (cs' := #[_, _, _]) (vs := #[_, _, _]) rfl rfl rfl rfl rfl rfl rfl (by exact Nat.le_of_ble_eq_true rfl) rfl (by first | (simp only [List.set_cons_zero, List.set_cons_succ]; exact rfl) | exact rfl) ?_; refine nK hK2 ?_; refine sQ fun _ hK3 => ?_; refine sR fun _ hK4 => ?_; refine Jb rfl (LR rfl (JJ rfl hs rfl) (Jb rfl ?_)); refine nK hK4 ?_; refine J3 (JS (σ := Nat × QH × List ItL × Jy) (fun q => PairS l q.1 q.2.1 q.2.2.1 q.2.2.2) (fun q => [(2, Kw r1), (3, Kw r2), (7, Ky l.length p), (8, .int .i64 (l.length : Int)), (9, .int .i64 (q.1 : Int))]) (fun q => (r2, .cells #[.bool true, Jq [], JO q.1 q.2.1] 91 (0, 0)) :: (r1, .cells #[.bool false, Jq [], .slice none 0 0] 91 (0, 0)) :: (Kk 91 (JK q.2.2.1) q.2.1 ++ q.2.2.2)) (fun _ _ _ => True) (fun q => l.length - q.1) (0, none, [], []) ⟨Nat.zero_le _, ⟨rfl, rfl⟩, rfl, rfl, fun _ h => nomatch h⟩ (lK rfl) (List.Sublist.refl _) (fun _ _ h => h) ?_); rintro ⟨i, row, its, F⟩ hP; simp only at hP; change HC _ _ [(2, Kw r1), (3, Kw r2), (7, Ky l.length p), (8, .int .i64 (l.length : Int)), (9, .int .i64 (i : Int))] ((r2, .cells #[.bool true, Jq [], JO i row] 91 (0, 0)) :: (r1, .cells #[.bool false, Jq [], .slice none 0 0] 91 (0, 0)) :: (Kk 91 (JK its) row ++ F)) _ _ _
 have hle := hP.le
 refine sR fun _ hK5 => ?_; refine J2 rfl ?_; refine nK hK5 ?_; refine sQ fun _ hK6 => ?_; refine cD (fun g => ?_) fun g => ?_
 ·refine Jg (hK6 ?_); refine sB fun _ hK8 => ?_; refine sQ fun _ hK9 => ?_
  obtain ⟨a, ha, hma⟩ := QA (show i < l.length by omega)
  have hle := hP.le
  refine Je ?_
  refine LR rfl (JB (j := i) rfl hs rfl rfl rfl (by first | rfl | omega) (by omega)) ?_; refine LR rfl (Kt AxL.len oR rfl hs ha rfl rfl) ?_; refine LN rfl fun r5 => ?_; refine Js (k := 0) (n := 2) (ys := a.cells) rfl rfl rfl rfl rfl rfl rfl rfl rfl ?_; refine nK hK9 ?_; refine Km [(r2, .cells #[.bool true, Jq [], JO i row] 91 (0, 0))] [(0, .pure), (1, .pure), (2, .pure), (4, .pure), (5, .pure), (7, .grow (QY (Jmh (l := a.keys) (Nat.le_trans (hsm a hma).len (by decide)) (hsm a hma).keys) (fun y => y.x.val) (fun y => y.L))), (8, .dep [17, 20] (XL 2 91)), (9, .pure), (10, .dep [22] (XL 1 91))] 11 [0, 1, 2, 3, 4, 5, 6, 7, 8, 9, 10] (by kernel_rfl) (by kernel_rfl) (fun q hq => by rw [List.mem_singleton.1 hq]; exact List.mem_cons_of_mem _ List.mem_cons_self) ?_
  refine JH (k := 0) rfl rfl rfl rfl rfl (fun _ hS => (Ja rfl rfl (by first | (simp only [Nat.zero_add, Nat.reduceAdd, Nat.reduceMul, Nat.zero_mul, Nat.mul_one, Nat.add_zero]; exact rfl) | exact rfl))) ?_; refine JH (k := 1) rfl rfl rfl rfl rfl (fun _ hS => (Jc rfl (.inl (hS _ (Jw (n := 0) rfl))) rfl rfl)) ?_
  refine JH (k := 2) rfl rfl rfl rfl rfl (fun _ hS => (Ja rfl rfl (by first | (simp only [Nat.zero_add, Nat.reduceAdd, Nat.reduceMul, Nat.zero_mul, Nat.mul_one, Nat.add_zero]; exact rfl) | exact rfl))) ?_; refine Q5 (k := 3) rfl rfl rfl rfl rfl (Jc rfl (kn 0 rfl) rfl rfl) ?_; refine Kf (k := 4) rfl rfl rfl rfl rfl jP (Wz a.addr) ?_
  refine JH (k := 5) rfl rfl rfl rfl rfl (fun _ hS => (Ja rfl rfl (by first | (simp only [Nat.zero_add, Nat.reduceAdd, Nat.reduceMul, Nat.zero_mul, Nat.mul_one, Nat.add_zero]; exact rfl) | exact rfl))) ?_; refine Q5 (k := 6) rfl rfl rfl rfl rfl (Jc rfl (kn 0 rfl) rfl rfl) ?_; refine VR (k := 7) rfl rfl rfl rfl rfl (enters_of Tryz.func40 (by kernel_rfl) rfl) (Jan (hsm a hma).len (hin a hma).seg (hsm a hma).keys) (fun q hq => .inr hq) fun y => ?_
  obtain ⟨⟨yl, yb, yp, yxs⟩, yL, yh, ye⟩ := y
  refine Ku (k := 8) (dv := [_, _]) (n := 2) (sz := 3) (vs := [_, _]) (zs := [_, _, _, _, _, _]) (r := JK [Jj a.addr, (ItL.mk yl yb yp yxs)]) rfl rfl rfl rfl rfl rfl rfl rfl rfl rfl rfl rfl rfl (by rw [Qo]; exact rfl) rfl fun rb2 => ?_; refine Kf (k := 9) rfl rfl rfl rfl rfl Jb7 (Zb (some ⟨rb2, 0, none⟩) 2 2) ?_; refine Ku (k := 10) (dv := [_]) (n := 1) (sz := 3) (vs := [_]) (zs := [_, _, _]) (r := (Wf rb2 2 [Jj a.addr, (ItL.mk yl yb yp yxs)]).cells) rfl rfl rfl rfl rfl rfl rfl rfl rfl rfl rfl rfl rfl (by rw [Qo]; exact rfl) rfl fun rb1 => ?_; refine Qc ?_; refine Kh (L0 := (rb1, _) :: (rb2, _) :: (r5, _) :: (r2, _) :: (r1, _) :: (yL ++ F)) (xs := JK its) (row := row) (n := i) (sz := 3) (b := 48) (news := (Wf rb2 2 [Jj a.addr, (ItL.mk yl yb yp yxs)]).cells) (Jiz _ _ _ _ _ _ _ _) rfl rfl rfl rfl (kn 0 rfl) rfl rfl rfl rfl rfl (by decide) rfl rfl rfl (by decide) hP.ok (by omega) (by omega) fun ra cap sp hra => ?_
  refine LR rfl (Ja rfl rfl (by first | (simp only [Nat.zero_add, Nat.reduceAdd, Nat.reduceMul, Nat.zero_mul, Nat.mul_one, Nat.add_zero]; exact rfl) | exact rfl)) ?_; refine Ju (k := 4) (cs' := #[.bool true, Jq [], JO (i + 1) (some (ra, cap, sp))]) rfl rfl rfl rfl rfl rfl rfl rfl rfl rfl ?_; refine Jt ?_; refine Jo (hK8 ?_); refine Je ?_
  refine J2 rfl ?_; refine JA (show _ = Value.int .i64 ((i + 1 : Nat) : Int) from by rw [wrap_i64 (by omega) (by omega)]; congr 1 <;> omega) ?_; refine Jb rfl (Jt (JU ?_)); refine Wm (Ji0 _ _ _ _ _ _ _) ?_
  have hnew : ∀ x ∈ its ++ [Wf rb2 2 [Jj a.addr, (ItL.mk yl yb yp yxs)]], x.In ((rb2, Obj.cells (JK [Jj a.addr, (ItL.mk yl yb yp yxs)]).toArray 91 (0, 0)) :: (yL ++ F)) := fun x hx => by
   rcases List.mem_append.1 hx with hx | hx
   exact (hP.inn x hx).mono fun q hq => List.mem_cons_of_mem _ (List.mem_append_right _ hq)
   rw [List.mem_singleton.1 hx]
   refine Xy (r := rb2) (xs := [Jj a.addr, (ItL.mk yl yb yp yxs)]) (by simp) List.mem_cons_self fun z hz => ?_
   rcases List.mem_cons.1 hz with rfl | hz
   exact KX (hsm a hma).addr
   rw [List.mem_singleton.1 hz]; exact yh.mono fun q hq => List.mem_cons_of_mem _ (List.mem_append_left _ hq)
  have hcat : JK its ++ (Wf rb2 2 [Jj a.addr, (ItL.mk yl yb yp yxs)]).cells = JK (its ++ [Wf rb2 2 [Jj a.addr, (ItL.mk yl yb yp yxs)]]) := by rw [XD]; simp [JK]
  rw [hcat] at hra ⊢; exact JN (i + 1, some (ra, cap, sp), its ++ [Wf rb2 2 [Jj a.addr, (ItL.mk yl yb yp yxs)]], (rb2, _) :: (yL ++ F)) ⟨by simp only; omega, hra, by simp only [List.length_append, hP.len]; rfl, by simp only; rw [List.map_append, hP.er, List.take_add_one, ha, Option.toList_some, List.map_append, List.map_singleton, List.map_singleton, Xz, List.map_cons, List.map_singleton, QM, ye]; rfl, hnew⟩ (by simp only; omega) (lK rfl) (.cons₂ _ (.cons₂ _ (.cons₂ _ (.cons₂ _ (List.sublist_append_left _ _))))) (fun _ _ h => h)
 ·refine JL (Jn ?_); refine Jn (J8 (hK3 ?_)); refine sQ fun _ hK10 => ?_
  have honeV : ([.bool true, Jq [], JO i row] : List Value).all QX = true := by cases row <;> rfl
  refine Je (LR rfl (Jm (xs := [.bool true, Jq [], JO i row]) (n := 3) rfl (kn 0 rfl) rfl rfl rfl) (Js (k := 1) (n := 3) (ys := [.bool true, Jq [], JO i row]) rfl rfl rfl rfl rfl rfl rfl honeV rfl ?_)); refine nK hK10 ?_; refine Jd ?_; refine Jp rfl rfl (.cons (J0 (vs := [_, _, _]) rfl (kn 1 rfl) rfl rfl) .nil) (fun w1 hs1 => ?_)
  have hiM : i = l.length := by omega
  have hok := hP.ok
  rw [← hP.len] at hok
  have hvr : JO i row = Ky its.length (Qm row) := by rw [← hP.len]; exact Ql hok
  exact ⟨⟨.mk true [] (Qm row) its, Kk 91 (JK its) row ++ F, Y4 (by rw [hP.len]; omega) hok (fun q h => List.mem_append_left _ h) (fun x hx => (hP.inn x hx).mono fun q hq => List.mem_append_right _ hq), by rw [Y5, hP.er, hiM, List.take_length, List.map_map]; rfl⟩, congrArg (fun z => Ending.returned (Value.agg #[.bool true, Jq [], z])) hvr, hs1.weakL (.cons _ (.cons _ (List.Sublist.refl _)))⟩
theorem Jf1 (p : Pl) : Pure Tryz.prog 103 [Ky 0 p].toArray (Jfd (.slice none 0 0)) := by
 have hs : Seg ([] : Jy) 0 [] p ∨ True := .inr trivial
 refine JF Tryz.func103 rfl rfl fun w => ?_; refine sR fun _ hK1 => ?_; refine LN rfl fun r1 => ?_; refine nK hK1 ?_; refine sR fun _ hK2 => ?_; refine JC rfl rfl rfl Jb7 (Zb none 0 0) ?_; refine LN rfl fun r2 => ?_
 refine Jv (k := 0) (n := 3) (cs' := #[_, _, _]) (vs := #[_, _, _]) rfl rfl rfl rfl rfl rfl rfl (by exact Nat.le_of_ble_eq_true rfl) rfl (by first | (simp only [List.set_cons_zero, List.set_cons_succ]; exact rfl) | exact rfl) ?_; refine nK hK2 ?_; refine sQ fun _ hK3 => ?_; refine sR fun _ hK4 => ?_; refine Jb rfl (LR rfl (KD rfl rfl) (Jb rfl ?_)); refine nK hK4 ?_; refine J3 (JS (σ := Unit) (fun _ => True) (fun _ => [(2, Kw r1), (3, Kw r2), (8, .int .i64 0), (9, .int .i64 0)]) (fun _ => [(r2, .cells #[.bool true, Jq [], .slice none 0 0] 91 (0, 0)), (r1, .cells #[.bool false, Jq [], .slice none 0 0] 91 (0, 0))]) (fun _ _ _ => True) (fun _ => 0) () trivial (lK rfl) (List.Sublist.refl _) (fun _ _ h => h) ?_); rintro u _; refine sR fun _ hK5 => ?_; refine J2 rfl ?_; refine nK hK5 ?_; refine sQ fun _ hK6 => ?_; refine Jl rfl (fun h7 => ?_) (fun h7 => ?_)
 exact absurd h7 ((by decide))
 ·try simp only [ZZ] at h7
  refine JL (Jn ?_); refine Jn (J8 (hK3 ?_)); refine sR fun _ hK8 => ?_; refine LR rfl (JT (vs := [_, _, _]) rfl (kn 0 rfl) rfl rfl rfl rfl) ?_
  refine Jv (k := 1) (n := 3) (cs' := #[_, _, _]) (vs := #[_, _, _]) rfl rfl rfl rfl rfl rfl rfl (by exact Nat.le_of_ble_eq_true rfl) rfl (by first | (simp only [List.set_cons_zero, List.set_cons_succ]; exact rfl) | exact rfl) ?_; refine nK hK8 ?_; refine Jd ?_; refine Jp rfl rfl (.cons (J0 (vs := [_, _, _]) rfl (kn 1 rfl) rfl rfl) .nil) (fun w1 hs1 => ?_); exact ⟨rfl, hs1.keep⟩
theorem P_v {t : TxL} (hc : t.chain ≤ 4611686018427387904) (hy : t.y ≤ 1) : Pure Tryz.prog 101 [t.val].toArray (uV (vE t.chain t.y)) := by
 refine JF Tryz.func101 rfl rfl fun w => ?_; refine sR fun _ hK1 => ?_; refine JX (cs := List.toArray (t.cells)) rfl rfl rfl rfl fun r0 => ?_; refine Jb rfl ?_; refine nK hK1 ?_; refine sQ fun _ hK2 => ?_; refine sR fun _ hK3 => ?_
 refine LR rfl (Ja rfl rfl (by first | (simp only [Nat.zero_add, Nat.reduceAdd, Nat.reduceMul, Nat.zero_mul, Nat.mul_one, Nat.add_zero]; exact rfl) | exact rfl)) ?_; refine LR rfl (Jc rfl (kn 0 rfl) rfl rfl) ?_; refine J2 rfl ?_; refine nK hK3 ?_; refine cD (fun g => ?_) fun g => ?_
 refine sR fun _ hK5 => ?_
 refine LR rfl (Ja rfl rfl (by first | (simp only [Nat.zero_add, Nat.reduceAdd, Nat.reduceMul, Nat.zero_mul, Nat.mul_one, Nat.add_zero]; exact rfl) | exact rfl)) ?_; refine LR rfl (Jc rfl (kn 0 rfl) rfl rfl) ?_; refine J2 rfl ?_; refine JA (show _ = uV (27 + t.y) from congrArg (Value.int .u64) (by rw [wrap_u64 (by omega) (by omega)]; omega)) ?_; refine Jb rfl ?_; refine nK hK5 ?_; refine Jd (Ji ?_); refine pT rfl rfl rfl fun w1 hs1 => ?_; refine ⟨congrArg (fun n => Ending.returned (uV n)) ?_, hs1.keep⟩
 unfold vE
 rw [if_pos (by omega)]
 ·refine Jg (hK2 ?_); refine sR fun _ hK6 => ?_
  refine LR rfl (Ja rfl rfl (by first | (simp only [Nat.zero_add, Nat.reduceAdd, Nat.reduceMul, Nat.zero_mul, Nat.mul_one, Nat.add_zero]; exact rfl) | exact rfl)) ?_; refine LR rfl (Jc rfl (kn 0 rfl) rfl rfl) ?_; refine J2 rfl ?_; refine JA (show _ = uV (2 * t.chain) from congrArg (Value.int .u64) (by rw [wrap_u64 (by omega) (by omega)]; omega)) ?_; refine J2 rfl ?_; refine JA (show _ = uV (35 + 2 * t.chain) from congrArg (Value.int .u64) (by rw [wrap_u64 (by omega) (by omega)]; omega)) ?_
  refine LR rfl (Ja rfl rfl (by first | (simp only [Nat.zero_add, Nat.reduceAdd, Nat.reduceMul, Nat.zero_mul, Nat.mul_one, Nat.add_zero]; exact rfl) | exact rfl)) ?_; refine LR rfl (Jc rfl (kn 0 rfl) rfl rfl) ?_; refine J2 rfl ?_; refine JA (show _ = uV (35 + 2 * t.chain + t.y) from congrArg (Value.int .u64) (by rw [wrap_u64 (by omega) (by omega)]; omega)) ?_; refine Jb rfl ?_; refine nK hK6 ?_; refine Jd ?_; refine pT rfl rfl rfl fun w1 hs1 => ?_; refine ⟨congrArg (fun n => Ending.returned (uV n)) ?_, hs1.keep⟩
  unfold vE
  rw [if_neg (by omega)]
structure FldR (e : TxE) : Type where
  q : Nat
  xs : List ItL
  row : QH
  L : Jy
  hq : (q, Obj.cells #[JO xs.length row] 89 (0, 0)) ∈ L
  ok : rowOk 3 xs.length (JK xs) row
  hr : ∀ p ∈ Kk 91 (JK xs) row, p ∈ L
  hx : ∀ x ∈ xs, x.In L
  er : xs.map ItL.er = Qu e
structure TxS (t : TxL) : Prop where
  dest : t.dest.length ≤ 1000000
  data : t.data.length ≤ 1000000
  accL : t.acc.length ≤ 100000
  acc : ∀ a ∈ t.acc, AxS a
  au : t.auths = []
  y : t.y ≤ 1
  chain : t.kind = 0 → t.chain ≤ 4611686018427387904
theorem WH {n : Nat} (h : VG n) : (KT n).length ≤ 1000000 := Nat.le_trans (Y0 h) (by decide)
theorem j9 (l : List Nat) : (JE l).length ≤ 1000000 := Nat.le_trans (WW l) (by decide)
theorem Jcf {R : Jy} {t : TxL} (ht : t.In R) (hs : TxS t) (hk : t.kind = 0) : PureT (α := FldR t.er) Tryz.prog 35 [t.val].toArray (fun y => .func (.func 105) #[] #[Kw y.q]) [] (fun y => y.L) R := by
 have hch := hs.chain hk
 have hy := hs.y
 have hv64 : vE t.chain t.y < 18446744073709551616 := by unfold vE; split <;> omega
 have hfl : Qu t.er = [Qk t.nonce, Ks t.price, Qk t.gas, Ki t.dest, Ks t.value, Ki t.data, Qk (vE t.chain t.y), Ks t.r, Ks t.s] := by
  unfold Qu; rw [if_neg (by show ¬ t.kind = 126; omega), if_pos (show t.er.kind = 0 from hk)]; rfl
 refine J1 Tryz.func35 rfl rfl fun w => ?_; refine sR fun _ hK1 => ?_; refine JX (cs := List.toArray (t.cells)) rfl rfl rfl rfl fun r0 => ?_; refine Jb rfl ?_; refine nK hK1 ?_; refine sQ fun _ hK2 => ?_; refine Km [(r0, .cells (List.toArray t.cells) 33 (0, 0))] [(0, .pure), (1, .pure), (2, .pure), (3, .pure), (4, .pure), (5, .pure), (6, .pure), (7, .pure), (8, .pure), (9, .grow (QK XG (.cells #[.bool false, .string ⟨#[]⟩, .slice none 0 0] 91 (0, 0)))), (10, .grow (QK XG (.cells #[.bool false, .string ⟨#[]⟩, .slice none 0 0] 91 (0, 0)))), (11, .grow (QK XG (.cells #[.bool false, .string ⟨#[]⟩, .slice none 0 0] 91 (0, 0)))), (12, .turn), (13, .turn), (14, .turn)] 15 [0, 1, 2, 3, 4, 5, 6, 7, 8, 9, 10, 11, 12, 13, 14] (by kernel_rfl) (by kernel_rfl) (fun p hp => by rw [List.mem_singleton.1 hp]; exact List.mem_cons_self) ?_
 refine JH (k := 0) rfl rfl rfl rfl rfl (fun _ hS => (Ja rfl rfl (by first | (simp only [Nat.zero_add, Nat.reduceAdd, Nat.reduceMul, Nat.zero_mul, Nat.mul_one, Nat.add_zero]; exact rfl) | exact rfl))) ?_; refine JH (k := 1) rfl rfl rfl rfl rfl (fun _ hS => (Jc rfl (.inl (hS _ (Jw (n := 0) rfl))) rfl rfl)) ?_; refine Kf (k := 2) rfl rfl rfl rfl rfl vy (Vw ht.ok.nonce) ?_
 refine JH (k := 3) rfl rfl rfl rfl rfl (fun _ hS => (Ja rfl rfl (by first | (simp only [Nat.zero_add, Nat.reduceAdd, Nat.reduceMul, Nat.zero_mul, Nat.mul_one, Nat.add_zero]; exact rfl) | exact rfl))) ?_; refine JH (k := 4) rfl rfl rfl rfl rfl (fun _ hS => (JT (vs := [_, _, _, _]) rfl (.inl (hS _ (Jw (n := 0) rfl))) rfl rfl rfl rfl)) ?_; refine Kf (k := 5) rfl rfl rfl rfl rfl vz (WZ (x := t.price) ht.ok.price) ?_
 refine JH (k := 6) rfl rfl rfl rfl rfl (fun _ hS => (Ja rfl rfl (by first | (simp only [Nat.zero_add, Nat.reduceAdd, Nat.reduceMul, Nat.zero_mul, Nat.mul_one, Nat.add_zero]; exact rfl) | exact rfl))) ?_; refine JH (k := 7) rfl rfl rfl rfl rfl (fun _ hS => (Jc rfl (.inl (hS _ (Jw (n := 0) rfl))) rfl rfl)) ?_; refine Kf (k := 8) rfl rfl rfl rfl rfl vy (Vw ht.ok.gas) ?_; refine Q4 (k := 9) (cs := #[_, _, _]) rfl rfl rfl rfl rfl rfl fun q3 => ?_; refine Q4 (k := 10) (cs := #[_, _, _]) rfl rfl rfl rfl rfl rfl fun q4 => ?_; refine Q4 (k := 11) (cs := #[_, _, _]) rfl rfl rfl rfl rfl rfl fun q5 => ?_; refine Kl (k := 12) (q := 2) (n := 3) (ys := (Jj (KT t.nonce)).cells) rfl rfl rfl rfl rfl rfl rfl rfl rfl rfl rfl (fun p hp => by rw [List.mem_singleton.1 hp]; exact (List.mem_cons_of_mem _ (List.mem_cons_of_mem _ (List.mem_cons_of_mem _ List.mem_cons_self)))) ?_; refine Kl (k := 13) (q := 1) (n := 3) (ys := (Jj (JE t.price.l)).cells) rfl rfl rfl rfl rfl rfl rfl rfl rfl rfl rfl (fun p hp => by rw [List.mem_singleton.1 hp]; exact (List.mem_cons_of_mem _ (List.mem_cons_of_mem _ (List.mem_cons_of_mem _ List.mem_cons_self)))) ?_; refine Kl (k := 14) (q := 0) (n := 3) (ys := (Jj (KT t.gas)).cells) rfl rfl rfl rfl rfl rfl rfl rfl rfl rfl rfl (fun p hp => by rw [List.mem_singleton.1 hp]; exact (List.mem_cons_of_mem _ (List.mem_cons_of_mem _ (List.mem_cons_of_mem _ List.mem_cons_self)))) ?_; refine Qc ?_; refine nK hK2 ?_; refine sQ fun _ hK3 => ?_; refine Km [(r0, .cells (List.toArray t.cells) 33 (0, 0))] [(0, .pure), (1, .pure), (2, .pure), (3, .pure), (4, .pure), (5, .pure), (6, .pure), (7, .pure), (8, .pure), (9, .grow (QK XG (.cells #[.bool false, .string ⟨#[]⟩, .slice none 0 0] 91 (0, 0)))), (10, .grow (QK XG (.cells #[.bool false, .string ⟨#[]⟩, .slice none 0 0] 91 (0, 0)))), (11, .grow (QK XG (.cells #[.bool false, .string ⟨#[]⟩, .slice none 0 0] 91 (0, 0)))), (12, .turn), (13, .turn), (14, .turn)] 15 [0, 1, 2, 3, 4, 5, 6, 7, 8, 9, 10, 11, 12, 13, 14] (by kernel_rfl) (by kernel_rfl) (fun p hp => by rw [List.mem_singleton.1 hp]; exact (List.mem_cons_of_mem _ (List.mem_cons_of_mem _ (List.mem_cons_of_mem _ List.mem_cons_self)))) ?_
 refine JH (k := 0) rfl rfl rfl rfl rfl (fun _ hS => (Ja rfl rfl (by first | (simp only [Nat.zero_add, Nat.reduceAdd, Nat.reduceMul, Nat.zero_mul, Nat.mul_one, Nat.add_zero]; exact rfl) | exact rfl))) ?_; refine JH (k := 1) rfl rfl rfl rfl rfl (fun _ hS => (Jc rfl (.inl (hS _ (Jw (n := 0) rfl))) rfl rfl)) ?_; refine Kf (k := 2) rfl rfl rfl rfl rfl jP (Wz _) ?_
 refine JH (k := 3) rfl rfl rfl rfl rfl (fun _ hS => (Ja rfl rfl (by first | (simp only [Nat.zero_add, Nat.reduceAdd, Nat.reduceMul, Nat.zero_mul, Nat.mul_one, Nat.add_zero]; exact rfl) | exact rfl))) ?_; refine JH (k := 4) rfl rfl rfl rfl rfl (fun _ hS => (JT (vs := [_, _, _, _]) rfl (.inl (hS _ (Jw (n := 0) rfl))) rfl rfl rfl rfl)) ?_; refine Kf (k := 5) rfl rfl rfl rfl rfl vz (WZ (x := t.value) ht.ok.value) ?_
 refine JH (k := 6) rfl rfl rfl rfl rfl (fun _ hS => (Ja rfl rfl (by first | (simp only [Nat.zero_add, Nat.reduceAdd, Nat.reduceMul, Nat.zero_mul, Nat.mul_one, Nat.add_zero]; exact rfl) | exact rfl))) ?_; refine JH (k := 7) rfl rfl rfl rfl rfl (fun _ hS => (Jc rfl (.inl (hS _ (Jw (n := 0) rfl))) rfl rfl)) ?_; refine Kf (k := 8) rfl rfl rfl rfl rfl jP (Wz _) ?_; refine Q4 (k := 9) (cs := #[_, _, _]) rfl rfl rfl rfl rfl rfl fun q6 => ?_; refine Q4 (k := 10) (cs := #[_, _, _]) rfl rfl rfl rfl rfl rfl fun q7 => ?_; refine Q4 (k := 11) (cs := #[_, _, _]) rfl rfl rfl rfl rfl rfl fun q8 => ?_; refine Kl (k := 12) (q := 2) (n := 3) (ys := (Jj t.dest).cells) rfl rfl rfl rfl rfl rfl rfl rfl rfl rfl rfl (fun p hp => by rw [List.mem_singleton.1 hp]; exact (List.mem_cons_of_mem _ (List.mem_cons_of_mem _ (List.mem_cons_of_mem _ (List.mem_cons_of_mem _ (List.mem_cons_of_mem _ (List.mem_cons_of_mem _ List.mem_cons_self))))))) ?_; refine Kl (k := 13) (q := 1) (n := 3) (ys := (Jj (JE t.value.l)).cells) rfl rfl rfl rfl rfl rfl rfl rfl rfl rfl rfl (fun p hp => by rw [List.mem_singleton.1 hp]; exact (List.mem_cons_of_mem _ (List.mem_cons_of_mem _ (List.mem_cons_of_mem _ (List.mem_cons_of_mem _ (List.mem_cons_of_mem _ (List.mem_cons_of_mem _ List.mem_cons_self))))))) ?_; refine Kl (k := 14) (q := 0) (n := 3) (ys := (Jj t.data).cells) rfl rfl rfl rfl rfl rfl rfl rfl rfl rfl rfl (fun p hp => by rw [List.mem_singleton.1 hp]; exact (List.mem_cons_of_mem _ (List.mem_cons_of_mem _ (List.mem_cons_of_mem _ (List.mem_cons_of_mem _ (List.mem_cons_of_mem _ (List.mem_cons_of_mem _ List.mem_cons_self))))))) ?_; refine Qc ?_; refine nK hK3 ?_; refine sQ fun _ hK4 => ?_
 refine Km [] [(0, .pure), (2, .pure), (3, .pure), (5, .pure), (6, .dep [31, 34] (XL 2 91)), (7, .pure)] 8 [0, 1, 2, 3, 4, 5, 6, 7] (by kernel_rfl) (by kernel_rfl) (by first | exact (fun _ h => absurd h List.not_mem_nil) | simp [SubS] | (intro p hp; simp [hp])) ?_
 refine JH (k := 0) rfl rfl rfl rfl rfl (fun _ hS => (Ja rfl rfl (by first | (simp only [Nat.zero_add, Nat.reduceAdd, Nat.reduceMul, Nat.zero_mul, Nat.mul_one, Nat.add_zero]; exact rfl) | exact rfl))) ?_; refine Q5 (k := 1) rfl rfl rfl rfl rfl (JT (vs := [_, _, _, _]) rfl (kn 6 rfl) rfl rfl rfl rfl) ?_; refine Kf (k := 2) rfl rfl rfl rfl rfl vz (WZ (x := t.r) ht.ok.r) ?_
 refine JH (k := 3) rfl rfl rfl rfl rfl (fun _ hS => (Ja rfl rfl (by first | (simp only [Nat.zero_add, Nat.reduceAdd, Nat.reduceMul, Nat.zero_mul, Nat.mul_one, Nat.add_zero]; exact rfl) | exact rfl))) ?_; refine Q5 (k := 4) rfl rfl rfl rfl rfl (JT (vs := [_, _, _, _]) rfl (kn 6 rfl) rfl rfl rfl rfl) ?_; refine Kf (k := 5) rfl rfl rfl rfl rfl vz (WZ (x := t.s) ht.ok.s) ?_; refine Ku (k := 6) (dv := [_, _]) (n := 2) (sz := 3) (vs := [_, _]) (zs := [_, _, _, _, _, _]) (r := JK [(Jj (JE t.r.l)), (Jj (JE t.s.l))]) rfl rfl rfl rfl rfl rfl rfl rfl rfl rfl rfl rfl rfl (by rw [Qo]; exact rfl) (by kernel_rfl) fun qe => ?_; refine JH (k := 7) rfl rfl rfl rfl rfl (fun _ hS => (JY rfl)) ?_; refine Qc ?_; refine nK hK4 ?_; refine sR fun _ hK5 => ?_; refine LN rfl fun q10 => ?_; refine nK hK5 ?_; refine sQ fun _ hK6 => ?_; refine sR fun _ hK7 => ?_
 refine LR rfl (Ja rfl rfl (by first | (simp only [Nat.zero_add, Nat.reduceAdd, Nat.reduceMul, Nat.zero_mul, Nat.mul_one, Nat.add_zero]; exact rfl) | exact rfl)) ?_; refine LR rfl (Jc rfl (kn 8 rfl) rfl rfl) ?_; refine nK hK7 ?_; refine J3 (sR fun _ hK8 => ?_); refine J2 rfl (Jb rfl ?_); refine nK hK8 ?_; refine Jl rfl (fun h9 => ?_) (fun h9 => ?_)
 exact absurd h9 ((by intro h; have := beq_iff_eq.1 h; omega))
 ·try simp only [ZZ] at h9
  refine sR fun _ hK10 => ?_; refine J2 rfl (Jb rfl ?_); refine nK hK10 ?_; refine Jl rfl (fun h11 => ?_) (fun h11 => ?_)
  ·try simp only [ZZ] at h11
   refine Km [] [(7, .pure), (8, .pure), (9, .dep [94, 95, 96, 97, 98, 99, 102] (XL 7 91)), (10, .pure), (11, .dep [103, 104] (XL 2 89))] 12 [0, 1, 2, 3, 4, 5, 6, 7, 8, 10, 9, 11] (by kernel_rfl) (by kernel_rfl) (by first | exact (fun _ h => absurd h List.not_mem_nil) | simp [SubS] | (intro p hp; simp [hp])) ?_; refine Q5 (k := 0) rfl rfl rfl rfl rfl (Jm (xs := (Jj (KT t.nonce)).cells) (n := 3) rfl (kn 7 rfl) rfl rfl rfl) ?_; refine Q5 (k := 1) rfl rfl rfl rfl rfl (Jm (xs := (Jj (JE t.price.l)).cells) (n := 3) rfl (kn 6 rfl) rfl rfl rfl) ?_; refine Q5 (k := 2) rfl rfl rfl rfl rfl (Jm (xs := (Jj (KT t.gas)).cells) (n := 3) rfl (kn 5 rfl) rfl rfl rfl) ?_; refine Q5 (k := 3) rfl rfl rfl rfl rfl (Jm (xs := (Jj t.dest).cells) (n := 3) rfl (kn 4 rfl) rfl rfl rfl) ?_; refine Q5 (k := 4) rfl rfl rfl rfl rfl (Jm (xs := (Jj (JE t.value.l)).cells) (n := 3) rfl (kn 3 rfl) rfl rfl rfl) ?_; refine Q5 (k := 5) rfl rfl rfl rfl rfl (Jm (xs := (Jj t.data).cells) (n := 3) rfl (kn 2 rfl) rfl rfl rfl) ?_; refine Q5 (k := 6) rfl rfl rfl rfl rfl (Jm (xs := t.cells) (n := 36) rfl (kn 8 rfl) rfl rfl rfl) ?_; refine Kf (k := 7) rfl rfl rfl rfl rfl (enters_of Tryz.func101 (by kernel_rfl) rfl) (P_v hch hy) ?_; refine Kf (k := 8) rfl rfl rfl rfl rfl vy (Vw hv64) ?_; refine JH (k := 10) rfl rfl rfl rfl rfl (fun _ hS => (JG rfl)) ?_; refine Ku (k := 9) (dv := [_, _, _, _, _, _, _]) (n := 7) (sz := 3) (vs := [_, _, _, _, _, _, _]) (zs := [_, _, _, _, _, _, _, _, _, _, _, _, _, _, _, _, _, _, _, _, _]) (r := JK [(Jj (KT t.nonce)), (Jj (JE t.price.l)), (Jj (KT t.gas)), (Jj t.dest), (Jj (JE t.value.l)), (Jj t.data), (Jj (KT (vE t.chain t.y)))]) rfl rfl rfl rfl rfl rfl rfl rfl rfl rfl rfl rfl rfl (by rw [Qo]; exact rfl) (by kernel_rfl) fun qa => ?_; refine Ku (k := 11) (dv := [_, _]) (n := 2) (sz := 1) (vs := [_, _]) (zs := [_, _]) (r := [ZI 7 qa, ZI 2 qe]) rfl rfl rfl rfl rfl rfl rfl rfl rfl rfl rfl rfl rfl (by show (madeCells #[_] _).toList = _; rw [KA]; exact rfl) rfl fun qc => ?_; refine Qc ?_
   refine J9 (T := []) (L0 := (qc, _) :: (qa, _) :: (q10, _) :: (qe, _) :: _) (List.Perm.refl _) rfl rfl rfl (enters_of Tryz.func100 (by kernel_rfl) rfl) (Jf0 (xs := [(Jj (KT t.nonce)), (Jj (JE t.price.l)), (Jj (KT t.gas)), (Jj t.dest), (Jj (JE t.value.l)), (Jj t.data), (Jj (KT (vE t.chain t.y)))]) (ys := [(Jj (JE t.r.l)), (Jj (JE t.s.l))]) (Nat.le_of_ble_eq_true rfl) (Nat.le_of_ble_eq_true rfl) (Nat.le_of_ble_eq_true rfl) (Nat.le_of_ble_eq_true rfl) qc qa qe) (fun q hq => by rcases List.mem_cons.1 hq with rfl | hq; exact Vf (k := 0) rfl; rcases List.mem_cons.1 hq with rfl | hq; exact Vf (k := 1) rfl; rw [List.mem_singleton.1 hq]; exact Vf (k := 3) rfl) fun x => ?_
   obtain ⟨row, hrow⟩ := x
   refine Kv List.perm_append_comm ?_; refine Ju (k := 2) (cs' := #[JO 9 row]) rfl rfl rfl rfl rfl (wE _ _) rfl rfl rfl rfl ?_; refine Jt ?_; refine Jo (hK6 ?_); refine sR fun _ hK12 => ?_; refine LR rfl (JQ rfl rfl) ?_; refine Jb rfl ?_; refine nK hK12 ?_; refine Jd ?_; refine pT rfl rfl rfl fun w1 hs1 => ?_
   exact ⟨⟨q10, [(Jj (KT t.nonce)), (Jj (JE t.price.l)), (Jj (KT t.gas)), (Jj t.dest), (Jj (JE t.value.l)), (Jj t.data), (Jj (KT (vE t.chain t.y)))] ++ [(Jj (JE t.r.l)), (Jj (JE t.s.l))], row, (q10, .cells #[JO 9 row] 89 (0, 0)) :: Kk 91 (JK ([(Jj (KT t.nonce)), (Jj (JE t.price.l)), (Jj (KT t.gas)), (Jj t.dest), (Jj (JE t.value.l)), (Jj t.data), (Jj (KT (vE t.chain t.y)))] ++ [(Jj (JE t.r.l)), (Jj (JE t.s.l))])) row, List.mem_cons_self, hrow, fun p hp => List.mem_cons_of_mem _ hp, fun x hx => by simp only [List.cons_append, List.nil_append, List.mem_cons, List.not_mem_nil, or_false] at hx; rcases hx with rfl | rfl | rfl | rfl | rfl | rfl | rfl | rfl | rfl <;> exact KX (by first | exact j9 _ | exact WH ht.ok.nonce | exact WH ht.ok.gas | exact WH hv64 | exact hs.dest | exact hs.data), by rw [hfl]; simp only [List.cons_append, List.nil_append, List.map_cons, List.map_nil, QM]; rfl⟩, rfl, hs1.weakL (.cons _ (.cons _ (.cons₂ _ (.cons _ (.cons _ (.cons _ (.cons _ (.cons _ (.cons _ (.cons _ (.cons _ (List.Sublist.refl _))))))))))))⟩
  ·exact absurd h11 ((by intro h; have := beq_eq_false_iff_ne.1 h; omega))
end Go.Proofs.YtckoepmdmhdepaaGreatDoor
