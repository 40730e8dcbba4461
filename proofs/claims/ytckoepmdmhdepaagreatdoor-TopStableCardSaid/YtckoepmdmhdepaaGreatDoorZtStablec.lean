import Derived.Test.YtckoepmdmhdepaaGreatDoorZtStableb
open Go.Proofs.Tryz (prog)
set_option maxRecDepth 100000
namespace Go.Proofs.YtckoepmdmhdepaaGreatDoor
set_option linter.all false
open Go.SL Go.RowKit Go.Shelf
variable {af : Array Edge} {at_ : Array TypeId} {args : Array Value} {s : BS} {own v : Bool} {fn : Func} {g : FuncId} {e hi : Int} {F R R' Rl : J3} {caps cs vs : List Value} {α : Type} {post pre : List α} {a by_ cap f i q r r1 r2 r5 sz u : Nat} {gd : Option (Nat × Bool)} {dst : Option Nat} {P : Program} {row : QZ} {ps : String} {ty : TypeId} {c : UInt8} {w : World} {LL : α → J3} {V : α → Value}
theorem Jte {n : Nat} {r : List UInt8} (h : (i : Int) = 9) (hc : ((c.toNat : Nat) : Int) > 1) : yy a i n (c :: r) = (0, 0, 5) := by
 unfold yy; rw [if_pos m3]
theorem Jtf {n : Nat} {r : List UInt8} (h : ¬ (i = 9 ∧ 1 < c.toNat)) (hc : ((c.toNat : Nat) : Int) ≥ 128) : yy a i n (c :: r) = yy a (i + 1) (n + c.toNat % 128 * 2 ^ (7 * i)) r := by
 conv => lhs; unfold yy
 rw [if_neg h, if_pos m3]
theorem Jn6 {n : Nat} {r : List UInt8} (h : ((i : Nat) : Int) > 0) (hc : ((c.toNat : Nat) : Int) = 0) : yy a i n (c :: r) = (0, 0, 8) := by
 unfold yy; rw [if_neg m3, if_neg m3, if_pos m3]
theorem J0q {n : Nat} {r : List UInt8} (h : ¬ (i = 9 ∧ 1 < c.toNat)) (hc : c.toNat < 128) (h0 : ¬ (0 < i ∧ c.toNat = 0)) : yy a i n (c :: r) = (n + c.toNat % 128 * 2 ^ (7 * i), a + i + 1, 0) := by
 unfold yy; rw [if_neg h, if_neg m3, if_neg h0]
theorem Jtg {c : Nat} (hi : i < 10) (h : ¬ (i = 9 ∧ 1 < c)) : c % 128 * 2 ^ (7 * i) < 18446744073709551616 := by
 by_cases h9 : i = 9
 ·subst h9
  have : c % 128 ≤ 1 := by omega
  rw [show 2 ^ (7 * 9) = 9223372036854775808 from by decide]; omega
 ·have h1 : 2 ^ (7 * i) ≤ 2 ^ 56 := Nat.pow_le_pow_right m7 m3
  have h2 : c % 128 * 2 ^ (7 * i) ≤ 127 * 2 ^ 56 := Nat.mul_le_mul m3 h1
  have h3 : (127 : Nat) * 2 ^ 56 < 18446744073709551616 := by decide
  omega
theorem Jn7 {n c : Nat} (hn : n < 2 ^ (7 * i)) (hi : i < 10) (h : ¬ (i = 9 ∧ 1 < c)) : n ||| (c % 128 * 2 ^ (7 * i) % 18446744073709551616) = n + c % 128 * 2 ^ (7 * i) := by
 rw [Nat.mod_eq_of_lt (Jtg hi h)]; exact xG hn
theorem Jx9 {n c : Nat} (hn : n < 2 ^ (7 * i)) : n + c % 128 * 2 ^ (7 * i) < 2 ^ (7 * (i + 1)) := by
 have e : 2 ^ (7 * (i + 1)) = 128 * 2 ^ (7 * i) := by rw [Nat.mul_add, Nat.pow_add, Nat.mul_comm]
 have h3 : c % 128 * 2 ^ (7 * i) ≤ 127 * 2 ^ (7 * i) := Nat.mul_le_mul_right _ m3
 rw [e]; omega
theorem J0r {n : Nat} (hi : i < 10) (hn : n < 2 ^ (7 * i)) : n < 18446744073709551616 := Nat.lt_of_lt_of_le hn (Nat.pow_le_pow_right (n := 2) m7 (by omega : 7 * i ≤ 64))
theorem Jth {T : List UInt8} (h : i < T.length) : T.drop i = T.getD i 0 :: T.drop (i + 1) := by
 rw [List.drop_eq_getElem_cons h, List.getD_eq_getElem?_getD, List.getElem?_eq_getElem h]; rfl
theorem Jya {s : List UInt8} (h : i < min 10 (s.length - a)) : ((s.drop a).take 10).getD i 0 = s.getD (a + i) 0 := by
 rw [List.getD_eq_getElem?_getD, List.getD_eq_getElem?_getD, List.getElem?_take, if_pos m3, List.getElem?_drop]
theorem X9 {s : List UInt8} (hs : s.length ≤ 9223372036854775807) (at_ : Int) : Pure prog 182 [.string (bs s), .int .i64 at_].toArray (Jsv (KO s at_)) := by
  refine JA Tryz.func182 O O fun w => Hn fun r1 r2 => ?_; refine LN O fun r3 => LN O fun r4 => kB ?_; refine EU ?_; refine gu ?_
  refine J8 13 O (fun gb => ?_) (fun gb => ?_) <;> (try simp only [ZZ] at gb) <;> first | (refine LR O (Jc O (kn 0 O) O O) ?_) | (refine LR O (Jc O (kn 1 O) O O) ?_) | (refine LR O (Jc O (kn 2 O) O O) ?_) | (refine LR O (Jc O (kn 3 O) O O) ?_) | (refine LR O (Jc O (kn 4 O) O O) ?_) | (refine LR O (Jc O (kn 5 O) O O) ?_) | (refine LR O (Jc O (kn 6 O) O O) ?_) | (refine LR O (Jc O (kn 7 O) O O) ?_) | (refine LR O (Jc O (kn 8 O) O O) ?_) | (refine LR O (Jc O (Kn (k := 0) O) O O) ?_) | (refine LR O (Jc O (Kn (k := 1) O) O O) ?_) | (refine LR O (Jc O (Kn (k := 2) O) O O) ?_) | (refine LR O (Jc O (Kn (k := 3) O) O O) ?_) | (refine LK O ?_)
  all_goals refine Ns ?_
  all_goals refine ko ?_
  all_goals refine MQ ?_
  all_goals (
   refine kN ?_; refine Jl O (fun g => ?_) (fun g => ?_)
   try simp only [ZZ] at g
   refine NG ?_
   refine Hj ?_
   refine kQ ?_
   refine Nx ?_; refine gA ?_
   (refine Jh O O (.cons (JX O (kn 2 O) O O) (.cons (JX O (kn 1 O) O O) (.cons (JX O (kn 0 O) O O) .nil))) (fun w1 hs1 => ?_)
    exact ⟨by rw [show KO s at_ = (0, 0, 1) from by unfold KO; rw [if_pos m3]]; rfl, hs1.keep⟩)
   · try exact Bool.noConfusion g
     all_goals try simp only [ZZ] at g
     all_goals (
      refine D5 ?_
      have ha1 : 0 ≤ at_ ∧ at_ ≤ s.length := by omega
      obtain ⟨a, rfl⟩ : ∃ j : Nat, at_ = j := ⟨at_.toNat, by omega⟩
      obtain ⟨R, hR⟩ : ∃ R, R = yy a 0 0 ((s.drop a).take 10) := ⟨_, rfl⟩
      have hun : KO s a = R := by unfold KO; rw [if_neg m3, hR]; rfl
      obtain ⟨T, hT⟩ : ∃ T, T = (s.drop a).take 10 := ⟨_, rfl⟩
      have hTl : T.length = min 10 (s.length - a) := by rw [hT]; simp
      rw [← hT] at hR; refine HI ?_; refine LN O fun r5 => ?_
      refine Nx ?_; refine kV ?_; refine LN O fun r6 => ?_
      refine Nx ?_; refine gp ?_; refine LR O (Jc O (kn 5 O) O O) (KG O O O (enters_of Tryz.func233 m4 O) (Jx7 s a) fun pp => ?_)
      obtain ⟨p1, p2⟩ := pp
      change HL _ _ _ [(p2, _), (p1, _), (r6, _), (r5, _), (r4, _), (r3, _), (r2, _), (r1, _)] _ _ _ _; refine NQ ?_; refine Zc [2, 6, 5, 4, 0, 1, 3, 7] m7 O (Jmb (τ := Nat × Nat × Int) (fun i (n : Nat) => i ≤ T.length ∧ yy a i n (T.drop i) = R ∧ n < 2 ^ (7 * i)) (fun n => [(r6, .cells #[uV n] 22 (0, 0)), (r2, .cells #[uV 0] 22 (0, 0)), (r3, .cells #[.int .i64 0] 3 (0, 0)), (r4, .cells #[.int .i64 0] 43 (0, 0))]) (fun j t => j = .ret ∧ t = R) (fun t => [(r2, .cells #[uV t.1] 22 (0, 0)), (r3, .cells #[.int .i64 (t.2.1 : Int)] 3 (0, 0)), (r4, .cells #[.int .i64 t.2.2] 43 (0, 0))]) [(p2, _), (p1, _), (r5, _), (r1, _)] 0 O O (enters_of Tryz.func266 m4 O) (Jx8 (s := s) (a := a) m3 hs p1 p2) M0 O mf O ⟨Z', by rw [hR]; rfl, by decide⟩ ?_ ?_ ?_)
      · rintro q Xr Xb w3 i _ _ n ⟨hi, rfl, rfl⟩ ⟨hil, hrd, hn⟩ Kr hKr; refine inR ?_
        obtain ⟨c, hc⟩ : ∃ c, c = s.getD (a + i) 0 := ⟨_, rfl⟩
        have hT2 : T.drop i = c :: T.drop (i + 1) := by rw [Jth m3, hT, Jya hi, ← hT, ← hc]
        rw [hT2] at hrd
        have hi10 : i < 10 := by omega
        have hcl := c.toNat_lt
        unfold Jfy
        rw [← hc]; refine GL ?_; refine EW ?_; clear hKr; refine Ku 2 O (KB 8 m4 m4 (Jt O O O (Jc O (kn 0 O) O O) (kr ?_))); refine Jt O O O (xK (op := .and) (b := ((c.toNat % 128 : Nat) : Int)) O O O c.toNat_lt m7 (congrArg (fun z : Nat => (z : Int)) (Jxl _))) (gP ?_); refine WK (show _ = uV (c.toNat % 128) from congrArg (Value.int .u64) (wrap_u64 m3 m3)) (N0 ?_); refine WK (show _ = Value.int .i64 ((7 * i : Nat) : Int) from congrArg (Value.int .i64) my) (Jt rfl rfl rfl (Jca (n := 7 * i) (b := ((c.toNat % 128 * 2 ^ (7 * i) % 18446744073709551616 : Nat) : Int)) rfl rfl rfl M6 (J0b _)) ?_)
        refine Jt O O O (wa (op := .or) (b := ((n ||| (c.toNat % 128 * 2 ^ (7 * i) % 18446744073709551616) : Nat) : Int)) O O O (J0r m3 hn) (Nat.mod_lt _ m7) O) ?_; refine KR ?_
        refine Nx ?_; refine J5 9 O ?_
        refine J8 35 O (fun gb => ?_) (fun gb => ?_) <;> (try simp only [ZZ] at gb) <;> first | (refine JI O ?_) | (refine LK O ?_)
        all_goals refine MQ ?_
        all_goals (
         refine kW ?_; refine Jl O (fun g => ?_) (fun g => ?_)
         · try exact Bool.noConfusion g
           all_goals try simp only [ZZ] at g
           all_goals (
            refine NG ?_; refine LR O (Jc O (Kn (k := 2) O) O O) (JC O O O Jnu (Jfx 5) (DM ?_))
            (refine Yd (0, 0, 5) ⟨rfl, ?_⟩ O
             rw [← hrd, Jte m3 m3])
            skip)
         · try simp only [ZZ] at g
           refine Ku 7 O (cD (fun g => ?_) fun g => ?_)
           refine KF 4 O ?_
           have hno : ¬ (i = 9 ∧ 1 < c.toNat) := by omega
           rw [Jtf hno m3] at hrd; refine Xg (n + c.toNat % 128 * 2 ^ (7 * i)) ⟨by omega, hrd, Jx9 hn⟩ ?_; simp only [Jn7 hn hi10 hno]; rfl
           · refine gx ?_
             refine J8 50 O (fun gb => ?_) (fun gb => ?_) <;> (try simp only [ZZ] at gb) <;> first | (refine JI O ?_) | (refine LK O ?_)
             all_goals refine MQ ?_
             all_goals (
              refine kW ?_; refine Jl O (fun g => ?_) (fun g => ?_)
              · try exact Bool.noConfusion g
                all_goals try simp only [ZZ] at g
                all_goals (
                 refine NG ?_; refine LR O (Jc O (Kn (k := 2) O) O O) (JC O O O Jnu (Jfx 8) (DM ?_))
                 (refine Yd (0, 0, 8) ⟨rfl, ?_⟩ O
                  rw [← hrd, Jn6 m3 m3])
                 skip)
              try simp only [ZZ] at g
              refine Ku 4 O ?_
              refine wc [] [(1, .pure), (2, .pure), (3, .pure), (4, .pure), (5, .act (jz 1 (.cells #[uV (n ||| (c.toNat % 128 * 2 ^ (7 * i) % 18446744073709551616))] 22 (0, 0)))), (6, .act (jz 2 (.cells #[.int .i64 ((a + i + 1 : Nat) : Int)] 3 (0, 0)))), (7, .act (jz 3 (.cells #[.int .i64 0] 43 (0, 0))))] 8 m4 m4 mb ?_; refine Jxi O O O O (Jc O (kn 0 O) O O) ?_; refine ZH O O O O (fun _ hS => (Jc O (Kn (k := 3) O) O O)) ?_; refine ZH O O O O (fun _ hS => (Jw O)) ?_; refine ZH O O O O (fun _ _ => JH O O O) ?_; refine Jwc nh ?_; refine ZH O O O O (fun _ _ => JH O O O) ?_; refine Jwc (show _ = Value.int .i64 ((a + i + 1 : Nat) : Int) from congrArg (Value.int .i64) my) ?_
              refine wd (q := 1) O O O O O O O O m6 O O mb ?_
              refine wd (q := 2) O O O O O O O O m6 O O mb ?_
              refine wd (q := 3) O O O O O O O O m6 O O mb (Jfa (gA ?_)); refine QO [1, 2, 3] (L' := [_, _, _]) m7 O ?_
              (have hno : ¬ (i = 9 ∧ 1 < c.toNat) := by omega
               refine Yd (n + c.toNat % 128 * 2 ^ (7 * i), a + i + 1, 0) ⟨rfl, ?_⟩ ?_
               rw [← hrd, J0q hno m3 m3]
               simp only [Jn7 hn hi10 hno])
              skip)
         skip)
      rintro D i n hfi ⟨hil, hrd, hn⟩
      have hiT : i = T.length := by rw [hTl]; exact hfi
      have hR3 : R = (0, 0, 3) := by rw [← hrd, hiT, List.drop_length]; rfl
      refine wh 4 O (LR O (Jc O (kn 7 O) O O) (JC O O O Jnu (Jfx 3) (kg ?_))); refine Fh ?_
      refine gj ?_
      refine Jm (k := 4) O O O O O O O O m6 m5 (GN ?_)
      (refine Wp (k := 0) O O ?_
       refine GT fun w1 hs1 => ?_
       exact ⟨by rw [hun, hR3]; rfl, hs1.keep⟩)
      rintro D j t ⟨rfl, rfl⟩
      refine KF 3 O ?_
      (refine Wp (k := 0) O O ?_
       refine Jh O O (.cons (JX O (kn 1 O) O O) (.cons (JX O (kn 2 O) O O) (.cons (JX O (kn 3 O) O O) .nil))) (fun w1 hs1 => ?_)
       exact ⟨by rw [hun]; rfl, hs1.keep⟩)
      skip)
   skip)
theorem jG {n : Nat} (hn : n < 18446744073709551616) : (WL n).length ≤ 8 := (YB hn (Nat.le_refl 8)).2 hn
theorem Jti {n : Nat} (hn : n < 18446744073709551616) : Yi (WL n) = (n, 0) := by
 have h := jG hn
 unfold Yi
 rw [if_neg m3]
 unfold WL
 rw [Jah (J0m hn)]; simp only [Jn1, if_true, List.getD_cons_zero]
theorem Jdd : ∀ (e v : Nat), 1 ≤ (Xz e v).length ∧ (Xz e v).length ≤ e + 1
 | 0, v => by simp [Xz]
 | e + 1, v => by
  have := Jdd e (v / 128)
  unfold Xz; split <;> simp <;> omega
theorem Jh9 {a : Nat} : ∀ (e i acc : Nat) (T : List UInt8) (N tt : Nat), i + e = 9 → yy a i acc T = (N, tt, 0) →
  ∃ v rest, v < 2 * 128 ^ e ∧ (i = 0 ∨ 0 < v) ∧ N = acc + v * 2 ^ (7 * i) ∧ tt = a + i + (Xz e v).length ∧ T = Xz e v ++ rest
 | e, i, acc, [], N, tt, hi, h => by simp [yy] at h
 | e, i, acc, c :: r, N, tt, hi, h => by
  have hcl := c.toNat_lt
  unfold yy at h
  split at h
  ·simp at h
  ·rename_i h1
   split at h
   ·rename_i h2
    obtain ⟨e, rfl⟩ : ∃ k, e = k + 1 := ⟨e - 1, by omega⟩
    obtain ⟨v, rest, g1, g2, g3, g4, g5⟩ := Jh9 e (i + 1) _ r N tt m3 h
    have hv : c.toNat % 128 + 128 * v < 2 * 128 ^ (e + 1) := by rw [Nat.pow_succ]; omega
    have hge : ¬ c.toNat % 128 + 128 * v < 128 := by omega
    have e3 : Xz (e + 1) (c.toNat % 128 + 128 * v) = c :: Xz e v := by
     rw [Jh8 hge, show (c.toNat % 128 + 128 * v) % 128 + 128 = c.toNat from by omega, show (c.toNat % 128 + 128 * v) / 128 = v from by omega, UInt8.ofNat_toNat]
    have e1 : 2 ^ (7 * (i + 1)) = 128 * 2 ^ (7 * i) := by rw [Nat.mul_add, Nat.pow_add, Nat.mul_comm]
    refine ⟨c.toNat % 128 + 128 * v, rest, hv, .inr m3, ?_, ?_, ?_⟩
    ·rw [g3, e1, Nat.add_mul, Nat.mul_comm 128 v, Nat.mul_assoc v 128]; omega
    ·rw [g4, e3, List.length_cons]; omega
    ·rw [e3, g5]; rfl
   ·rename_i h2
    split at h
    ·simp at h
    ·rename_i h3
     simp only [Prod.mk.injEq, and_true] at h
     obtain ⟨rfl, rfl⟩ := h
     have hlo : c.toNat % 128 < 128 := Nat.mod_lt _ m7
     have e3 : Xz e (c.toNat % 128) = [c] := by rw [Jh7 hlo, Nat.mod_eq_of_lt m3, UInt8.ofNat_toNat]
     refine ⟨c.toNat % 128, r, ?_, by omega, rfl, by rw [e3]; rfl, by rw [e3]; rfl⟩
     cases e with
     | zero => simp; omega
     | succ e => have := Nat.pow_pos (n := e) (show 0 < 128 by decide); rw [Nat.pow_succ]; omega
theorem Jia {a : Nat} : ∀ (T : List UInt8) (i acc : Nat), (yy a i acc T).2.2 ≠ 0 → (yy a i acc T).1 = 0 ∧ (yy a i acc T).2.1 = 0
 | [], i, acc, h => by simp [yy]
 | c :: r, i, acc, h => by
  unfold yy at h ⊢
  split
  ·simp
  ·rename_i h1
   rw [if_neg h1] at h
   split
   ·rename_i h2; rw [if_pos h2] at h; exact Jia r _ _ h
   ·rename_i h2
    rw [if_neg h2] at h
    split
    ·simp
    ·rename_i h3; rw [if_neg h3] at h; simp at h
theorem Jib {s : List UInt8} {p : Int} (h : ¬ (KO s p).2.2 = 0) : (KO s p).1 = 0 ∧ (KO s p).2.1 = 0 := by
 unfold KO at h ⊢
 split
 ·simp
 ·rename_i h1; rw [if_neg h1] at h; exact Jia _ _ _ h
theorem jc {s : List UInt8} {p : Int} (h : (KO s p).2.2 = 0) : (KO s p).1 < 18446744073709551616 ∧ 0 ≤ p ∧ p < ((KO s p).2.1 : Int) ∧ (KO s p).2.1 ≤ s.length ∧ qq (KO s p).1 = (s.take (KO s p).2.1).drop p.toNat := by
 unfold KO at h ⊢
 split at h
 ·simp at h
 ·rename_i h1
  rw [if_neg h1]
  obtain ⟨N, tt, e⟩ : ∃ N tt, yy p.toNat 0 0 ((s.drop p.toNat).take 10) = (N, tt, 0) := ⟨_, _, by rw [← h]⟩
  rw [e]
  obtain ⟨v, rest, g1, -, g3, g4, g5⟩ := Jh9 9 0 0 _ N tt rfl e
  have hN : N = v := by simpa using g3
  subst hN
  have hl := Jdd 9 N
  have hlen := congrArg List.length g5
  simp only [List.length_take, List.length_drop, C'] at hlen; refine ⟨Jn4 (Nat.le_refl 9) g1, by omega, by simp only; omega, by simp only; omega, ?_⟩
  simp only
  unfold qq
  have e5 : (s.take tt).drop p.toNat = (s.drop p.toNat).take (Xz 9 N).length := by
   rw [List.drop_take]; congr 1; omega
  rw [e5]
  have : ((s.drop p.toNat).take 10).take (Xz 9 N).length = Xz 9 N := by rw [g5, List.take_left]
  rw [List.take_take] at this; rw [show min (Xz 9 N).length 10 = (Xz 9 N).length from by omega] at this; exact this.symm
theorem Jai (s : List UInt8) (p : Int) : (KO s p).1 < 18446744073709551616 := by
 by_cases h : (KO s p).2.2 = 0
 ·exact (jc h).1
 ·rw [(Jib h).1]; decide
theorem Jtj (s : List UInt8) : (Yi s).1 < 18446744073709551616 := by
 unfold Yi
 split
 ·decide
 ·simp only; split
  ·exact (Xd s).get 0
  ·decide
theorem Jde (l : List Nat) : ∀ j k, (QB l (j + k)).drop j = QB l k
 | 0, k => by simp
 | j + 1, k => by rw [show j + 1 + k = (j + k) + 1 from by omega, QB, List.drop_succ_cons, Jde l j k]
theorem Jn8 {n : Nat} : WL n = QB [n, 0, 0, 0] (WL n).length := by
 have h := wL [n, 0, 0, 0]
 have hl := wK [n, 0, 0, 0]
 have e : QB [n, 0, 0, 0] 32 = QB [n, 0, 0, 0] ((32 - (VQ [n, 0, 0, 0]).length) + (VQ [n, 0, 0, 0]).length) := by congr 1; omega
 have h2 := Jde [n, 0, 0, 0] (32 - (VQ [n, 0, 0, 0]).length) (VQ [n, 0, 0, 0]).length
 rw [← e, ← h] at h2; rw [List.drop_left' mf] at h2; exact h2
inductive It : Type
  | mk (l : Bool) (b : BS) (xs : List It) : It
variable {it : It} {rd : Nat → Int × It × Nat}
def It.l : It → Bool
 | .mk l _ _ => l
def It.b : It → BS
 | .mk _ b _ => b
def It.xs : It → List It
 | .mk _ _ xs => xs
def XX (s : BS) : Nat := s.foldl (fun n b => n * 256 + b.toNat) 0
def QJ (n by_ : Nat) : BS := if n < 56 then [UInt8.ofNat (by_ + n)] else UInt8.ofNat (by_ + 55 + (WL n).length) :: WL n
def KZ (s : BS) (by_ : Nat) : BS := QJ s.length by_ ++ s
mutual
def QP : It → BS
 | .mk l b xs => if l then KZ (QL xs) 192 else if b.length = 1 ∧ (b.getD 0 0).toNat < 128 then b else KZ b 128
def QL : List It → BS
 | [] => []
 | x :: r => QP x ++ QL r
end
theorem wP : ∀ a b : List It, QL (a ++ b) = QL a ++ QL b
 | [], _ => rfl
 | x :: r, b => by simp [QL, wP r b]
def Yj (s : BS) (a many : Nat) : Int × Nat × Nat :=
 if many > 3 then (5, 0, 0) else if many > s.length - a - 1 then (3, 0, 0) else
 if (s.getD (a + 1) 0).toNat = 0 ∨ XX ((s.drop (a + 1)).take many) < 56 then (8, 0, 0) else (0, a + 1 + many, XX ((s.drop (a + 1)).take many))
def ZO (s : BS) (a c : Nat) : Int × Nat × Nat := if (c - 128) % 64 ≥ 56 then Yj s a ((c - 128) % 64 - 55) else (0, a + 1, (c - 128) % 64)
def lookE (s : BS) (a : Nat) : Int × Nat × Nat × Bool :=
 if s.length ≤ a then (3, 0, 0, false) else
 if (s.getD a 0).toNat < 128 then (0, a, 1, false) else
 if (ZO s a (s.getD a 0).toNat).1 ≠ 0 then ((ZO s a (s.getD a 0).toNat).1, 0, 0, false) else
 if (ZO s a (s.getD a 0).toNat).2.2 > s.length - (ZO s a (s.getD a 0).toNat).2.1 then (3, 0, 0, false) else
 if (s.getD a 0).toNat = 129 ∧ (s.getD (a + 1) 0).toNat < 128 then (8, 0, 0, false) else
 (0, (ZO s a (s.getD a 0).toNat).2.1, (ZO s a (s.getD a 0).toNat).2.2, decide (192 ≤ (s.getD a 0).toNat))
def XA (rd : Nat → Int × It × Nat) (len : Nat) : Nat → Nat → List It → Nat → Int × List It
 | 0, _, acc, _ => (0, acc)
 | g + 1, i, acc, from_ => if from_ < len then (if i ≥ 512 then (5, acc) else if (rd from_).1 ≠ 0 then ((rd from_).1, acc) else XA rd len g (i + 1) (acc ++ [(rd from_).2.1]) (rd from_).2.2) else (0, acc)
def KE : It := .mk false [] []
def Qf : Nat → BS → Nat → Int × It × Nat
  | 0, s, a => if a < s.length ∧ 192 ≤ (s.getD a 0).toNat then (7, KE, a) else if (lookE s a).1 ≠ 0 then ((lookE s a).1, KE, a) else
      (0, .mk false ((s.take ((lookE s a).2.1 + (lookE s a).2.2.1)).drop (lookE s a).2.1) [], (lookE s a).2.1 + (lookE s a).2.2.1)
  | f + 1, s, a => if (lookE s a).1 ≠ 0 then ((lookE s a).1, KE, a) else if (lookE s a).2.2.2 then
      ((XA (Qf f (s.take ((lookE s a).2.1 + (lookE s a).2.2.1))) ((lookE s a).2.1 + (lookE s a).2.2.1) ((lookE s a).2.2.1 + 1) 0 [] (lookE s a).2.1).1,
       .mk true [] (XA (Qf f (s.take ((lookE s a).2.1 + (lookE s a).2.2.1))) ((lookE s a).2.1 + (lookE s a).2.2.1) ((lookE s a).2.2.1 + 1) 0 [] (lookE s a).2.1).2,
       (lookE s a).2.1 + (lookE s a).2.2.1)
      else (0, .mk false ((s.take ((lookE s a).2.1 + (lookE s a).2.2.1)).drop (lookE s a).2.1) [], (lookE s a).2.1 + (lookE s a).2.2.1)
def WM (s : BS) : It × Int := if s.length > 65536 then (KE, 5) else if (Qf 12 s 0).1 ≠ 0 then (KE, (Qf 12 s 0).1) else if (Qf 12 s 0).2.2 < s.length then (KE, 4) else ((Qf 12 s 0).2.1, 0)
mutual
def yA : Nat → It → Bool
 | f, .mk l b xs => if l then decide (b = []) && decide (xs.length ≤ 512) && (match f with | 0 => false | f + 1 => okL f xs) else decide (xs = [])
def okL : Nat → List It → Bool
 | _, [] => true
 | f, x :: r => yA f x && okL f r
end
theorem Jn9 (s : BS) (b : UInt8) : XX (s ++ [b]) = XX s * 256 + b.toNat := by simp [XX]
theorem Jtk {n : Nat} (h : n < 256) : (UInt8.ofNat n).toNat = n := by simp; omega
theorem dgN {n : Nat} (hi : i < 8) : dg [n, 0, 0, 0] i = n / 256 ^ i % 256 := by
 unfold dg
 rw [show i / 8 = 0 from by omega, show i % 8 * 8 = 8 * i from by omega, Nat.pow_mul]; rfl
theorem Joa : ∀ (s : BS) (a : Nat), s.foldl (fun n b => n * 256 + b.toNat) a = a * 256 ^ s.length + XX s
 | [], a => by simp [XX]
 | b :: r, a => by
  have h := Joa r (a * 256 + b.toNat)
  have h0 := Joa r b.toNat
  simp only [List.foldl_cons, List.length_cons, XX, Nat.zero_mul, Nat.zero_add] at h h0 ⊢; rw [h, h0, Nat.pow_succ, Nat.add_mul, Nat.mul_assoc, Nat.mul_comm 256]; omega
theorem Jdf (b : UInt8) (r : BS) : XX (b :: r) = b.toNat * 256 ^ r.length + XX r := by
 have h := Joa r b.toNat
 rw [← h, XX, List.foldl_cons, Nat.zero_mul, Nat.zero_add]
theorem Jic (n : Nat) : ∀ k, k ≤ 8 → XX (QB [n, 0, 0, 0] k) = n % 256 ^ k
 | 0, _ => by simp [QB, XX, Nat.mod_one]
 | k + 1, h => by
  rw [QB, Jdf, Q7, Jic n k m3, dgN m3, Jtk (Nat.mod_lt _ m7), Nat.mod_pow_succ, Nat.mul_comm, Nat.add_comm]
theorem Jtl {n : Nat} (hn : n < 18446744073709551616) : XX (WL n) = n := by
 have h8 := jG hn
 rw [Jn8, Jic _ _ h8, Nat.mod_eq_of_lt ((YB hn h8).1 (Lc'))]
theorem Jkw {n : Nat} (hn : n < 18446744073709551616) (h0 : n ≠ 0) : 0 < (WL n).length ∧ ((WL n).getD 0 0).toNat ≠ 0 := by
 have h8 := jG hn
 cases e : (WL n).length with
 | zero => have := (YB hn (Nat.zero_le 8)).1 m3; simp at this; omega
 | succ k =>
  refine ⟨by omega, ?_⟩
  have h1 : ¬ n < 256 ^ k := fun h => by have := (YB hn (k := k) m3).2 h; omega
  have h2 : n < 256 ^ (k + 1) := (YB hn m3).1 m3
  rw [Jn8, e, QB, List.getD_cons_zero, Jtk (by rw [dgN m3]; exact Nat.mod_lt _ m7), dgN m3]
  have h3 : 1 ≤ n / 256 ^ k := (Nat.le_div_iff_mul_le (by exact Nat.pow_pos m7)).2 m3
  have h4 : n / 256 ^ k < 256 := (Nat.div_lt_iff_lt_mul (by exact Nat.pow_pos m7)).2 (by rw [Nat.mul_comm, ← Nat.pow_succ]; exact h2)
  omega
theorem Jwl {n : Nat} (h : n < 16777216) : XX (WL n) = n ∧ (WL n).length ≤ 3 := ⟨Jtl m3, (YB m3 m3).2 m3⟩
theorem jH (a b : BS) (x : UInt8) : (a ++ x :: b).getD a.length 0 = x := by simp [List.getD_eq_getElem?_getD]
theorem Jid (a b : BS) (j : Nat) : (a ++ b).getD (a.length + j) 0 = b.getD j 0 := by
 rw [List.getD_eq_getElem?_getD, List.getD_eq_getElem?_getD, List.getElem?_append_right m3, Nat.add_sub_cancel_left]
theorem Job (a b : BS) (j : Nat) : (a ++ b).drop (a.length + j) = b.drop j := by simp [List.drop_append]
theorem Zx {n : Nat} (h : n < 16777216) : 0 < (QJ n by_).length ∧ (QJ n by_).length ≤ 4 := by
 unfold QJ; split
 ·simp
 ·have := (Jwl h).2; simp; omega
theorem Jdg (pre post : BS) {n : Nat} (hn : n < 16777216) (hb : by_ = 128 ∨ by_ = 192) (hl : n ≤ post.length) :
  128 ≤ ((pre ++ (QJ n by_ ++ post)).getD pre.length 0).toNat ∧ decide (192 ≤ ((pre ++ (QJ n by_ ++ post)).getD pre.length 0).toNat) = decide (by_ = 192) ∧
  ZO (pre ++ (QJ n by_ ++ post)) pre.length ((pre ++ (QJ n by_ ++ post)).getD pre.length 0).toNat = (0, pre.length + (QJ n by_).length, n) ∧
  (((pre ++ (QJ n by_ ++ post)).getD pre.length 0).toNat = 129 → by_ = 128 ∧ n = 1) := by
 by_cases h : n < 56
 ·have e : QJ n by_ = [UInt8.ofNat (by_ + n)] := by unfold QJ; rw [if_pos h]
  rw [e, List.cons_append, jH, Jtk m3]
  refine ⟨by omega, by by_cases h2 : by_ = 192 <;> simp [h2] <;> omega, ?_, by omega⟩
  unfold ZO
  rw [if_neg m3, List.length_singleton, show (by_ + n - 128) % 64 = n from by omega]
 ·have e : QJ n by_ = UInt8.ofNat (by_ + 55 + (WL n).length) :: WL n := by unfold QJ; rw [if_neg h]
  obtain ⟨h1, h2⟩ := Jwl hn
  obtain ⟨h3, h4⟩ := Jkw (n := n) m3 m3
  rw [e, List.cons_append, jH, Jtk m3]
  refine ⟨by omega, by by_cases h2 : by_ = 192 <;> simp [h2] <;> omega, ?_, by omega⟩
  unfold ZO
  rw [if_pos m3, show (by_ + 55 + (WL n).length - 128) % 64 - 55 = (WL n).length from by omega]
  unfold Yj
  have e2 : pre ++ UInt8.ofNat (by_ + 55 + (WL n).length) :: (WL n ++ post) = (pre ++ [UInt8.ofNat (by_ + 55 + (WL n).length)]) ++ (WL n ++ post) := by simp
  have e3 : pre.length + 1 = (pre ++ [UInt8.ofNat (by_ + 55 + (WL n).length)]).length + 0 := by simp
  rw [if_neg m3, if_neg mf, e2, e3, Jid, Job]
  have e4 : (WL n ++ post).getD 0 0 = (WL n).getD 0 0 := by
   rw [List.getD_eq_getElem?_getD, List.getElem?_append_left h3, ← List.getD_eq_getElem?_getD]
  rw [e4, List.drop_zero, List.take_left, h1, if_neg m3]
  simp; omega
theorem qw (pre post : BS) {body : BS} (hn : body.length < 16777216) (hb : by_ = 128 ∨ by_ = 192) (h1 : by_ = 128 → body.length = 1 → 128 ≤ (body.getD 0 0).toNat) :
  lookE (pre ++ (KZ body by_ ++ post)) pre.length = (0, pre.length + (QJ body.length by_).length, body.length, decide (by_ = 192)) := by
 have e : KZ body by_ ++ post = QJ body.length by_ ++ (body ++ post) := by simp [KZ]
 rw [e]
 obtain ⟨a1, a2, a3, a4⟩ := Jdg pre (body ++ post) (n := body.length) (by_ := by_) hn hb mf
 obtain ⟨b1, b2⟩ := Zx (by_ := by_) hn
 unfold lookE
 rw [if_neg mL, if_neg m3, a3, a2]; refine EC ?_; rw [if_neg mL, if_neg]; rintro ⟨c1, c2⟩
 obtain ⟨c3, c4⟩ := a4 c1
 have := h1 c3 c4
 have hh : QJ body.length by_ = [UInt8.ofNat (by_ + body.length)] := by unfold QJ; rw [if_pos m3]
 rw [hh] at c2
 have e3 : pre ++ ([UInt8.ofNat (by_ + body.length)] ++ (body ++ post)) = (pre ++ [UInt8.ofNat (by_ + body.length)]) ++ (body ++ post) := by simp
 have e4 : pre.length + 1 = (pre ++ [UInt8.ofNat (by_ + body.length)]).length + 0 := by simp
 rw [e3, e4, Jid] at c2
 have e5 : (body ++ post).getD 0 0 = body.getD 0 0 := by
  rw [List.getD_eq_getElem?_getD, List.getElem?_append_left m3, ← List.getD_eq_getElem?_getD]
 rw [e5] at c2; omega
theorem zP (pre post : BS) {b : UInt8} (h : b.toNat < 128) : lookE (pre ++ (b :: post)) pre.length = (0, pre.length, 1, false) := by
 unfold lookE
 rw [if_neg mf, jH, if_pos h]
theorem Zj (a b c : BS) : ((a ++ (b ++ c)).take (a.length + b.length)) = a ++ b := by
 rw [← Ld', ← C', List.take_left]
theorem Jie (it : It) : 0 < (QP it).length := by
 cases it with
 | mk l b xs =>
  rw [QP]
  have hh : ∀ (s : BS) (k : Nat), 0 < (KZ s k).length := fun s k => by
   unfold KZ QJ; rw [C']; split <;> simp <;> omega
  split
  ·exact hh _ _
  ·split
   ·omega
   ·exact hh _ _
theorem Jdh : ∀ xs : List It, xs.length ≤ (QL xs).length
 | [] => Lc'
 | x :: r => by rw [QL, C', List.length_cons]; have := Jie x; have := Jdh r; omega
theorem Jdi : ∀ {xs : List It} {x : It}, x ∈ xs → (QP x).length ≤ (QL xs).length
 | y :: r, x, h => by
  rw [QL, C']
  rcases F'.1 h with rfl | h
  ·omega
  ·have := Jdi h; omega
theorem Jif {rd : Nat → Int × It × Nat} {s : BS} : ∀ (xs : List It) (pre : BS) (g i : Nat) (acc : List It), s = pre ++ QL xs → xs.length < g → i + xs.length ≤ 512 →
  (∀ x ∈ xs, ∀ p q, s = p ++ (QP x ++ q) → rd p.length = (0, x, p.length + (QP x).length)) → XA rd s.length g i acc pre.length = (0, acc ++ xs)
 | [], pre, g + 1, i, acc, hs, hg, hi, hrd => by
  rw [QL, List.append_nil] at hs; subst hs; rw [XA, if_neg m3, List.append_nil]
 | x :: r, pre, g + 1, i, acc, hs, hg, hi, hrd => by
  have h1 := Jie x
  rw [QL] at hs
  have h2 := hrd x N' pre (QL r) hs
  simp only [List.length_cons] at hg hi; rw [XA, if_pos (by rw [hs]; simp; omega), if_neg m3, h2]; simp only [ne_eq, not_true_eq_false, if_false]
  have := Jif (rd := rd) (s := s) r (pre ++ QP x) g (i + 1) (acc ++ [x]) (by rw [hs]; simp) m3 m3 fun y hy => hrd y (M' hy)
  rw [C'] at this; rw [this]; simp
theorem Jaj : ∀ {f : Nat} {xs : List It}, okL f xs = true → ∀ x ∈ xs, yA f x = true
 | f, y :: r, h, x, hx => by
  rw [okL, Bool.and_eq_true] at h
  rcases F'.1 hx with rfl | hx
  ·exact h.1
  ·exact Jaj h.2 x hx
theorem Joc {b : BS} (h : b.length = 1) : b = [b.getD 0 0] := by
 match b, h with
 | [x], _ => rfl
theorem Jtm : ∀ (f : Nat) (it : It) (pre post : BS), yA f it = true → (QP it).length < 16777216 → Qf f (pre ++ (QP it ++ post)) pre.length = (0, it, pre.length + (QP it).length) := by
 intro f
 induction f with
 | zero =>
  rintro ⟨l, b, xs⟩ pre post hok hlen
  cases l with
  | true => rw [yA] at hok; simp at hok
  | false =>
   rw [yA] at hok; simp at hok; subst hok; rw [QP] at hlen ⊢; simp only [Bool.false_eq_true, if_false] at hlen ⊢
   by_cases h1 : b.length = 1 ∧ (b.getD 0 0).toNat < 128
   ·rw [if_pos h1] at hlen ⊢
    have hb := Joc h1.1
    have hlk := zP pre post (b := b.getD 0 0) h1.2
    have e : pre ++ (b ++ post) = pre ++ (b.getD 0 0 :: post) := congrArg (fun z => pre ++ (z ++ post)) hb
    unfold Qf
    rw [e, hlk, if_neg]
    ·refine EC ?_
     rw [← e, ← h1.1, Zj, List.drop_left]
    ·rw [jH]; omega
   ·rw [if_neg h1] at hlen ⊢
    have hbl : b.length < 16777216 := by unfold KZ at hlen; rw [C'] at hlen; omega
    have hlk := qw pre post (by_ := 128) hbl (.inl rfl) (fun _ h2 => by have := not_and.1 h1 h2; omega)
    unfold Qf
    rw [hlk, if_neg]
    ·refine EC ?_
     have e : pre ++ (KZ b 128 ++ post) = (pre ++ QJ b.length 128) ++ (b ++ post) := by simp [KZ]
     rw [e, ← C', Zj, List.drop_left]
     simp [KZ]; omega
    ·rintro ⟨_, h3⟩
     have e : KZ b 128 ++ post = QJ b.length 128 ++ (b ++ post) := by simp [KZ]
     rw [e] at h3
     have := (Jdg pre (b ++ post) (n := b.length) (by_ := 128) hbl (.inl rfl) mf).2.1
     simp at this h3; omega
 | succ f ih =>
  rintro ⟨l, b, xs⟩ pre post hok hlen
  cases l with
  | false =>
   rw [yA] at hok; simp at hok; subst hok; rw [QP] at hlen ⊢; simp only [Bool.false_eq_true, if_false] at hlen ⊢
   by_cases h1 : b.length = 1 ∧ (b.getD 0 0).toNat < 128
   ·rw [if_pos h1] at hlen ⊢
    have hb := Joc h1.1
    have hlk := zP pre post (b := b.getD 0 0) h1.2
    have e : pre ++ (b ++ post) = pre ++ (b.getD 0 0 :: post) := congrArg (fun z => pre ++ (z ++ post)) hb
    unfold Qf
    rw [e, hlk]; simp only [ne_eq, not_true_eq_false, if_false, Bool.false_eq_true]; rw [← e, ← h1.1, Zj, List.drop_left]
   ·rw [if_neg h1] at hlen ⊢
    have hbl : b.length < 16777216 := by unfold KZ at hlen; rw [C'] at hlen; omega
    have hlk := qw pre post (by_ := 128) hbl (.inl rfl) (fun _ h2 => by have := not_and.1 h1 h2; omega)
    unfold Qf
    rw [hlk]; refine EC ?_
    have e : pre ++ (KZ b 128 ++ post) = (pre ++ QJ b.length 128) ++ (b ++ post) := by simp [KZ]
    rw [e, ← C', Zj, List.drop_left]
    simp [KZ]; omega
  | true =>
   rw [yA] at hok; simp at hok
   obtain ⟨⟨rfl, hxl⟩, hxs⟩ := hok
   rw [QP, if_pos rfl] at hlen ⊢
   have hbl : (QL xs).length < 16777216 := by unfold KZ at hlen; rw [C'] at hlen; omega
   have hlk := qw pre post (by_ := 192) hbl (.inr rfl) (fun h => by omega)
   unfold Qf
   rw [hlk]; simp only [ne_eq, not_true_eq_false, if_false, decide_true, if_true]
   have e : pre ++ (KZ (QL xs) 192 ++ post) = (pre ++ QJ (QL xs).length 192) ++ (QL xs ++ post) := by simp [KZ]
   rw [e, ← C', Zj]
   have hl := Jif (rd := Qf f (pre ++ QJ (QL xs).length 192 ++ QL xs)) (s := pre ++ QJ (QL xs).length 192 ++ QL xs) xs (pre ++ QJ (QL xs).length 192) ((QL xs).length + 1) 0 [] rfl
    (by have := Jdh xs; omega) m3 (fun x hx p q hpq => by rw [hpq]; exact ih x p q (Jaj hxs x hx) (by have := Jdi hx; omega))
   have e9 : (pre ++ QJ (QL xs).length 192).length + (QL xs).length = (pre ++ QJ (QL xs).length 192 ++ QL xs).length := (C' ..).symm
   rw [e9, hl]
   simp [KZ]
theorem J0s (hok : yA 12 it = true) (hl : (QP it).length ≤ 65536) : WM (QP it) = (it, 0) := by
 have := Jtm 12 it [] [] hok m3
 simp at this
 unfold WM
 rw [if_neg m3, this]
 simp
structure AxE : Type where
  addr : BS
  keys : List BS
deriving DecidableEq
variable {acc : List AxE}
structure AuE : Type where
  chain : Nat
  addr : BS
  nonce : Nat
  y : Nat
  r : W4
  s : W4
deriving DecidableEq
structure TxE : Type where
  kind : Int
  chain : Nat
  nonce : Nat
  tip : W4
  price : W4
  gas : Nat
  dest : BS
  value : W4
  data : BS
  access : List AxE
  auths : List AuE
  y : Nat
  r : W4
  s : W4
  source : BS
  from_ : BS
  mint : W4
  system : Bool
deriving DecidableEq
def tx0 : TxE := ⟨0, 0, 0, w40, w40, 0, [], w40, [], [], [], 0, w40, w40, [], [], w40, false⟩
structure AuE.ok (a : AuE) : Prop where
  chain : VL a.chain
  nonce : VL a.nonce
  y : VL a.y
  r : a.r.ok
  s : a.s.ok
structure TxE.ok (t : TxE) : Prop where
  chain : VL t.chain
  nonce : VL t.nonce
  tip : t.tip.ok
  price : t.price.ok
  gas : VL t.gas
  value : t.value.ok
  auths : ∀ a ∈ t.auths, a.ok
  y : VL t.y
  r : t.r.ok
  s : t.s.ok
  mint : t.mint.ok
def Q4 (s : BS) : It := .mk false s []
def Xq (xs : List It) : It := .mk true [] xs
def Yk (n : Nat) : It := Q4 (WL n)
def Yl (w : W4) : It := Q4 (VQ w.l)
def J0t (b : Bool) : It := Q4 (if b then [1] else [])
def WS (l : List BS) : It := Xq (l.map Q4)
def axI (a : AxE) : It := Xq [Q4 a.addr, WS a.keys]
def auI (a : AuE) : It := Xq [Yk a.chain, Q4 a.addr, Yk a.nonce, Yk a.y, Yl a.r, Yl a.s]
def vE (chain y : Nat) : Nat := if chain = 0 then 27 + y else 35 + 2 * chain + y
def J0u (t : TxE) : List It :=
 if t.kind = 126 then [Q4 t.source, Q4 t.from_, Q4 t.dest, Yl t.mint, Yl t.value, Yk t.gas, J0t t.system, Q4 t.data] else
 if t.kind = 0 then [Yk t.nonce, Yl t.price, Yk t.gas, Q4 t.dest, Yl t.value, Q4 t.data, Yk (vE t.chain t.y), Yl t.r, Yl t.s] else
 [Yk t.chain, Yk t.nonce] ++ (if t.kind = 1 then [] else [Yl t.tip]) ++ [Yl t.price, Yk t.gas, Q4 t.dest, Yl t.value, Q4 t.data, Xq (t.access.map axI)] ++
  (if t.kind = 4 then [Xq (t.auths.map auI)] else []) ++ [Yk t.y, Yl t.r, Yl t.s]
def ZK (t : TxE) : TxE :=
  if t.kind = 126 then { tx0 with kind := t.kind, gas := t.gas, dest := t.dest, value := t.value, data := t.data, source := t.source, from_ := t.from_, mint := t.mint, system := t.system } else
  { tx0 with kind := t.kind, gas := t.gas, dest := t.dest, value := t.value, data := t.data, chain := t.chain, nonce := t.nonce, price := t.price, y := t.y, r := t.r, s := t.s,
             auths := if t.kind = 4 then t.auths else [], tip := if t.kind = 4 ∨ t.kind = 2 then t.tip else w40, access := if t.kind = 4 ∨ t.kind = 2 ∨ t.kind = 1 then t.access else [] }
def Wh (a : AxE) : Bool := decide (a.addr.length ≠ 20) || a.keys.any fun s => decide (s.length ≠ 32)
def W6 (a : AuE) : Bool := decide (a.addr.length ≠ 20) || decide (a.y > 1)
def toB (t : TxE) : Bool := decide (t.dest = []) || decide (t.dest.length = 20)
def Qd (t : TxE) : Bool :=
 if t.y > 1 ∨ t.access.any Wh = true ∨ t.auths.any W6 = true then false else
 if t.kind = 0 then decide (t.chain ≤ 4611686018427387904) && toB t else
 if t.kind = 4 then decide (t.dest.length = 20) && decide (0 < t.auths.length) else
 if t.kind = 126 then decide (t.source.length = 32) && decide (t.from_.length = 20) && toB t else toB t
def jI (t : TxE) : Bool := decide (t.data.length > 4096) || decide (t.access.length > 16) || (t.access.any fun a => decide (a.keys.length > 16)) || decide (t.auths.length > 8)
def Qp (k : Int) : Nat := if k = 0 then 9 else if k = 1 then 11 else if k = 2 then 12 else if k = 4 then 13 else if k = 126 then 8 else 0
def X0 (t : TxE) : Int := if Qp t.kind = 0 then 9 else if t ≠ ZK t ∨ Qd t = false then 2 else if jI t then 5 else 0
def J2k (k : Int) : BS := if k = 0 then [] else [UInt8.ofNat k.toNat]
def J0v (t : TxE) : BS := J2k t.kind ++ QP (Xq (J0u t))
open Go.Proofs (Enters enters_of)
section
variable {c : Cx} {l : KY} {L E : J3} {X : XP} {Q : Exit → Act → World → Prop} {d : List Deferred}
variable {ops : Array Oper} {rest : List Nat} {i k : Nat} {v : Value} {o : Oper} {tb : YV} {S : J3} {T : J3 → Act → Prop}
theorem VV {t : TypeId} {n e : Nat} {pa : List (Nat × Operand)} {vs : KY} {r zs : List Value} {z : Value} (hk : X3 ops.toList k = some ⟨some i, .buildSlice t n pa.toArray, ty, ps, af, gd⟩) (hg : KW l ops ⟨some i, .buildSlice t n pa.toArray, ty, ps, af, gd⟩ = some true) (hi : Nat.ble (i + 1) c.n = true)
  (hA : tb k = .grow (Wg (slV n) (.cells r.toArray e (0, 0))))
  (hp : X5 l pa = some vs) (ht : Q5 c.P t = some e) (hz : Vo c.P e = some z) (hs : Q9 c.P e = some sz) (hzs : z.cells.size = sz) (hb : Nat.ble (n * sz) 16777216 = true) (h0 : Nat.ble 1 (n * sz) = true)
  (hmk : (madeCells z.cells (n * sz)).toList = zs) (hf : ZN (fun i => some (i * sz, sz)) zs (Vp vs) = some r)
  (h : ∀ q, HB c d ((i, .slice (some ⟨q, 0, none⟩) n n) :: l) ((q, .cells r.toArray e (0, 0)) :: E) X S ops tb rest T) : HB c d l E X S ops tb (k :: rest) T :=
 Jmy (V := slV n) hk hg rfl hi hA (fun a w hfr => by
  have h1 := Wn hfr hp
  have h2 : (pa.toArray.map fun (p : Nat × Operand) => (p.1, a.eval p.2)) = vs.toArray := by
   apply Array.toList_inj.1; rw [Array.toList_map]; simpa using h1
  rw [Vt] at hf; subst hmk
  have h3 := Xe ht hz hs hzs (H' hb) (H' h0) hf w
  rw [← h2] at h3; refine HZ ?_
  have h4 : (Instr.buildSlice t n (pa.toArray.map fun (i, x) => (i, a.eval x))).run c.P w = .ok (.slice (some ⟨w.heap.size, 0, none⟩) n n) (w.alloc (.cells r.toArray e)) := h3
  rw [h4]; rfl) h
theorem KH  {T0 L0 : J3} {f : Operand} {args : Array Operand} {E' : α → J3}
  (hp : E.Perm (T0 ++ L0)) (hE : ∀ x, (LL x ++ L0).Perm (E' x)) (hk : X3 ops.toList k = some ⟨some i, .call ⟨.value f, args, at_⟩, ty, ps, af, gd⟩) (hg : KW l ops ⟨some i, .call ⟨.value f, args, at_⟩, ty, ps, af, gd⟩ = some true) (hi : Nat.ble (i + 1) c.n = true) (hA : tb k = .turn) (hca : Qw l f args = some (g, vs)) (eg : Enters c.P g)
  (hpt : PureT c.P g vs.toArray V T0 LL Rl) (hR : ∀ p ∈ Rl, known c L0 p.1 p.2) (hS : ∀ x, SubS S (E' x)) (h : ∀ x, HB c d ((i, V x) :: l) (E' x) X S ops tb rest T) : HB c d l E X S ops tb (k :: rest) T := fun a hf => by
 refine ⟨_, Vn hk, ?_⟩; rw [hA]; refine .inl ⟨α, V, E', ⟨Kh hf hg, fun w hs => ?_⟩, fun x => ⟨hS x, h x _ (hf.put (H' hi))⟩⟩
 have hs := hs.perm hp
 obtain ⟨hd1, _, hd3⟩ := List.pairwise_append.1 hs.distinct
 refine jy hf hca eg ((hpt.run w (fun p hp => (hs.own p (W' hp)).2.2) (fun p hp => ?_) hd1 (fun p hp q hq => ?_)).mono fun _ _ ⟨x, he, hk, h1, h2⟩ => ⟨V x, he, x, rfl, (hs.turnT hk h1 h2).perm (hE x)⟩)
 ·exact (hR p hp).elim (fun h => (hs.own _ (Y' h)).2.2) hs.readR
 ·rcases hR p hp with h | h
  ·exact fun e => hd3 q hq _ h e.symm
  ·rintro e
   obtain ⟨h1, _, h3⟩ := hs.ext _ h
   have h3 := JM h3
   rcases (hs.own q (W' hq)).1 with h4 | h4
   ·exact h1 (e ▸ h4)
   ·simp only at h3 e; omega
end
theorem WA {c : Cx} {l : KY} {E : J3} {X : XP} {d : List Deferred} {ops : Array Oper} {rest : List Nat} {k : Nat} {tb : YV} {S : J3} {T : J3 → Act → Prop} {t : TypeId} {x y : Operand} {off n : Nat} {cs cs' : Array Value} {vs : Array Value} {e : TypeId} {E' : J3} (hko : X3 ops.toList k = some ⟨none, .store t x y, ty, ps, af, gd⟩) (hg : KW l ops ⟨none, .store t x y, ty, ps, af, gd⟩ = some true) (hA : tb k = .turn)
  (hx : KU l x = some (.pointer (some ⟨r, off, none⟩))) (hk : E[q]? = some (r, .cells cs e (0, 0))) (hy : KU l y = some (.agg vs)) (ht : Q9 c.P t = some n) (hn : vs.size = n) (ho : vs.toList.all VU = true) (hc : off + n ≤ cs.size)
  (hcs : (cs.toList.take off ++ vs.toList ++ cs.toList.drop (off + n)).toArray = cs') (hL : E.set q (r, .cells cs' e (0, 0)) = E') (hS : SubS S E')
  (h : HB c d l E' X S ops tb rest T) : HB c d l E X S ops tb (k :: rest) T :=
 wq hko hg rfl hA (fun a w hf hs => ⟨w.setRow r cs', by
  simp only [execOp]; rw [hf.eval hx, hf.eval hy]
  have h1 := run_storeCells_at (P := c.P) r off e vs.toList 0 cs w (hs.get hk) MD (fun u hu => by rw [X4]; exact List.all_eq_true.1 ho u hu)
  simp only [Nat.add_zero, Array.length_toList, hn] at h1; rw [hcs] at h1
  simp [Instr.storeAt, Instr.sureAddr, Sem.run_bind, Result.andThen, storeVar, Vz ht, Value.cells, hn, h1], by
  subst hL
  exact hs.set hk (Keep.setRow r cs') (setRow_heap _ _ _ _ _ _ (hs.get hk))⟩) hS h
section
variable {c : Cx} {l : KY} {L : J3} {X : XP} {Q : Exit → Act → List Frame → World → Prop} {d : List Deferred} {cs : List Frame}
variable {ops : Array Oper} {rest : List Nat} {k : Nat} {o : Oper}
theorem XB (h : HS c d l L X ops rest cs Q) : HQ c d l L X ((fun e a w => e = Exit.normal ∧ wpOpsSIn (FW none) 0 c.P ops Q rest a cs w) .normal) := fun a w hf hs => ⟨rfl, h a w hf hs⟩
theorem Zk (ho : X3 ops.toList k = some o) (hp : ∀ (ρ : Operand → Value) w x w', (execOp ρ o).run c.P w = .ok x w' → (∃ v, x = .value v) ∨ x = .skip) (hn : KM o.op = true) (hro : c.ro = none) (h : HL c d l L X ops [o] (fun e a w => e = Exit.normal ∧ wpOpsSIn (FW none) 0 c.P ops Q rest a cs w)) : HS c d l L X ops (k :: rest) cs Q := fun a w hf hs => by
 have hk : ops[k]? = some o := by rw [← Vn ho]
 have h1 := h a w hf hs
 unfold wpListIn at h1
 simp only [wpOpsSIn, hk]; refine ⟨Qc, ?_⟩
 by_cases hw : Region.wanted o (yielded ops a.tmps) = true
 ·rw [if_pos hw] at h1 ⊢
  obtain ⟨_, h2⟩ := h1
  rw [Oper.semAt_eq _ _ _ (VJ hn)] at h2
  cases e : (execOp a.eval o).run c.P w with
  | ok x w' =>
   rw [e] at h2
   rcases hp a.eval w x w' e with ⟨v, rfl⟩ | rfl
   ·exact h2.2
   ·exact h2.2
  | halt x w' =>
   rw [e] at h2
   cases x with
   | panic v => exact absurd h2.1 mf
   | _ => exact h2.elim
 ·rw [if_neg hw] at h1 ⊢
  exact h1.2.2
theorem XC  {t : TypeId} (ρ : Operand → Value) (w : World) (x : Next) (w' : World) (h : (execOp ρ ⟨dst, .alloc t, ty, ps, af, gd⟩).run P w = .ok x w') : (∃ v, x = .value v) ∨ x = .skip := by
 simp only [execOp, Sem.run_bind] at h
 cases e : (Instr.alloc t true (.tuple #[])).run P w with
 | ok v w2 => rw [e] at h; simp [Result.andThen] at h; exact .inl ⟨v, h.1.symm⟩
 | halt v w2 => rw [e] at h; simp [Result.andThen] at h
theorem XD  {t : TypeId} {a b : Operand} (ρ : Operand → Value) (w : World) (x : Next) (w' : World) (h : (execOp ρ ⟨dst, .store t a b, ty, ps, af, gd⟩).run P w = .ok x w') : (∃ v, x = .value v) ∨ x = .skip := by
 simp only [execOp, Sem.run_bind] at h
 cases e : (Instr.storeAt t (ρ a) (ρ b)).run P w with
 | ok v w2 => rw [e] at h; simp [Result.andThen] at h; exact .inr h.1.symm
 | halt v w2 => rw [e] at h; simp [Result.andThen] at h
end
abbrev Kj (r : Nat) : Value := .pointer (some ⟨r, 0, none⟩)
abbrev pB (own : Bool) (r : Nat) : Value := .pointer (if own then some ⟨r, 0, none⟩ else none)
def Jak (r : Nat) (s : BS) (row : QZ) (own : Bool) : Nat × Obj := (r, .cells #[pB own r, JV s.length row] 154 (0, 0))
def VF (r : Nat) (s : BS) (row : QZ) (own : Bool) : J3 := Jak r s row own :: J9 5 (s.map bV) row
def bOk (s : BS) (row : QZ) : Prop := rowOk 1 s.length (s.map bV) row ∧ (s = [] → row = none)
theorem Jdj (r : Nat) (own : Bool) (v : Value) : PureT (α := Unit) prog 172 [Kj r].toArray (fun _ => .tuple #[]) [(r, .cells #[pB own r, v] 154 (0, 0))] (fun _ => [(r, .cells #[pB true r, v] 154 (0, 0))]) [] := by
 cases own with
 | false =>
  refine Jq Tryz.func172 O O fun w => Kl (Di ?_); refine LR O (Jc (v := .pointer none) O (kn 0 O) O O) (LR O (Jmu O O O O) (Dt ?_)); refine cD (fun g => ?_) fun g => ?_
  refine gz ?_; refine LR O (Jff (sz := 2) O (kn 0 O) O O O m7 mf) (LR O (Jfg O O (Tryz.func229) m4 O O O) (LR O (xN O (kn 0 O) O O O m4) (Ho ?_))); refine Jm (k := 0) (cs' := #[Kj r, v]) O O O O O O O O O O (JD 1 O (Gy fun w1 hs1 => ?_)); exact ⟨(), rfl, hs1⟩
  try exact Bool.noConfusion g
 | true =>
  refine Jq Tryz.func172 O O fun w => Kl (Di ?_); refine LR O (Jc (v := Kj r) O (kn 0 O) O O) (LR O (Jmv O O O O) (Dt ?_)); refine Jl O (fun g => ?_) (fun g => ?_)
  try exact Bool.noConfusion g
  ·refine Di ?_; refine LR O (Jc (v := Kj r) O (kn 0 O) O O) (JI O (LR O (Jmt O O O O) (JP 2 O ?_))); refine Jl O (fun g => ?_) (fun g => ?_)
   try exact Bool.noConfusion g
   ·try simp only [ZZ] at g
    refine KF 1 O (Gy fun w1 hs1 => ?_); exact ⟨(), rfl, hs1⟩
theorem jJ (r : Nat) (s : BS) (row : QZ) (own : Bool) : PureT (α := Unit) prog 172 [Kj r].toArray (fun _ => .tuple #[]) [Jak r s row own] (fun _ => [Jak r s row true]) [] := Jdj r own _
theorem YC  {s2 : BS} (hb : bOk s row) (hl : s.length + s2.length ≤ 1000000) :
  PureT (α := { x : QZ // bOk (s ++ s2) x }) prog 77 [Kj r, Jk s2].toArray (fun _ => .tuple #[.int .i64 (s2.length : Int), .nilIface]) (VF r s row own) (fun x => VF r (s ++ s2) x.1 true) [] := by
 refine Jq Tryz.func77 O O fun w => Kl ?_
 unfold VF
 refine Jv 9 O (GB fun u => ?_); refine JI O (Jfe (e := 5) (s := s) (s2 := s2) (row := row) (L0 := [Jak r s row true]) (B' (l₁ := [_])) O O O O O O O O O hb.1 hb.2 m3 fun row2 h1 h2 => (JY B' ?_)); change HL _ _ _ ((r, .cells #[pB true r, JV s.length row] 154 (0, 0)) :: J9 5 ((s ++ s2).map bV) row2) _ _ _ _; refine Ho ?_; refine Jm (k := 0) (cs' := #[pB true r, JV (s ++ s2).length row2]) O O O O O (Jna _ _) O O O O (kB ?_); refine Nz ?_; refine G4 ?_; refine MT fun w1 hs1 => ?_; exact ⟨⟨row2, h1, h2⟩, rfl, hs1⟩
theorem Jal (hb : bOk s row) (hl : s.length ≤ 1000000) :
  PureT (α := Unit) prog 78 [Kj r].toArray (fun _ => Jk s) (VF r s row own) (fun _ => []) [] := by
 have hcap : ∀ q cap sp, row = some (q, cap, sp) → cap ≠ 0 := by
  rintro q cap sp rfl h0
  obtain ⟨⟨h1, h2⟩, h3⟩ := hb
  have h4 : s.length = 0 := by omega
  have := h3 (List.eq_nil_of_length_eq_zero h4)
  cases this
 refine Jq Tryz.func78 O O fun w => Kl ?_
 unfold VF
 refine gv ?_
 refine Kk [] [(0, .pure), (1, .pure), (2, .pure), (4, .pure), (5, .pure), (6, .pure), (7, .pure), (9, .pure)] 10 [0, 1, 2, 3, 4, 5, 6, 7, 8, 9] m4 m4 mb (NE ?_); refine Xk (k := 3) O O O O O (Jc (v := JV s.length row) O (kn 0 O) O O) (Jr (k := 4) O O O O O (fun _ _ => xM O hcap) (Jr (k := 5) O O O O O (fun _ hS => (Jw O)) (Jr (k := 6) O O O O O (fun _ hS => (JH O O O)) ?_)))
 refine Jr (k := 7) O O O O O (fun _ hS => (Ja O O m0)) (Xk (k := 8) O O O O O (Jc (v := JV s.length row) O (kn 0 O) O O) (Jr (k := 9) O O O O O (fun _ _ => jw O hb.1.zero O) (KJ (vg (e := 5) (s := s) (row := row) (L0 := [Jak r s row own]) (B' (l₁ := [_])) O O O O O O hb.1 hb.2 m3 (gA ?_))))); refine N3 fun w1 hs1 => ?_; exact ⟨(), rfl, hs1.weakL (S')⟩
inductive ItL : Type
  | mk (l : Bool) (b : BS) (p : Pl) (xs : List ItL) : ItL
variable {x y : ItL} {its ys : List ItL}
def ItL.l : ItL → Bool
 | .mk l _ _ _ => l
def ItL.b : ItL → BS
 | .mk _ b _ _ => b
def ItL.p : ItL → Pl
 | .mk _ _ p _ => p
def ItL.xs : ItL → List ItL
 | .mk _ _ _ xs => xs
def ItL.cells : ItL → List Value
 | .mk l b p xs => [.bool l, Jk b, Km xs.length p]
def ItL.val (t : ItL) : Value := .agg t.cells.toArray
def ItL.er : ItL → It
 | .mk l b _ xs => .mk l b (xs.map ItL.er)
theorem ItL.len (t : ItL) : t.cells.length = 3 := by cases t; rfl
theorem ItL.one (t : ItL) : t.cells.all VU = true := by cases t; rfl
inductive ItL.In (R : J3) : ItL → Prop
  | mk {l : Bool} {b : BS} {p : Pl} {xs : List ItL} (hb : b.length ≤ 1000000) (hl : xs.length ≤ 1000000) (hs : Seg R xs.length (xs.flatMap ItL.cells) p) (hi : ∀ x ∈ xs, ItL.In R x) : ItL.In R (.mk l b p xs)
theorem ItL.In.mono (hs : ∀ q ∈ R, q ∈ R') {t : ItL} (h : ItL.In R t) : ItL.In R' t := by
 induction h with
 | mk hb hl h1 h2 ih => exact .mk hb hl (h1.mono hs) ih
theorem ItL.In.sub {t : ItL} (h : ItL.In R t) : ∀ x ∈ t.xs, ItL.In R x := by cases h; assumption
theorem ItL.In.seg {t : ItL} (h : ItL.In R t) : Seg R t.xs.length (t.xs.flatMap ItL.cells) t.p := by cases h; assumption
theorem ItL.In.hb {t : ItL} (h : ItL.In R t) : t.b.length ≤ 1000000 := by cases h; assumption
theorem ItL.In.hl {t : ItL} (h : ItL.In R t) : t.xs.length ≤ 1000000 := by cases h; assumption
theorem ItL.er_l (t : ItL) : t.er.l = t.l := by cases t; rw [ItL.er]; rfl
theorem ItL.er_b (t : ItL) : t.er.b = t.b := by cases t; rw [ItL.er]; rfl
theorem ItL.er_xs (t : ItL) : t.er.xs = t.xs.map ItL.er := by cases t; rw [ItL.er]; rfl
def Kv (s : BS) : ItL := .mk false s none []
theorem Q8 (h : s.length ≤ 1000000) : (Kv s).In R := .mk h (Z') rfl (fun _ h => nomatch h)
theorem Wu (s : BS) : (Kv s).er = Q4 s := by unfold Kv; rw [ItL.er]; rfl
structure ItR (R : J3) (e : It) : Type where
  x : ItL
  L : J3
  h : x.In (L ++ R)
  e : x.er = e
def itL0 : ItL := Kv []
def Kq (l : List ItL) : List Value := l.flatMap ItL.cells
def Qu (l : List BS) : List Value := l.map Jk
theorem Jig (l : List ItL) : (Kq l).length = l.length * 3 := j6 ItL.len l
theorem Jam (s : BS) : Pure prog 38 [Jk s].toArray (Kv s).val := by
 refine JA Tryz.func38 O O fun w => ?_; exact EZ
theorem Jdk {n : Nat} (hn : n < 18446744073709551616) : Pure prog 39 [uV n].toArray (Kv (WL n)).val := by
 refine JA Tryz.func39 O O fun w => kT fun r1 => ?_; refine kB ?_; refine JC O O O (enters_of Tryz.func111 m4 O) (Jdc hn) (JC O O O Js6 (Jam _) (Je (k := 0) (n := 3) (ys := (Kv (WL n)).cells) O O O O O O O O O ?_)); exact G3
def Jwm (v : Value) : Value := .agg [.bool true, Jk [], v].toArray
theorem Joe (a : Option Addr) (n k : Nat) : Pure prog 34 [.slice a n k].toArray (Jwm (.slice a n k)) := by
 refine JA Tryz.func34 O O fun w => ?_; exact EZ
theorem Jof {f : α → ItL} {l : List α} {y : α} (h : l[i]? = some y) : Kq ((l.take i).map f) ++ (f y).cells = Kq ((l.take (i + 1)).map f) := by
 rw [List.take_add_one, h, Option.toList_some, List.map_append, Kq, Kq, List.flatMap_append]; simp
structure ItN (e : It) : Type where
  x : ItL
  L : J3
  h : x.In L
  e : x.er = e
theorem KK {n : Nat} (h : rowOk sz n cs row) : JV n row = Km n (Ke row) := (Jxz _ _ (fun e => by rw [e] at h; exact h.1)).symm
theorem Jan {xs : List ItL} {e : TypeId} (hl : xs.length ≤ 1000000) (ho : rowOk 3 xs.length (Kq xs) row) (hr : ∀ q ∈ J9 e (Kq xs) row, q ∈ R) (hx : ∀ x ∈ xs, x.In R) :
  (ItL.mk true [] (Ke row) xs).In R := .mk mf hl ((Ks (e := e) ho m7).mono hr) hx
theorem Jao (p : Pl) (xs : List ItL) : (ItL.mk true [] p xs).er = Xq (xs.map ItL.er) := by rw [ItL.er]; rfl
theorem Jdl (l : List BS) : (l.map Kv).map ItL.er = l.map Q4 := by
 rw [List.map_map]; exact List.map_congr_left fun s _ => Wu s
theorem Jto {l : List BS} {p : Pl} (hl : l.length ≤ 100000) (hs : Seg R l.length (Qu l) p) (hb : ∀ s ∈ l, s.length ≤ 1000000) :
  PureT (α := ItN (WS l)) prog 40 [Km l.length p].toArray (fun y => y.x.val) [] (fun y => y.L) R := by
 refine Jq Tryz.func40 O O fun w => kT fun r1 => ?_; refine kV ?_; refine JC O O O (enters_of Tryz.func34 m4 O) (Joe none 0 0) (LN O fun r2 => ?_)
 refine N1 ?_; refine gp ?_; refine No ?_; refine JQ (σ := Nat × QZ) (fun q => q.1 ≤ l.length ∧ rowOk 3 q.1 (Kq ((l.take q.1).map Kv)) q.2) (fun q => [(2, Kj r1), (3, Kj r2), (7, Km l.length p), (8, .int .i64 (l.length : Int)), (9, .int .i64 (q.1 : Int))]) (fun q => (r2, .cells #[.bool true, Jk [], JV q.1 q.2] 91 (0, 0)) :: (r1, .cells #[.bool false, Jk [], .slice none 0 0] 91 (0, 0)) :: J9 91 (Kq ((l.take q.1).map Kv)) q.2) (fun _ _ _ => True) (fun q => l.length - q.1) (0, none) ⟨Z', rfl, rfl⟩ (lK O) (T') (fun _ _ h => h) ?_; rintro ⟨i, row⟩ ⟨hi1, hrow⟩; simp only at hi1 hrow; change HC _ _ [(2, Kj r1), (3, Kj r2), (7, Km l.length p), (8, .int .i64 (l.length : Int)), (9, .int .i64 (i : Int))] ((r2, .cells #[.bool true, Jk [], JV i row] 91 (0, 0)) :: (r1, .cells #[.bool false, Jk [], .slice none 0 0] 91 (0, 0)) :: J9 91 (Kq ((l.take i).map Kv)) row) _ _ _; refine gv ?_; refine cD (fun g => ?_) fun g => ?_
 ·refine Hu ?_
  obtain ⟨y, hy, hmy⟩ := Vh nU
  refine HI ?_
  refine Nq ?_; refine LR O (Qr oR O hs m3 O (show (Qu l)[i]? = some (Jk y) from by unfold Qu; rw [List.getElem?_map, hy]; rfl)) ?_; refine NQ ?_
  refine Kk [(r2, .cells #[.bool true, Jk [], JV i row] 91 (0, 0))] [(0, .pure), (1, .pure), (2, .pure), (3, .pure), (4, .grow (Wg (slV 1) (.cells (Kv y).cells.toArray 91 (0, 0))))] 5 [0, 1, 2, 3, 4] m4 m4 mb ?_
  refine gM ?_; refine NP ?_; refine ku ?_; refine VD (k := 3) O O O O O Js6 (Jam y) (VV (k := 4) (n := 1) (sz := 3) (vs := [_]) (zs := [_, _, _]) (r := (Kv y).cells) O O O O O O O O O O O n5 O fun rb => KJ (Kw (L0 := [_, _, _]) (xs := Kq ((l.take i).map Kv)) (row := row) (n := i) (sz := 3) (b := 48) (news := (Kv y).cells) (B' (l₁ := [_, _, _])) O O O O (kn 0 O) O O O O O m7 O O O m7 hrow m3 m3 fun ra cap sp hra => ?_))
  refine MP ?_; refine Jm (k := 2) (cs' := #[.bool true, Jk [], JV (i + 1) (some (ra, cap, sp))]) O O O O O O O O O O (kB ?_); refine gK ?_; rw [Jof hy] at hra ⊢; refine QO [2, 3, 0] (L' := [_, _, _]) m7 O ?_; exact JL (i + 1, some (ra, cap, sp)) ⟨by simp only; omega, hra⟩ mj (lK rfl) (T') (fun _ _ h => h)
 ·refine gv ?_
  have honeV : ([.bool true, Jk [], JV i row] : List Value).all VU = true := by cases row <;> rfl
  refine HI ?_; refine LR O (Ji (xs := [.bool true, Jk [], JV i row]) (n := 3) O (kn 0 O) O O O) (Je (k := 1) (n := 3) (ys := [.bool true, Jk [], JV i row]) O O O O O O O honeV O (GN ?_)); refine Jh O O (.cons (Jj (vs := [_, _, _]) O (kn 1 O) O O) .nil) (fun w1 hs1 => ?_)
  have hiM : i = l.length := by omega
  rw [hiM, List.take_length] at hrow hs1
  have hrow2 : rowOk 3 (l.map Kv).length (Kq (l.map Kv)) row := by rw [D']; exact hrow
  have hvr : JV i row = Km (l.map Kv).length (Ke row) := by rw [hiM, D']; exact KK hrow
  exact ⟨⟨.mk true [] (Ke row) (l.map Kv), J9 91 (Kq (l.map Kv)) row, Jan mM hrow2 (fun q h => h) (fun x hx => by obtain ⟨s, hs, rfl⟩ := List.mem_map.1 hx; exact Q8 (hb s hs)), by rw [Jao, Jdl]; rfl⟩, congrArg (fun z => Ending.returned (Value.agg #[.bool true, Jk [], z])) hvr, hs1.weakL (.cons _ (.cons _ (T')))⟩
theorem Jog : ∀ l : List BS, Lib.join l [] = l.flatten
 | [] => rfl
 | [x] => by simp [Lib.join, List.intercalate]
 | x :: y :: r => by
  have := Jog (y :: r)
  unfold Lib.join List.intercalate at this ⊢
  simp only [List.intersperse_cons₂, List.flatten_cons] at this ⊢; rw [this]; simp
theorem wQ {n : Nat} {a : Addr} (h : Seg R n cs (some (a, cap))) (hn : 0 < n) (hR : jn R w) : a.spot = none ∧ a.block < w.heap.size ∧ ∀ (j : Nat) v, cs[j]? = some v → w.cell? ⟨a.block, a.off + j, none⟩ = some v := by
 obtain ⟨h1, h2⟩ := h
 obtain ⟨h3, all, e, fr, h4, h5⟩ := h2 hn
 have h6 := hR _ h4
 refine ⟨h3, JM h6, fun j v hv => ?_⟩; rw [VY h6, ← Array.getElem?_toList]; exact Jcl h5 hv
theorem Jfz {l : List BS} {p : Pl} (hs : Seg R l.length (Qu l) p) (hl : l.flatten.length ≤ 1000000000) (hn : l.length ≤ 1000000000) :
    PureR prog 177 [Km l.length p, Jk []].toArray (Jk l.flatten) R := ⟨fun w hR => by
  by_cases h0 : l.length = 0
  · obtain rfl := List.eq_nil_of_length_eq_zero h0
    exact (Tryz.strings_Join_none (plA p) (plC p) ⟨#[]⟩ w).mono fun _ _ ⟨h1, h2⟩ => ⟨h1, h2 ▸ Keep.refl _ _⟩
  · cases p with
    | none => exact absurd hs h0
    | some q =>
      obtain ⟨a, cap⟩ := q
      obtain ⟨h1, h2, h3⟩ := wQ hs m3 hR
      obtain ⟨b, o, sp⟩ := a
      simp only at h1; subst h1
      have hm : (l.map bs).map (·.data.toList) = l := by rw [List.map_map]; conv => rhs; rw [← List.map_id l]
                                                         exact List.map_congr_left fun s _ => rfl
      have := Tryz.strings_Join b o cap (l.map bs) ⟨#[]⟩ w (fun j x hx => h3 j _ (by
        rw [List.getElem?_map] at hx
        unfold Qu; rw [List.getElem?_map]
        cases e : l[j]? with
        | none => rw [e] at hx; cases hx
        | some y => rw [e] at hx; cases hx; rfl)) h2 mM (by rw [D']; exact hs.1) (by rw [hm]; show (Lib.join l []).length ≤ _; rw [Jog]; omega)
      rw [hm, D'] at this; refine this.mono fun _ _ ⟨e1, e2⟩ => ⟨?_, Keep.of_below e2⟩
      rw [e1]; show Ending.returned (.string ⟨(Lib.join l []).toArray⟩) = _; rw [Jog]; rfl⟩
theorem Jih {l : List BS} {p : Pl} (hs : Seg R l.length (Qu l) p) (hl : l.flatten.length ≤ 1000000000) (hn : l.length ≤ 1000000000) :
  PureR prog 236 [Km l.length p].toArray (Jk l.flatten) R := by
 refine J1 Tryz.func236 O O fun w => ?_; exact EF
theorem Jii {a b : BS} {e : TypeId} (h : (r, Obj.cells [Jk a, Jk b].toArray e (0, 0)) ∈ R) : Seg R [a, b].length (Qu [a, b]) (some (⟨r, 0, none⟩, 2)) :=
 ⟨Lc', fun _ => ⟨rfl, _, e, (0, 0), h, rfl⟩⟩
theorem Jyb {n : Nat} (hn : n ≤ 100000000) (hb : by_ = 128 ∨ by_ = 192) : Pure prog 237 [.int .i64 (n : Int), .int .i64 (by_ : Int)].toArray (Jk (QJ n by_)) := by
 have h3 := (YB (n := n) (k := 4) m3 m3).2 m3
 refine JA Tryz.func237 O O fun w => Kl (Ku 12 O (cD (fun g => ?_) fun g => ?_))
 ·refine gx ?_; refine J4 (show _ = Value.int .i64 ((by_ + n : Nat) : Int) from by rw [wrap_i64 m3 m3]; congr 1 <;> omega) ?_; refine KC O (J4 (show _ = bV (UInt8.ofNat (by_ + n)) from Jhm m3) ?_); refine JO (vs := [_]) (zs := [_]) (r := [_]) O O O O O O O O O me O fun r1 => ?_; refine LR O (VB (row := some (r1, 1, [])) (b := [UInt8.ofNat (by_ + n)]) O ⟨rfl, rfl⟩ (fun q hq => by rw [U'.1 hq]; exact WF (k := 0) O) O O O) ?_; refine G4 ?_; refine MW fun w1 hs1 => ?_
  unfold QJ
  rw [if_pos m3]; rfl
 ·refine Hq ?_; refine J4 (show _ = uV n from congrArg (Value.int .u64) (wrap_u64 m3 m3)) ?_; refine JC O O O (enters_of Tryz.func111 m4 O) (Jdc (n := n) m3) ?_; refine g8 ?_; refine J4 (show _ = Value.int .i64 ((by_ + 56 : Nat) : Int) from by rw [wrap_i64 m3 m3]; congr 1 <;> omega) ?_
  refine GV ?_; refine J4 (show _ = Value.int .i64 ((by_ + 55 : Nat) : Int) from by rw [wrap_i64 m3 m3]; congr 1 <;> omega) ?_; refine JI O (LR O (JJ O O) ?_)
  refine GV ?_; refine J4 (show _ = Value.int .i64 ((by_ + 55 + (WL n).length : Nat) : Int) from by rw [wrap_i64 m3 m3]; congr 1 <;> omega) ?_; refine KC O (J4 (show _ = bV (UInt8.ofNat (by_ + 55 + (WL n).length)) from Jhm m3) ?_); refine JO (vs := [_]) (zs := [_]) (r := [_]) O O O O O O O O O me O fun r2 => ?_; refine LR O (VB (row := some (r2, 1, [])) (b := [UInt8.ofNat (by_ + 55 + (WL n).length)]) O ⟨rfl, rfl⟩ (fun q hq => by rw [U'.1 hq]; exact WF (k := 0) O) O O O) ?_; refine gl ?_; refine JO (vs := [_, _]) (zs := [_, _]) (r := [_, _]) O O O O O O O O O me O fun r3 => ?_; refine Ju O O O (enters_of Tryz.func236 m4 O) (Jih (R := [(r3, .cells [Jk [UInt8.ofNat (by_ + 55 + (WL n).length)], Jk (WL n)].toArray 9 (0, 0))]) (Jii N') mL mf) (fun q hq => by rw [U'.1 hq]; exact WF (k := 0) O) ?_; refine gA ?_; refine MW fun w1 hs1 => ?_
  unfold QJ
  rw [if_neg m3]; simp [QD]
theorem Jdm (hn : s.length ≤ 1000000) (hb : by_ = 128 ∨ by_ = 192) : Pure prog 197 [Jk s, .int .i64 (by_ : Int)].toArray (Jk (KZ s by_)) := by
 have hh := Zx (n := s.length) (by_ := by_) m3
 refine JA Tryz.func197 O O fun w => G7 ?_; refine Nz ?_; refine JI O (JC O O O (enters_of Tryz.func237 m4 O) (Jyb (n := s.length) m3 hb) (JI O ?_)); refine JO (vs := [_, _]) (zs := [_, _]) (r := [_, _]) O O O O O O O O O me O fun r1 => Ju O O O (enters_of Tryz.func236 m4 O) (Jih (R := [(r1, .cells [Jk (QJ s.length by_), Jk s].toArray 9 (0, 0))]) (Jii N') mL mf) (fun q hq => by rw [U'.1 hq]; exact WF (k := 0) O) (gA ?_); refine MW fun w1 hs1 => ?_
 simp [QD, KZ]
def wkV (q : Nat) : Value := .func (.func 196) #[] #[Kj q]
def wkB (q : Nat) : Nat × Obj := (q, .cells #[wkV q] 277 (0, 0))
theorem XR {xs : List ItL} (h : xs[i]? = some y) : QL ((xs.take (i + 1)).map ItL.er) = QL ((xs.take i).map ItL.er) ++ QP y.er := by
 rw [List.take_add_one, h, Option.toList_some, List.map_append, wP]
 simp [QL]
theorem jK {xs : List ItL} (i : Nat) : (QL ((xs.take i).map ItL.er)).length ≤ (QL (xs.map ItL.er)).length := by
 have : xs.map ItL.er = (xs.take i).map ItL.er ++ (xs.drop i).map ItL.er := by rw [← List.map_append, List.take_append_drop]
 rw [this, wP, C']; omega
theorem zQ {b : BS} {xs : List It} : QP (.mk true b xs) = KZ (QL xs) 192 := by rw [QP]; rfl
theorem zR {b : BS} {xs : List It} : QP (.mk false b xs) = if b.length = 1 ∧ (b.getD 0 0).toNat < 128 then b else KZ b 128 := by rw [QP]; rfl
theorem zS (s : BS) (k : Nat) : s.length ≤ (KZ s k).length := by unfold KZ; rw [C']; omega
theorem Jyc {t : ItL} (ht : t.In R) (q : Nat) : ∀ (r : Nat) (s : BS) (row : QZ) (own : Bool), bOk s row → s.length + (QP t.er).length ≤ 1000000 →
    PureT (α := { x : QZ // bOk (s ++ QP t.er) x }) prog 196 [t.val, Kj r, Kj q].toArray (fun _ => .tuple #[]) (VF r s row own) (fun x => VF r (s ++ QP t.er) x.1 true) (wkB q :: R) := by
  induction ht with
  | @mk l b p xs hb hl hs hi ih =>
  intro r s row own hbk hlen; rw [ItL.er] at hlen ⊢
  cases l with
  | true =>
    rw [zQ] at hlen ⊢
    have hle := zS (QL (xs.map ItL.er)) 192
    refine Jq Tryz.func196 O O fun w => kT fun r1 => ?_; refine kB ?_
    refine Gt ?_; refine cD (fun g => ?_) fun g => ?_
    · refine NG ?_; refine LN O fun rB => kB ?_
      refine Gb ?_; refine No ?_; refine JQ (σ := Nat × QZ × Bool) (fun z => z.1 ≤ xs.length ∧ bOk (QL ((xs.take z.1).map ItL.er)) z.2.1) (fun z => [(1, Kj r), (2, Kj q), (5, Kj rB), (17, Km xs.length p), (18, .int .i64 (xs.length : Int)), (19, .int .i64 (z.1 : Int))]) (fun z => VF rB (QL ((xs.take z.1).map ItL.er)) z.2.1 z.2.2 ++ VF r s row own) (fun _ _ _ => True) (fun z => xs.length - z.1) (0, none, false) ⟨Z', ⟨⟨rfl, rfl⟩, fun _ => rfl⟩⟩ (lK O) (.cons₂ _ (.cons _ (T'))) (fun _ _ h => h) ?_; rintro ⟨i, row2, own2⟩ ⟨hi1, hbk2⟩; simp only at hi1 hbk2; change HC _ _ [(1, Kj r), (2, Kj q), (5, Kj rB), (17, Km xs.length p), (18, .int .i64 (xs.length : Int)), (19, .int .i64 (i : Int))] (VF rB (QL ((xs.take i).map ItL.er)) row2 own2 ++ VF r s row own) _ _ _; refine gv ?_; refine cD (fun h9 => ?_) fun h9 => ?_
      · refine Hu ?_
        obtain ⟨y, hy, hmy⟩ := Vh mz
        refine HI ?_
        refine Nq ?_; refine LR O (Ky ItL.len (fun q hq => Or.inr (M' hq)) O hs hy O O) (LN O fun r7 => Gx ?_); refine J5 3 O (NM ?_); refine H8 ?_; refine Jx (T := VF rB (QL ((xs.take i).map ItL.er)) row2 own2) (L0 := (r7, _) :: VF r s row own) List.perm_middle.symm O O O (enters_of Tryz.func196 m4 O) (ih y hmy rB (QL ((xs.take i).map ItL.er)) row2 own2 hbk2 (by have h8 := jK (xs := xs) (i + 1); rw [XR hy, C'] at h8; omega)) (fun q hq => .inr hq) fun x => ?_; refine kB ?_; refine gK ?_; refine X6 List.perm_middle (JL (i + 1, x.1, true) ⟨by simp only; omega, by rw [XR hy]; exact x.2⟩ mj (lK O) (.cons _ (by rw [XR hy]; exact T')) (fun _ _ h => h))
      refine DE ?_
      have h9 := jK (xs := xs) i
      refine Jx (T := VF rB (QL ((xs.take i).map ItL.er)) row2 own2) (L0 := VF r s row own) (Rl := []) (O') O O O Js9 (Jal hbk2 m3) oN fun u => ?_
      have hiM : i = xs.length := by omega
      rw [hiM, List.take_length]; change HL _ _ _ (VF r s row own) _ _ _ _; refine JC O O O (enters_of Tryz.func197 m4 O) (Jdm m3 (.inr O)) (Jx (T := VF r s row own) (L0 := []) (Rl := []) (by rw [List.append_nil]) rfl rfl rfl Jfu (YC hbk hlen) oN fun x => JD 2 rfl (Gy fun w1 hs1 => ?_)); exact ⟨x, rfl, by rw [List.append_nil] at hs1; exact hs1⟩
    try exact Bool.noConfusion g
  | false =>
    rw [zR] at hlen ⊢
    have hle := zS b 128
    refine Jq Tryz.func196 O O fun w => kT fun r1 => ?_; refine kB ?_
    refine Gt ?_; refine Jl O (fun g => ?_) (fun g => ?_)
    try exact Bool.noConfusion g
    · refine F0 ?_; refine H1 ?_
      refine J8 36 O (fun gb => ?_) (fun gb => ?_) <;> (try simp only [ZZ] at gb) <;> first | (refine LR O (Ja O O m0) ?_) | (refine LK O ?_)
      all_goals refine Nh ?_
      all_goals first | (refine LR O (JW (j := 0) O O O O m3 O) ?_) | refine LK O ?_
      all_goals refine MQ ?_
      all_goals (
       refine kW ?_; refine Jl O (fun g => ?_) (fun g => ?_)
       · try exact Bool.noConfusion g
         all_goals try simp only [ZZ] at g
         all_goals (
          refine F0 ?_
          have hc : b.length = 1 ∧ (b.getD 0 0).toNat < 128 := by first | exact ⟨by omega, by omega⟩ | skip
          rw [if_pos hc] at hlen ⊢; exact Ga
          skip)
       try simp only [ZZ] at g
       refine F0 ?_
       have hc : ¬ (b.length = 1 ∧ (b.getD 0 0).toNat < 128) := by omega
       rw [if_neg hc] at hlen ⊢; refine JC O O O (enters_of Tryz.func197 m4 O) (Jdm m3 (.inl O)) ?_; exact Ga
       skip)
theorem Jij {t : ItL} (ht : t.In R) (hl : (QP t.er).length ≤ 1000000) : PureR prog 107 [t.val].toArray (Jk (QP t.er)) R := by
 have hw := fun q rB => Jyc ht q rB [] none false ⟨⟨rfl, rfl⟩, fun _ => rfl⟩ (by simpa using hl)
 refine J1 Tryz.func107 O O fun w => Fa fun r0 => ?_; refine kB ?_; refine LN O fun rq => kV ?_; refine NR ?_; refine Jm (k := 0) (cs' := #[wkV rq]) O O O O O O O O O O (kV ?_); refine LN O fun rB => kV ?_; refine MY ?_; refine LR O (Ji (xs := t.cells) (n := 3) O (kn 2 O) O O (ItL.len t)) (Jx (T := VF rB [] none false) (L0 := [wkB rq, (r0, _)]) (O') O O O (enters_of Tryz.func196 m4 O) (hw rq rB) (fun q hq => (F'.1 hq).elim (fun e => Or.inl nJ) Or.inr) fun x => kV ?_); refine Jx (T := VF rB ([] ++ QP t.er) x.1 true) (L0 := [wkB rq, (r0, _)]) (Rl := []) (O') O O O Js9 (Jal x.2 (by simpa using hl)) oN fun u => ?_; exact GP
theorem Jyd {t : ItL} (ht : t.In R) (hl : (QP t.er).length ≤ 1000000) : PureR prog 195 [t.val].toArray (.int .i64 ((QP t.er).length : Int)) R := by
 refine J1 Tryz.func195 O O fun w => Fa fun r0 => ?_; refine kB ?_; refine Gn ?_; refine Ju O O O (enters_of Tryz.func107 m4 O) (Jij ht hl) oR (Nz ?_); exact GP
def Jtp (e : Int) : Value := .iface 272 (.agg #[.int .i64 e])
theorem Jik (b : Bool) (e : Int) : PureX (α := Unit) prog 194 [.bool b, .int .i64 e].toArray (b = true) (fun v => b = false ∧ v = Jtp e) (fun _ => .tuple #[]) (fun _ => []) [] := by
 refine Vk Tryz.func194 O O fun w => Kl (gv ?_); refine cD (fun g => ?_) fun g => ?_
 exact D1
 ·exact Dm
theorem vC (e : Int) : Pure prog 194 [.bool true, .int .i64 e].toArray (.tuple #[]) := ⟨fun w => ((Jik true e).run w (fun p hp => nomatch hp)).mono fun _ _ h => by
 rcases h with ⟨_, x, he, hk, _⟩ | ⟨v, hv, _⟩
 ·exact ⟨he, hk⟩
 ·cases hv.1⟩
theorem Jtq {xs : List ItL} (h : okL f (xs.map ItL.er) = true) : ∀ x ∈ xs, yA f x.er = true := fun x hx => Jaj h _ (List.mem_map.2 ⟨x, hx, rfl⟩)
theorem Jtr {t : ItL} (ht : t.In R) : ∀ (d f : Nat), d + f = 12 → yA f t.er = true → PureR prog 193 [t.val, .int .i64 (d : Int)].toArray (.tuple #[]) R := by
 induction ht with
 | @mk l b p xs hb hl hs hi ih =>
 intro d f hd hok; rw [ItL.er] at hok; refine J1 Tryz.func193 O O fun w => Kl ?_
 cases l with
 | true =>
  cases f with
  | zero => rw [yA] at hok; simp at hok
  | succ f =>
  rw [yA] at hok; simp at hok
  obtain ⟨⟨rfl, hxl⟩, hxs⟩ := hok
  refine NG ?_; refine LN O fun r1 => kV ?_
  refine N5 ?_; refine gl ?_
  refine N5 ?_; refine Hs ?_; refine kZ ?_; refine J5 10 O (kZ ?_); refine JC O O O Jc6 (vC 2) (kB ?_)
  refine Gt ?_; refine cD (fun g => ?_) fun g => ?_
  try exact Bool.noConfusion g
  ·refine Hq ?_; refine J4 nZ (JC O O O Jc6 (vC 7) (kV ?_))
   refine N5 ?_; refine GO ?_; refine KC O (J4 nZ (JC O O O Jc6 (vC 5) ?_)); refine kV ?_
   refine N5 ?_; refine No ?_; refine JQ (σ := Nat) (fun i => i ≤ xs.length) (fun i => [(1, .int .i64 (d : Int)), (37, Km xs.length p), (38, .int .i64 (xs.length : Int)), (39, .int .i64 (i : Int))]) (fun _ => []) (fun _ _ _ => True) (fun i => xs.length - i) 0 (Z') (lK O) (S') (fun _ _ h => h) ?_; rintro i hi1; refine gv ?_; refine cD (fun g => ?_) fun g => ?_
   ·refine Hu ?_
    obtain ⟨y, hy, hmy⟩ := Vh mz
    refine HI ?_
    refine H6 ?_; refine LN O fun r7 => ?_; refine Gx ?_; refine J5 3 O ?_; refine H8 ?_; refine gu ?_; refine J4 (show _ = Value.int .i64 ((d + 1 : Nat) : Int) from by rw [wrap_i64 m3 m3]; congr 1 <;> omega) ?_; refine Ju O O O (enters_of Tryz.func193 m4 O) (ih y hmy (d + 1) f m3 (Jtq hxs y hmy)) oR ?_; refine kB ?_; refine J4 m9 ?_; exact kX
   refine KF 4 O (Gy fun w1 hs1 => ?_); exact HG
 | false =>
  obtain rfl : xs = [] := by cases f <;> (rw [yA] at hok; simpa using hok)
  refine NG ?_; refine LN O fun r1 => kV ?_
  refine N5 ?_; refine kV ?_; refine EB ?_; refine gl ?_
  refine N5 ?_; refine gu ?_
  refine N5 ?_; refine GO ?_; refine KC O (LR O (Jp O O) (LR O (Jy O O) ?_)); refine JC O O O Jc6 (vC 2) (kB ?_)
  refine Gt ?_; refine Jl O (fun g => ?_) (fun g => ?_)
  refine KF 2 O (Jh O O .nil (fun w1 hs1 => ?_)); exact HG
  ·try exact Bool.noConfusion g
def eT (re : Nat) (e : Int) : J3 := [(re, .cells #[.int .i64 e] 43 (0, 0))]
theorem Jye (re : Nat) (e0 : Int) (w : World) (hT : jn (eT re e0) w) : CallsDIn (FW none) 0 prog 192 [Kj re].toArray .returning w (fun e u' w' => (∃ x, e = .returned x) ∧ settle u' = .returning ∧ Keep [re] w w' ∧ jn (eT re e0) w') := by
 refine HJ fun c₀ cs hu => ?_
 obtain ⟨hrv, hrc⟩ := Jc1 (cs := cs) hu
 refine vB fun K hK => Y7 (Ny fun r2 => ?_); refine GR ?_; clear hK K; refine sR fun _ hK1 => gl ?_; refine nK hK1 (Jl O (fun g => ?_) (fun g => ?_))
 try exact Bool.noConfusion g
 ·try simp only [ZZ] at g
  refine xr (Yg (u' := .returning) O O O .nil (fun w1 hs1 => ?_)); refine ⟨⟨_, rfl⟩, rfl, by have := hs1.keep; simpa [yz, eT] using this, fun p hp => ?_⟩; exact DS
theorem Jyf (re : Nat) (e0 e1 : Int) (w : World) (hT : jn (eT re e0) w) : CallsDIn (FW none) 0 prog 192 [Kj re].toArray (.panicking (ja (Jtp e1))) w (fun e u' w' => (∃ x, e = .returned x) ∧ settle u' = .returning ∧ Keep [re] w w' ∧ jn (eT re e1) w') := by
 refine HJ fun c₀ cs hu => ?_
 obtain ⟨hrv, hrc⟩ := Jc0 (cs := cs) hu
 refine vB fun K hK => Y7 (Ny fun r2 => ?_); refine GR ?_; clear hK K; refine sR fun _ hK1 => gl ?_; refine nK hK1 (Jl O (fun g => ?_) (fun g => ?_))
 try simp only [ZZ] at g
 refine Zp ?_
 refine N5 ?_; refine Jm (k := 1) (cs' := #[.int .i64 e1]) O O O O O O O O O O (W9 (Yg (u' := .panicking [{ v := Jtp e1, recovered := true }]) O O O .nil (fun w1 hs1 => ?_))); refine ⟨⟨_, rfl⟩, rfl, by have := hs1.keep; simpa [yz, eT] using this, fun p hp => ?_⟩; exact DS
 ·try exact Bool.noConfusion g
section
variable {c : Cx} {l : KY} {L L0 : J3} {X : XP} {d : List Deferred} {fn : Func} {R : Ending → World → Prop} {re : Nat} {e0 e1 : Int}
theorem Joh (hs : St c (eT re e0 ++ L0) X w) : jn (eT re e0) w := fun p hp => (hs.own p (W' hp)).2.2
theorem Jil {w' : World} (hs : St c (eT re e0 ++ L0) X w) (hk : Keep [re] w w') (hT : jn (eT re e1) w') : St c (eT re e1 ++ L0) X w' := by
 refine hs.turnT (by simpa [eT] using hk) (fun p hp => ⟨.inl ?_, hT p hp⟩) (List.pairwise_singleton _ _); rw [U'.1 hp]; simp [eT]
theorem J0w (hP : c.P = prog) (hp : L.Perm (eT re e0 ++ L0)) (h : HQ c d l (eT re e0 ++ L0) X (bodyPostM (FW none) 0 prog fn R .ret)) : HQ c (dF 192 [Kj re] :: d) l L X (bodyPostM (FW none) 0 prog fn R .ret) :=
 X6 hp (Jfr (enters_of Tryz.func192 m4 rfl) (fun w hs => CallsDIn.mono (Jye re e0 w (Joh hs)) fun _ _ _ ⟨h1, h2, h3, h4⟩ => ⟨h1, h2, Jil hs h3 h4⟩) h)
theorem J0x (hP : c.P = prog) (hp : L.Perm (eT re e0 ++ L0)) (h : HQ c d l (eT re e1 ++ L0) X (bodyPostM (FW none) 0 prog fn R .ret)) : HQ c (dF 192 [Kj re] :: d) l L X (bodyPostM (FW none) 0 prog fn R (.panic (ja (Jtp e1)))) :=
 X6 hp (Jh2 (enters_of Tryz.func192 m4 rfl) (fun w hs => CallsDIn.mono (Jyf re e0 e1 w (Joh hs)) fun _ _ _ ⟨h1, h2, h3, h4⟩ => ⟨h1, h2, Jil hs h3 h4⟩) h)
end
def Ym (it : It) : Int := if 65536 < (QP it).length then 5 else 0
theorem Joi {t : ItL} (ht : t.In R) (hok : yA 12 t.er = true) (hl : (QP t.er).length ≤ 1000000) : PureR prog 106 [t.val].toArray (.int .i64 (Ym t.er)) R := by
 have hlk := Jtr ht 0 12 rfl hok
 refine J1 Tryz.func106 O O fun w => Fa fun r0 => ?_; refine LN O fun re => kV ?_; refine NR ?_; refine Xn (caps := [Kj re]) O O O ?_ O; refine kV ?_; refine LR O (Ji (xs := t.cells) (n := 3) O (kn 1 O) O O (ItL.len t)) (Ju O O O (enters_of Tryz.func193 m4 O) hlk oR (kV ?_)); refine LR O (Ji (xs := t.cells) (n := 3) O (kn 1 O) O O (ItL.len t)) (Ju O O O (enters_of Tryz.func195 m4 O) (Jyd ht hl) oR (GV ?_)); refine KD O O O Jc6 (Jik _ 5) oN (fun hok _ => ?_) (fun v hv => by have hb := Z2.1 hv.1; rw [hv.2]; refine J6 (J0x (L0 := [_]) O (O') ?_); refine Jh O O (.cons (JX O (kn 0 O) O O) .nil) (fun w1 hs1 => ⟨?_, hs1.keep⟩); unfold Ym; rw [if_pos m3]; rfl)
 have hb := Z1.mp hok
 refine kV ?_; refine Jm (k := 0) (cs' := #[.int .i64 0]) O O O O O O O O O O (GN ?_); refine J0w (L0 := [_]) O (O') (Jh O O (.cons (JX O (kn 0 O) O O) .nil) (fun w1 hs1 => ⟨?_, hs1.keep⟩))
 unfold Ym; rw [if_neg m3]; rfl
theorem Jkx {t : ItL} (ht : t.In R) (hok : yA 12 t.er = true) (hl : (QP t.er).length ≤ 1000000) : PureR prog 36 [t.val].toArray (.tuple #[Jk (if Ym t.er ≠ 0 then [] else QP t.er), .int .i64 (Ym t.er)]) R := by
 refine J1 Tryz.func36 O O fun w => Fa fun r0 => ?_; refine g8 ?_; refine Gn ?_; refine Ju O O O (enters_of Tryz.func106 m4 O) (Joi ht hok hl) oR (JP 9 O (cD (fun g => ?_) fun g => ?_))
 refine HV fun w1 hs1 => ?_; rw [if_pos ma]; rfl
 ·refine gw ?_; refine Gn ?_; refine Ju O O O (enters_of Tryz.func107 m4 O) (Jij ht hl) oR (G4 ?_); refine Np fun w1 hs1 => ?_
  (have h0 : Ym t.er = 0 := by assumption
   rw [if_neg (by rw [h0]; decide), h0]; rfl)
structure AxL : Type where
  addr : BS
  p : Pl
  keys : List BS
variable {pr : AxL → Bool}
def AxL.cells (a : AxL) : List Value := [Jk a.addr, Km a.keys.length a.p]
def AxL.val (a : AxL) : Value := .agg a.cells.toArray
def AxL.er (a : AxL) : AxE := ⟨a.addr, a.keys⟩
theorem AxL.len (a : AxL) : a.cells.length = 2 := rfl
theorem AxL.one (a : AxL) : a.cells.all VU = true := rfl
structure AxL.In (R : J3) (a : AxL) : Prop where
  addr : a.addr.length ≤ 9223372036854775807
  len : a.keys.length ≤ 9223372036854775807
  seg : Seg R a.keys.length (Qu a.keys) a.p
  keys : ∀ s ∈ a.keys, s.length ≤ 9223372036854775807
theorem AxL.In.mono (hs : ∀ q ∈ R, q ∈ R') {a : AxL} (h : a.In R) : a.In R' := ⟨h.addr, h.len, h.seg.mono hs, h.keys⟩
def AuE.cells (a : AuE) : List Value := [uV a.chain, Jk a.addr, uV a.nonce, uV a.y, uV a.r.a, uV a.r.b, uV a.r.c, uV a.r.d, uV a.s.a, uV a.s.b, uV a.s.c, uV a.s.d]
theorem AuE.len (a : AuE) : a.cells.length = 12 := rfl
theorem AuE.one (a : AuE) : a.cells.all VU = true := rfl
def V2 (l : List AxL) : List Value := l.flatMap AxL.cells
def jd (l : List AuE) : List Value := l.flatMap AuE.cells
structure TxL : Type where
  kind : Int
  chain : Nat
  nonce : Nat
  tip : W4
  price : W4
  gas : Nat
  dest : BS
  value : W4
  data : BS
  accP : Pl
  acc : List AxL
  auP : Pl
  auths : List AuE
  y : Nat
  r : W4
  s : W4
  source : BS
  from_ : BS
  mint : W4
  system : Bool
variable {t : TxL}
def wC (w : W4) : List Value := [uV w.a, uV w.b, uV w.c, uV w.d]
def TxL.cells (t : TxL) : List Value := [.int .i64 t.kind, uV t.chain, uV t.nonce, uV t.tip.a, uV t.tip.b, uV t.tip.c, uV t.tip.d, uV t.price.a, uV t.price.b, uV t.price.c, uV t.price.d, uV t.gas, Jk t.dest,
 uV t.value.a, uV t.value.b, uV t.value.c, uV t.value.d, Jk t.data, Km t.acc.length t.accP, Km t.auths.length t.auP, uV t.y, uV t.r.a, uV t.r.b, uV t.r.c, uV t.r.d, uV t.s.a, uV t.s.b, uV t.s.c, uV t.s.d,
 Jk t.source, Jk t.from_, uV t.mint.a, uV t.mint.b, uV t.mint.c, uV t.mint.d, .bool t.system]
def TxL.val (t : TxL) : Value := .agg t.cells.toArray
def TxL.er (t : TxL) : TxE := ⟨t.kind, t.chain, t.nonce, t.tip, t.price, t.gas, t.dest, t.value, t.data, t.acc.map AxL.er, t.auths, t.y, t.r, t.s, t.source, t.from_, t.mint, t.system⟩
theorem TxL.len (t : TxL) : t.cells.length = 36 := rfl
theorem TxL.one (t : TxL) : t.cells.all VU = true := rfl
structure TxL.In (R : J3) (t : TxL) : Prop where
  ok : t.er.ok
  dest : t.dest.length ≤ 9223372036854775807
  data : t.data.length ≤ 9223372036854775807
  source : t.source.length ≤ 9223372036854775807
  from_ : t.from_.length ≤ 9223372036854775807
  accL : t.acc.length ≤ 9223372036854775807
  accS : Seg R t.acc.length (V2 t.acc) t.accP
  acc : ∀ a ∈ t.acc, a.In R
  auL : t.auths.length ≤ 9223372036854775807
  auS : Seg R t.auths.length (jd t.auths) t.auP
  au : ∀ a ∈ t.auths, a.addr.length ≤ 9223372036854775807
theorem TxL.In.mono (hs : ∀ q ∈ R, q ∈ R') (h : t.In R) : t.In R' :=
 ⟨h.ok, h.dest, h.data, h.source, h.from_, h.accL, h.accS.mono hs, fun a ha => (h.acc a ha).mono hs, h.auL, h.auS.mono hs, h.au⟩
def Qv (l : List TxL) : List Value := l.flatMap TxL.cells
theorem Joj {xs : List AxL} {p : Pl} (hl : xs.length ≤ 9223372036854775807) (hs : Seg R xs.length (xs.flatMap AxL.cells) p) (eg : Enters prog g) (hg : ∀ x ∈ xs, PureR prog g (AxL.val x :: caps).toArray (.bool (pr x)) R) :
  PureR prog 189 [Km xs.length p, .func (.func g) #[] caps.toArray].toArray (.int .i64 (yI pr xs)) R := by
 refine J1 Tryz.func189 O O fun w => NC ?_; rintro i ⟨hi1, hinv⟩; refine gv ?_; refine cD (fun h6 => ?_) fun h6 => ?_
 refine Ku 11 O ?_
 obtain ⟨x, hx, hmx⟩ := Vh mz
 refine gw ?_
 refine Nq ?_; refine LR O (Ky AxL.len oR O hs hx O O) (Ju O O O eg (hg x hmx) oR (Dt ?_)); refine cD (fun h10 => ?_) fun h10 => ?_
 exact Ea
 refine GC ?_
 exact JL (i + 1) ⟨by omega, fun j hj y hy => by
  rcases Nat.lt_succ_iff_lt_or_eq.1 hj with hj | rfl
  exact hinv j hj y hy
  rw [hx] at hy; cases hy; assumption⟩ m3 (lK rfl) (S') (fun _ _ h => h)
 ·exact gh
theorem WN {xs : List AxL} {p : Pl} (hl : xs.length ≤ 9223372036854775807) (hs : Seg R xs.length (V2 xs) p) (eg : Enters prog g) (hg : ∀ x ∈ xs, PureR prog g (AxL.val x :: caps).toArray (.bool (pr x)) R) :
  PureR prog 97 [Km xs.length p, .func (.func g) #[] caps.toArray].toArray (.bool (xs.any pr)) R := by
 refine J1 Tryz.func97 O O fun w => Gm ?_; refine Ju O O O (enters_of Tryz.func189 m4 O) (Joj hl hs eg hg) oR ?_; exact DH
theorem Jok {xs : List AuE} {p : Pl} (hl : xs.length ≤ 9223372036854775807) (hs : Seg R xs.length (xs.flatMap AuE.cells) p) {pr : AuE → Bool} (eg : Enters prog g) (hg : ∀ x ∈ xs, PureR prog g (.agg (AuE.cells x).toArray :: caps).toArray (.bool (pr x)) R) :
  PureR prog 234 [Km xs.length p, .func (.func g) #[] caps.toArray].toArray (.int .i64 (yI pr xs)) R := by
 refine J1 Tryz.func234 O O fun w => NC ?_; rintro i ⟨hi1, hinv⟩; refine gv ?_; refine cD (fun h6 => ?_) fun h6 => ?_
 refine Ku 11 O ?_
 obtain ⟨x, hx, hmx⟩ := Vh mz
 refine gw ?_
 refine Nq ?_; refine LR O (Ky AuE.len oR O hs hx O O) (Ju O O O eg (hg x hmx) oR (Dt ?_)); refine cD (fun h10 => ?_) fun h10 => ?_
 exact Ea
 refine GC ?_
 exact JL (i + 1) ⟨by omega, fun j hj y hy => by
  rcases Nat.lt_succ_iff_lt_or_eq.1 hj with hj | rfl
  exact hinv j hj y hy
  rw [hx] at hy; cases hy; assumption⟩ m3 (lK rfl) (S') (fun _ _ h => h)
 ·exact gh
theorem Zl {xs : List AuE} {p : Pl} (hl : xs.length ≤ 9223372036854775807) (hs : Seg R xs.length (jd xs) p) {pr : AuE → Bool} (eg : Enters prog g) (hg : ∀ x ∈ xs, PureR prog g (.agg (AuE.cells x).toArray :: caps).toArray (.bool (pr x)) R) :
  PureR prog 188 [Km xs.length p, .func (.func g) #[] caps.toArray].toArray (.bool (xs.any pr)) R := by
 refine J1 Tryz.func188 O O fun w => Gm ?_; refine Ju O O O (enters_of Tryz.func234 m4 O) (Jok hl hs eg hg) oR ?_; exact DH
theorem Jol {xs : List BS} {p : Pl} (hl : xs.length ≤ 9223372036854775807) (hs : Seg R xs.length (Qu xs) p) {pr : BS → Bool} (eg : Enters prog g) (hg : ∀ x ∈ xs, PureR prog g (Jk x :: caps).toArray (.bool (pr x)) R) :
  PureR prog 199 [Km xs.length p, .func (.func g) #[] caps.toArray].toArray (.int .i64 (yI pr xs)) R := by
 refine J1 Tryz.func199 O O fun w => NC ?_; rintro i ⟨hi1, hinv⟩; refine gv ?_; refine cD (fun h6 => ?_) fun h6 => ?_
 refine Ku 11 O ?_
 obtain ⟨x, hx, hmx⟩ := Vh mz
 refine gw ?_
 refine Nq ?_; refine LR O (Qr oR O hs m3 O (show (Qu xs)[i]? = some (Jk x) from by unfold Qu; rw [List.getElem?_map, hx]; rfl)) ?_; refine Ju O O O eg (hg x hmx) oR (Dt ?_); refine cD (fun h10 => ?_) fun h10 => ?_
 exact Ea
 refine GC ?_
 exact JL (i + 1) ⟨by omega, fun j hj y hy => by
  rcases Nat.lt_succ_iff_lt_or_eq.1 hj with hj | rfl
  exact hinv j hj y hy
  rw [hx] at hy; cases hy; assumption⟩ m3 (lK rfl) (S') (fun _ _ h => h)
 ·exact gh
theorem XE {xs : List BS} {p : Pl} (hl : xs.length ≤ 9223372036854775807) (hs : Seg R xs.length (Qu xs) p) {pr : BS → Bool} (eg : Enters prog g) (hg : ∀ x ∈ xs, PureR prog g (Jk x :: caps).toArray (.bool (pr x)) R) :
  PureR prog 110 [Km xs.length p, .func (.func g) #[] caps.toArray].toArray (.bool (xs.any pr)) R := by
 refine J1 Tryz.func110 O O fun w => Gm ?_; refine Ju O O O (enters_of Tryz.func199 m4 O) (Jol hl hs eg hg) oR ?_; exact DH
theorem J0y (a b : Nat) : ((a : Int) != (b : Int)) = decide (a ≠ b) := by
 rw [Bool.eq_iff_iff]; simp [bne_iff_ne]; omega
theorem Jts (a b : Nat) : ((a : Int) == (b : Int)) = decide (a = b) := by
 rw [Bool.eq_iff_iff]; simp; omega
theorem Jom (s : BS) : Pure prog 185 [Jk s].toArray (.bool (decide (s.length ≠ 32))) := by
 refine JA Tryz.func185 O O fun w => G7 ?_; refine Nz ?_; refine EN fun w1 hs1 => ?_; exact ⟨congrArg (fun b => Ending.returned (Value.bool b)) (J0y _ 32), hs1.keep⟩
def okB (q : Nat) : Nat × Obj := (q, .cells #[fV 185] 197 (0, 0))
theorem wR {a : AxL} (ha : a.In R) (q : Nat) : PureR prog 186 [a.val, Kj q].toArray (.bool (Wh a.er)) (okB q :: R) := by
 refine J1 Tryz.func186 O O fun w => kT fun r1 => ?_; refine kB ?_
 refine N5 ?_; refine H1 ?_
 refine J8 8 O (fun gb => ?_) (fun gb => ?_) <;> (try simp only [ZZ] at gb) <;> first | (refine LR O (Ja O O m0) ?_) | (refine LK O ?_)
 all_goals refine Nh ?_
 all_goals refine He ?_
 all_goals first | (refine Ju O O O Jh3 (XE (R := R) (caps := []) (pr := fun s => decide (s.length ≠ 32)) ha.len ha.seg (enters_of Tryz.func185 m4 rfl) (fun x _ => (Jom x).toR)) (fun q hq => Or.inr (M' hq)) ?_) | refine LK O ?_
 all_goals refine N4 ?_
 all_goals (
  refine Ha ?_; refine NZ fun w1 hs1 => ?_
  unfold Wh
  show _ = (decide (a.addr.length ≠ 20) || _)
  first | (rw [show decide (a.addr.length ≠ 20) = true from decide_eq_true m3]; rfl) | (rw [show decide (a.addr.length ≠ 20) = false from decide_eq_false m3]; rfl)
  skip)
theorem wS (a : AuE) : Pure prog 187 [.agg a.cells.toArray].toArray (.bool (W6 a)) := by
 refine JA Tryz.func187 O O fun w => kT fun r1 => ?_; refine kB ?_
 refine N5 ?_; refine H1 ?_
 refine J8 7 O (fun gb => ?_) (fun gb => ?_) <;> (try simp only [ZZ] at gb) <;> first | (refine LR O (Ja O O m0) ?_) | (refine LK O ?_)
 all_goals refine Nh ?_
 all_goals refine MQ ?_
 all_goals (
  refine Ha ?_; refine NZ fun w1 hs1 => ?_
  unfold W6
  first | (rw [show decide (a.addr.length ≠ 20) = true from decide_eq_true m3]; rfl) | (rw [show decide (a.addr.length ≠ 20) = false from decide_eq_false m3, Bool.false_or, decide_eq_decide]; omega)
  skip)
theorem Wv {t : TxE} (h : t.y > 1 ∨ t.access.any Wh = true ∨ t.auths.any W6 = true) : Qd t = false := by unfold Qd; rw [if_pos h]
theorem Jon {t : TxE} (h : ¬ t.y > 1) (h2 : t.access.any Wh = false) (h3 : t.auths.any W6 = false) (hk : t.kind = 0) (hc : 4611686018427387904 < t.chain) : Qd t = false := by
 unfold Qd; rw [if_neg mR, if_pos hk, decide_eq_false m3]; rfl
theorem Joo {t : TxE} (h : ¬ t.y > 1) (h2 : t.access.any Wh = false) (h3 : t.auths.any W6 = false) (hk : t.kind = 0) (hc : t.chain ≤ 4611686018427387904) (hd : t.dest = []) : Qd t = true := by
 unfold Qd toB; rw [if_neg mR, if_pos hk, decide_eq_true hc, decide_eq_true hd]; rfl
theorem Jop {t : TxE} (h : ¬ t.y > 1) (h2 : t.access.any Wh = false) (h3 : t.auths.any W6 = false) (hk : t.kind = 0) (hc : t.chain ≤ 4611686018427387904) (hd : ¬ t.dest = []) (hv : v = decide (t.dest.length = 20)) : v = Qd t := by
 rw [hv]
 unfold Qd toB; rw [if_neg mR, if_pos hk, decide_eq_true hc, decide_eq_false hd]; rfl
theorem Jdn {t : TxE} (h : ¬ t.y > 1) (h2 : t.access.any Wh = false) (h3 : t.auths.any W6 = false) (hk : t.kind = 1 ∨ t.kind = 2) (hd : t.dest = []) : Qd t = true := by
 unfold Qd toB; rw [if_neg mR, if_neg m3, if_neg m3, if_neg m3, decide_eq_true hd]; rfl
theorem Jdo {t : TxE} (h : ¬ t.y > 1) (h2 : t.access.any Wh = false) (h3 : t.auths.any W6 = false) (hk : t.kind = 1 ∨ t.kind = 2) (hd : ¬ t.dest = []) (hv : v = decide (t.dest.length = 20)) : v = Qd t := by
 rw [hv]
 unfold Qd toB; rw [if_neg mR, if_neg m3, if_neg m3, if_neg m3, decide_eq_false hd]; rfl
def Yn (k : Int) : Prop := k = 0 ∨ k = 1 ∨ k = 2
theorem Jf0 (l : List AxL) : (l.map AxL.er).any Wh = l.any fun a => Wh a.er := by rw [List.any_map]; rfl
theorem Jtt (ht : t.In R) (hk : Yn t.kind) : PureR prog 96 [t.val].toArray (.bool (Qd t.er)) R := by
  have hX := Jf0 t.acc
  obtain ⟨kind, chain, nonce, tip, price, gas, dest, value, data, accP, acc, auP, auths, y, r, s, source, from_, mint, system⟩ := t
  simp only at hX
  rcases hk with h | h | h <;> (
    simp only at h; subst h; refine Gc fun w r1 r3 => ?_
    refine Gb ?_; refine gu ?_
    refine J8 10 O (fun gb => ?_) (fun gb => ?_) <;> (try simp only [ZZ] at gb) <;> first | (refine LR O (Ja O O m0) ?_) | (refine LK O ?_)
    all_goals refine NY ?_
    all_goals first | refine LK O ?_ | (refine J8 16 O (fun gb => ?_) (fun gb => ?_) <;> (try simp only [ZZ] at gb) <;> first | (refine LR O (Ja O O m0) ?_) | (refine LK O ?_))
    all_goals refine gR ?_
    all_goals (
     refine kN ?_; refine Jl O (fun g => ?_) (fun g => ?_)
     try simp only [ZZ] at g
     exact gB
     · try exact Bool.noConfusion g
       all_goals try simp only [ZZ] at g
       all_goals (
        refine gx ?_
        refine Gb ?_; refine JP 9 O (Jl O (fun g => ?_) (fun g => ?_))
        · try exact Bool.noConfusion g
          all_goals try simp only [ZZ] at g
          all_goals (
           refine NG ?_
           refine Gb ?_; refine gu ?_
           refine J8 29 O (fun gb => ?_) (fun gb => ?_) <;> (try simp only [ZZ] at gb) <;> first | (refine LR O (Ja O O m0) ?_) | (refine LK O ?_)
           all_goals refine Nb ?_
           all_goals refine Hz ?_
           all_goals refine Ns ?_
           all_goals first | refine LK O ?_ | (refine J8 33 O (fun gb => ?_) (fun gb => ?_) <;> (try simp only [ZZ] at gb) <;> first | (refine LR O (Ja O O m0) ?_) | (refine LK O ?_))
           all_goals refine Nb ?_
           all_goals refine ko ?_
           all_goals refine Gr ?_
           all_goals (
            refine JD 2 O (vf 4 O ?_); refine NZ fun w1 hs1 => ?_
            first | exact (Jon mY (hX.trans ma) ma O (by show 4611686018427387904 < chain; omega)).symm | exact (Joo mY (hX.trans ma) ma O (by show chain ≤ 4611686018427387904; omega) ma).symm | exact Jop mY (hX.trans ma) ma O (by show chain ≤ 4611686018427387904; omega) ma (Jts _ 20)
            skip)
           skip)
        · try exact Bool.noConfusion g
          all_goals try simp only [ZZ] at g
          all_goals (
           refine gv ?_; refine Jl O (fun g => ?_) (fun g => ?_)
           try exact Bool.noConfusion g
           · try simp only [ZZ] at g
             refine gv ?_; refine Jl O (fun g => ?_) (fun g => ?_)
             try exact Bool.noConfusion g
             · try simp only [ZZ] at g
               refine gx ?_
               refine Gb ?_; refine Hs ?_; refine gl ?_
               refine J8 78 O (fun gb => ?_) (fun gb => ?_) <;> (try simp only [ZZ] at gb) <;> first | (refine LR O (Ja O O m0) ?_) | (refine LK O ?_)
               all_goals refine Nb ?_
               all_goals refine ko ?_
               all_goals refine MQ ?_
               all_goals (
                refine Ha ?_; refine NZ fun w1 hs1 => ?_
                first | exact (Jdn mY (hX.trans ma) ma (.inl O) ma).symm | exact (Jdn mY (hX.trans ma) ma (.inr O) ma).symm | exact Jdo mY (hX.trans ma) ma (.inl O) ma (Jts _ 20) | exact Jdo mY (hX.trans ma) ma (.inr O) ma (Jts _ 20)
                skip)
           skip)
        skip)
     skip)
    )
theorem J0z (a b : Int) : ZG (.int .i64 a) (.int .i64 b) = decide (a = b) := by
 show (a == b) = _
 rw [Bool.eq_iff_iff]; simp
theorem J2m (a b : Bool) : ZG (.bool a) (.bool b) = decide (a = b) := by cases a <;> cases b <;> rfl
theorem Jf1 (w : World) (n : Nat) : Keep [] w (w.drewN n) := ⟨rfl, rfl, rfl, Lc', fun _ _ _ => rfl⟩
theorem zT {l : List BS} {o : Nat} (h : ∀ (j : Nat) v, (Qu l)[j]? = some v → w.cell? ⟨a, o + j, none⟩ = some v) : ∀ j, j < (l.map bs).length → w.cell? ⟨a, o + j, none⟩ = some (.string ((l.map bs).getD j ByteArray.empty)) := fun j hj => by
 rw [D'] at hj; refine h j _ ?_
 unfold Qu
 rw [List.getElem?_map, List.getElem?_eq_getElem hj, List.getD_eq_getElem?_getD, List.getElem?_map, List.getElem?_eq_getElem hj]; rfl
theorem Jf2 {l m : List BS} : l.map bs = m.map bs ↔ l = m := by
 constructor
 ·intro h
  induction l generalizing m with
  | nil => cases m with
   | nil => rfl
   | cons => simp at h
  | cons x xs ih => cases m with
   | nil => simp at h
   | cons y ys => simp only [List.map_cons, List.cons.injEq] at h ⊢; exact ⟨Jxe.1 h.1, ih h.2⟩
 ·intro h; rw [h]
theorem Jim {xs ys : List BS} {p q : Pl} (hl : xs.length ≤ 9223372036854775807) (hl2 : ys.length ≤ 9223372036854775807) (hs : Seg R xs.length (Qu xs) p) (hs' : Seg R ys.length (Qu ys) q) :
  PureR prog 63 [Km xs.length p, Km ys.length q].toArray (.bool (decide (xs = ys))) R := ⟨fun w hR => by
 by_cases h0 : xs.length = ys.length
 ·by_cases h1 : xs.length = 0
  ·obtain rfl := List.eq_nil_of_length_eq_zero h1
   obtain rfl := List.eq_nil_of_length_eq_zero (h0.symm.trans h1)
   exact (Tryz.slices_Equal_string_empty (plA p) (plA q) (plC p) 0 (plC q) w m7).mono fun _ _ ⟨h1, h2⟩ => ⟨h1, h2 ▸ Keep.refl _ _⟩
  ·cases p with
   | none => exact absurd hs h1
   | some p =>
   cases q with
   | none => exact absurd hs' (by rw [← h0]; exact h1)
   | some q =>
   obtain ⟨⟨b1, o1, sp1⟩, c1⟩ := p
   obtain ⟨⟨b2, o2, sp2⟩, c2⟩ := q
   obtain ⟨g1, _, g3⟩ := wQ hs m3 hR
   obtain ⟨k1, _, k3⟩ := wQ hs' m3 hR
   simp only at g1 k1; subst g1; subst k1
   have := Tryz.slices_Equal_string b1 o1 xs.length c1 b2 o2 ys.length c2 (xs.map bs) (ys.map bs) w nM nM hl hl2 (zT g3) (zT k3)
   refine this.mono fun _ _ ⟨e1, n, e2⟩ => ⟨?_, e2 ▸ Jf1 w n⟩; rw [e1, List.take_of_length_le nM, List.take_of_length_le nM]; exact congrArg (fun b => Ending.returned (Value.bool b)) (decide_eq_decide.2 Jf2)
 ·exact (Tryz.slices_Equal_string_lens (plA p) (plA q) xs.length (plC p) ys.length (plC q) w h0).mono fun _ _ ⟨h1, h2⟩ => ⟨by rw [h1, decide_eq_false fun e => h0 (by rw [e])], h2 ▸ Keep.refl _ _⟩⟩
theorem Joq {a b : AxL} (ha : a.In R) (hb : b.In R) : PureR prog 157 [a.val, b.val].toArray (.bool (decide (a.er = b.er))) R := by
  refine J1 Tryz.func157 O O fun w => Hn fun r1 r2 => ?_; refine kB ?_
  refine DD ?_; refine Hs ?_; refine gl ?_
  refine J8 10 O (fun gb => ?_) (fun gb => ?_) <;> (try simp only [ZZ] at gb) <;> first | (refine LR O (Ja O O m0) ?_) | (refine LK O ?_)
  all_goals refine MV ?_
  all_goals first | (refine Ju O O O Js7 (Jim ha.len hb.len ha.seg hb.seg) oR ?_) | refine LK O ?_
  all_goals refine N4 ?_
  all_goals (
   refine Ha ?_; refine NA fun w1 hs1 => ?_
   unfold AxL.er
   first
     | (have h1 : a.addr = b.addr := by assumption
        rw [decide_eq_decide, h1]; simp; done)
     | (have h1 : ¬ a.addr = b.addr := by assumption
        rw [decide_eq_false (by simp [h1])])
   skip)
theorem Jor {xs ys : List AxL} {p q : Pl} (hl : xs.length ≤ 9223372036854775807) (hl2 : ys.length ≤ 9223372036854775807) (hs : Seg R xs.length (xs.flatMap AxL.cells) p) (hs' : Seg R ys.length (ys.flatMap AxL.cells) q) (hx' : ∀ x ∈ xs, x.In R) (hy' : ∀ y ∈ ys, y.In R) :
  PureR prog 158 [Km xs.length p, Km ys.length q, fV 157].toArray (.bool (decide (xs.map AxL.er = ys.map AxL.er))) R := by
 refine J1 Tryz.func158 O O fun w => gi ?_; refine cD (fun g => ?_) fun g => ?_
 refine KF 7 O (MW fun w1 hs1 => ?_); rw [decide_eq_false (show ¬ xs.map AxL.er = ys.map AxL.er from fun e => by have := congrArg List.length e; rw [D', D'] at this; omega)]; rfl
 ·refine Hq ?_; refine No ?_
  have hll : xs.length = ys.length := by omega
  refine JQ (σ := Nat) (fun i => i ≤ xs.length ∧ ∀ j, j < i → (xs.map AxL.er)[j]? = (ys.map AxL.er)[j]?) (fun i => [(0, Km xs.length p), (1, Km ys.length q), (2, fV 157), (15, Km xs.length p), (16, .int .i64 (xs.length : Int)), (17, .int .i64 (i : Int))]) (fun _ => []) (fun _ _ _ => True) (fun i => xs.length - i) 0 ⟨by omega, fun j hj => absurd hj m3⟩ (lK rfl) (S') (fun _ _ h => h) ?_; rintro i ⟨hi1, hinv⟩; refine gv ?_; refine cD (fun g => ?_) fun g => ?_
  refine Hu ?_
  obtain ⟨x, hx, hmx⟩ := Vh mz
  obtain ⟨y, hy, hmy⟩ := Vh M7
  refine NG ?_
  refine Nq ?_; refine LR O (Ky AxL.len oR O hs hx O O) (LN O fun r1 => Db ?_); refine LR O (Ky AxL.len oR O hs' hy O O) (LN O fun r2 => GK ?_); refine Ju O O O (enters_of Tryz.func157 m4 O) (Joq (hx' x hmx) (hy' y hmy)) oR (NQ ?_); refine cD (fun g => ?_) fun g => ?_
  exact kH
  refine GC ?_
  exact JL (i + 1) ⟨by omega, fun j hj => by
   rcases Nat.lt_succ_iff_lt_or_eq.1 hj with hj | rfl
   exact hinv j hj
   rw [List.getElem?_map, List.getElem?_map, hx, hy]; simp_all⟩ m3 (lK rfl) (S') (fun _ _ h => h)
  ·exact Gj
theorem J00 (x y : AuE) : (ZG (uV x.chain) (uV y.chain) && (ZG (Jk x.addr) (Jk y.addr) && (ZG (uV x.nonce) (uV y.nonce) && (ZG (uV x.y) (uV y.y) && (Qs [uV x.r.a, uV x.r.b, uV x.r.c, uV x.r.d] [uV y.r.a, uV y.r.b, uV y.r.c, uV y.r.d] && (Qs [uV x.s.a, uV x.s.b, uV x.s.c, uV x.s.d] [uV y.s.a, uV y.s.b, uV y.s.c, uV y.s.d] && true)))))) = decide (x = y) := by
 rw [Bool.eq_iff_iff]; simp only [eqU, eqW, vA, Bool.and_eq_true, decide_eq_true_eq, Bool.and_true]
 obtain ⟨a, b, c, d, e, f⟩ := x
 obtain ⟨a', b', c', d', e', f'⟩ := y
 simp only [AuE.mk.injEq]
theorem Jos {xs ys : List AuE} {p q : Pl} (hl : xs.length ≤ 9223372036854775807) (hl2 : ys.length ≤ 9223372036854775807) (hs : Seg R xs.length (xs.flatMap AuE.cells) p) (hs' : Seg R ys.length (ys.flatMap AuE.cells) q) :
  PureR prog 159 [Km xs.length p, Km ys.length q].toArray (.bool (decide (xs = ys))) R := by
 refine J1 Tryz.func159 O O fun w => gi ?_; refine cD (fun g => ?_) fun g => ?_
 refine KF 7 O (MW fun w1 hs1 => ?_); rw [decide_eq_false (show ¬ xs = ys from fun e => by have := congrArg List.length e; omega)]; rfl
 ·refine Hq ?_; refine No ?_
  have hll : xs.length = ys.length := by omega
  refine JQ (σ := Nat) (fun i => i ≤ xs.length ∧ ∀ j, j < i → xs[j]? = ys[j]?) (fun i => [(0, Km xs.length p), (1, Km ys.length q), (12, .int .i64 (xs.length : Int)), (13, .int .i64 (i : Int))]) (fun _ => []) (fun _ _ _ => True) (fun i => xs.length - i) 0 ⟨by omega, fun j hj => absurd hj m3⟩ (lK rfl) (S') (fun _ _ h => h) ?_; rintro i ⟨hi1, hinv⟩; refine gv ?_; refine cD (fun g => ?_) fun g => ?_
  refine Ku 11 O ?_
  obtain ⟨x, hx, hmx⟩ := Vh mz
  obtain ⟨y, hy, hmy⟩ := Vh M7
  refine KB 9 m4 m4 (kr ?_); refine kr ?_
  refine Jt O O O (JG (j := i) O hs O O O mg m3) (Jt O O O (Ky AuE.len oR O hs hx O O) (kr ?_)); refine kr ?_
  refine Jt O O O (JG (j := i) O hs' O O O mg m3) (Jt O O O (Ky AuE.len oR O hs' hy O O) (Jt O O O (Js3 (xs := x.cells) (ys := y.cells) O O O m4 m4 (.scal m7 O O O O O (.scal m7 O O O O O (.scal m7 O O O O O (.scal m7 O O O O O (.arr m7 O O O O O O O O O O (.arr m7 O O O O O O O O O O .nil))))))) (WK (congrArg (fun b => Value.bool (!b)) (J00 x y)) (KR (Dt ?_))))); refine cD (fun g => ?_) fun g => ?_
  refine KF 11 O (MW fun w1 hs1 => ?_); rw [decide_eq_false (wB hx hy mF)]; rfl
  refine GC ?_
  exact JL (i + 1) ⟨by omega, fun j hj => by
   rcases Nat.lt_succ_iff_lt_or_eq.1 hj with hj | rfl
   exact hinv j hj
   rw [hx, hy]; simp_all⟩ m3 (lK rfl) (S') (fun _ _ h => h)
  ·refine KF 11 O (MW fun w1 hs1 => ?_); rw [decide_eq_true (wA hll m3 hinv)]; rfl
def zU (t : TxL) : List Value := [.int .i64 t.kind, uV t.chain, uV t.nonce, uV t.gas, uV t.y, uV t.tip.a, uV t.tip.b, uV t.tip.c, uV t.tip.d, uV t.price.a, uV t.price.b, uV t.price.c, uV t.price.d,
 uV t.value.a, uV t.value.b, uV t.value.c, uV t.value.d, uV t.r.a, uV t.r.b, uV t.r.c, uV t.r.d, uV t.s.a, uV t.s.b, uV t.s.c, uV t.s.d, uV t.mint.a, uV t.mint.b, uV t.mint.c, uV t.mint.d,
 Jk t.dest, Jk t.data, Jk t.source, Jk t.from_, .bool t.system]
theorem Jdp (t : TxL) : Pure prog 160 [t.val].toArray (.agg (zU t).toArray) := by
 refine JA Tryz.func160 O O fun w => Fa fun r0 => ?_; refine LN O fun r2 => kV ?_
 refine NH ?_; refine MY ?_
 refine NH ?_; refine kA ?_
 refine MP ?_; refine kA ?_
 refine NH ?_; refine MY ?_
 refine Gb ?_
 refine Gb ?_; refine LR O (Jo (r := zU t) O m4) (Je (k := 0) (n := 34) (ys := zU t) O O O O O O O O O (GN ?_)); refine KP O O (.cons (Jj (vs := zU t) O (kn 0 O) O O) .nil) (fun w1 hs1 => ⟨rfl, hs1.keep⟩)
def wT (t u : TxL) : Prop := t.kind = u.kind ∧ t.chain = u.chain ∧ t.nonce = u.nonce ∧ t.gas = u.gas ∧ t.y = u.y ∧ t.tip = u.tip ∧ t.price = u.price ∧ t.value = u.value ∧ t.r = u.r ∧ t.s = u.s ∧ t.mint = u.mint ∧ t.dest = u.dest ∧ t.data = u.data ∧ t.source = u.source ∧ t.from_ = u.from_ ∧ t.system = u.system
instance (t u : TxL) : Decidable (wT t u) := inferInstanceAs (Decidable (_ ∧ _))
theorem Jtu (t u : TxL) : (ZG (.int .i64 t.kind) (.int .i64 u.kind) && (ZG (uV t.chain) (uV u.chain) && (ZG (uV t.nonce) (uV u.nonce) && (ZG (uV t.gas) (uV u.gas) && (ZG (uV t.y) (uV u.y) &&
  (Qs (wC t.tip) (wC u.tip) && (Qs (wC t.price) (wC u.price) && (Qs (wC t.value) (wC u.value) && (Qs (wC t.r) (wC u.r) && (Qs (wC t.s) (wC u.s) && (Qs (wC t.mint) (wC u.mint) &&
  (ZG (Jk t.dest) (Jk u.dest) && (ZG (Jk t.data) (Jk u.data) && (ZG (Jk t.source) (Jk u.source) && (ZG (Jk t.from_) (Jk u.from_) && (ZG (.bool t.system) (.bool u.system) && true)))))))))))))))) = decide (wT t u) := by
 rw [Bool.eq_iff_iff, decide_eq_true_iff]
 unfold wC wT
 simp only [eqU, eqW, vA, J0z, J2m, Bool.and_eq_true, decide_eq_true_eq, Bool.and_true]
theorem Jwn (t u : TxL) : t.er = u.er ↔ (t.acc.map AxL.er = u.acc.map AxL.er ∧ t.auths = u.auths ∧ wT t u) := by
 unfold TxL.er wT
 simp only [TxE.mk.injEq]
 constructor
 ·rintro ⟨a, b, c, d, e, f, g, h, i, j, k, l, m, n, o, p, q, r⟩; exact ⟨j, k, a, b, c, f, l, d, e, h, m, n, q, g, i, o, p, r⟩
 ·rintro ⟨j, k, a, b, c, f, l, d, e, h, m, n, q, g, i, o, p, r⟩; exact ⟨a, b, c, d, e, f, g, h, i, j, k, l, m, n, o, p, q, r⟩
theorem vD  {u : TxL} (ht : t.In R) (hu : u.In R) : PureR prog 64 [t.val, u.val].toArray (.bool (decide (t.er = u.er))) R := by
  refine J1 Tryz.func64 O O fun w => Fa fun r0 => ?_; refine JR (cs := List.toArray (u.cells)) O O O O fun r1 => J5 11 O ?_
  refine DD ?_; refine JI O (Ju O O O (enters_of Tryz.func158 m4 O) (Jor ht.accL hu.accL ht.accS hu.accS ht.acc hu.acc) oR (J5 2 O ?_))
  refine J8 14 O (fun gb => ?_) (fun gb => ?_) <;> (try simp only [ZZ] at gb) <;> first | (refine LR O (Ja O O m0) ?_) | (refine LK O ?_)
  all_goals refine MV ?_
  all_goals first | (refine Ju O O O (enters_of Tryz.func159 m4 O) (Jos ht.auL hu.auL ht.auS hu.auS) oR ?_) | refine LK O ?_
  all_goals refine MQ ?_
  all_goals (
   refine kN ?_; refine Jl O (fun g => ?_) (fun g => ?_)
   try simp only [ZZ] at g
   refine KF 7 O (NA fun w1 hs1 => ?_); exact (decide_eq_false fun h => by have h2 := (Jwn t u).1 h; simp_all).symm
   · try exact Bool.noConfusion g
     all_goals try simp only [ZZ] at g
     all_goals (
      refine Ku 8 O (KB 8 m4 m4 (kr ?_)); refine Gl ?_; refine Vu O O O (enters_of Tryz.func160 m4 O) (Jdp t) (kr ?_); refine Jt O O O (Ji (xs := u.cells) (n := 36) O (kn 0 O) O O O) (Vu O O O (enters_of Tryz.func160 m4 O) (Jdp u) (Jt O O O (Jh0 (xs := zU t) (ys := zU u) O O O m4 m4 (.scal m7 O O O O O (.scal m7 O O O O O (.scal m7 O O O O O (.scal m7 O O O O O (.scal m7 O O O O O (.arr m7 O O O O O O O O O O (.arr m7 O O O O O O O O O O (.arr m7 O O O O O O O O O O (.arr m7 O O O O O O O O O O (.arr m7 O O O O O O O O O O (.arr m7 O O O O O O O O O O (.scal m7 O O O O O (.scal m7 O O O O O (.scal m7 O O O O O (.scal m7 O O O O O (.scal m7 O O O O O .nil))))))))))))))))) (WK (congrArg Value.bool (Jtu t u)) (Gk ?_)))); refine GN ?_; refine NA fun w1 hs1 => ?_; exact (decide_eq_decide.2 ((Jwn t u).trans ⟨fun h => h.2.2, fun h => ⟨by simp_all, by simp_all, h⟩⟩)).symm
      skip)
   skip)
def n0 (t : TxL) : TxL := ⟨t.kind, 0, 0, w40, w40, t.gas, t.dest, t.value, t.data, none, [], none, [], 0, w40, w40, [], [], w40, false⟩
def yJ (t : TxL) : TxL := { n0 t with chain := t.chain, nonce := t.nonce, price := t.price, y := t.y, r := t.r, s := t.s, tip := if t.kind = 2 then t.tip else w40, accP := if t.kind = 0 then none else t.accP, acc := if t.kind = 0 then [] else t.acc }
theorem Jot (hk : Yn t.kind) : (yJ t).er = ZK t.er := by
 unfold yJ ZK TxL.er n0
 rcases hk with h | h | h <;> simp [h, tx0]
theorem Jyg (ht : t.In R) (hk : Yn t.kind) : (yJ t).In R where
 ok := by
  rw [Jot hk]
  have h := ht.ok
  unfold ZK
  rw [if_neg (by show ¬ t.kind = 126; unfold Yn at hk; omega)]; exact ⟨h.chain, h.nonce, (by dsimp only; split; exact h.tip; exact w40_ok), h.price, h.gas, h.value, (by dsimp only; split; exact h.auths; intro a ha; cases ha), h.y, h.r, h.s, w40_ok⟩
 dest := ht.dest
 data := ht.data
 source := by show ([] : BS).length ≤ _; simp
 from_ := by show ([] : BS).length ≤ _; simp
 accL := by unfold yJ; dsimp only; split; simp; exact ht.accL
 accS := by unfold yJ; dsimp only; split; exact rfl; exact ht.accS
 acc := by unfold yJ; dsimp only; split; intro a ha; cases ha; exact ht.acc
 auL := by show ([] : List AuE).length ≤ _; simp
 auS := rfl
 au := fun a ha => by cases ha
theorem Jtv (hk : Yn t.kind) : Pure prog 95 [t.val].toArray (yJ t).val := by
 refine GY fun w r0 r2 => ?_; refine gm fun r3 => ?_; refine kI ?_; refine NQ ?_; refine Jl O (fun h5 => ?_) (fun h5 => ?_)
 exact absurd h5 (Mi)
 ·try simp only [ZZ] at h5
  refine gy ?_; refine EM ?_; refine JP 17 O (Jl O (fun h15 => ?_) (fun h15 => ?_))
  exact absurd h15 (Mi)
  ·try simp only [ZZ] at h15
   refine Ku 9 O (cD (fun g => ?_) fun g => ?_)
   ·refine Jv 8 O ?_
    refine MP ?_; refine LR O (Ki (vs := [_, _, _, _]) O (kn 2 O) O O O O) ?_
    refine MP ?_; refine J2 (k := 0) (n := 4) (cs' := List.toArray ({ n0 t with chain := t.chain, nonce := t.nonce, price := t.price, y := t.y, r := t.r, s := t.s, tip := t.tip }).cells) (vs := #[_, _, _, _]) rfl rfl rfl rfl rfl rfl rfl m8 m4 rfl (EM ?_)
    refine MP ?_
    (have h2 : t.kind = 2 := by assumption
     refine Jm (k := 0) (cs' := List.toArray ({ n0 t with chain := t.chain, nonce := t.nonce, price := t.price, y := t.y, r := t.r, s := t.s, tip := t.tip, accP := t.accP, acc := t.acc }).cells) rfl rfl rfl rfl rfl rfl rfl rfl m4 rfl ?_)
    refine g8 ?_
    (have h2 : t.kind = 2 := by assumption
     refine LR O (Ji (xs := ({ n0 t with chain := t.chain, nonce := t.nonce, price := t.price, y := t.y, r := t.r, s := t.s, tip := t.tip, accP := t.accP, acc := t.acc }).cells) (n := 36) rfl (kn 0 rfl) rfl rfl rfl) ?_)
    refine NU fun w1 hs1 => ?_; refine Df ?_
    rcases hk with h | h | h <;> first | (simp [h, n0]; done) | (exfalso; omega)
   ·refine Ku 8 O (cD (fun g => ?_) fun g => ?_)
    ·refine Jv 10 O ?_
     refine MP ?_; refine kI ?_
     refine MP ?_; refine Jm (k := 0) (cs' := List.toArray ({ n0 t with chain := t.chain, nonce := t.nonce, price := t.price, y := t.y, r := t.r, s := t.s, accP := t.accP, acc := t.acc }).cells) rfl rfl rfl rfl rfl rfl rfl rfl m4 rfl (g8 ?_)
     (have h2 : t.kind = 1 := by assumption
      refine LR O (Ji (xs := ({ n0 t with chain := t.chain, nonce := t.nonce, price := t.price, y := t.y, r := t.r, s := t.s, accP := t.accP, acc := t.acc }).cells) (n := 36) rfl (kn 0 rfl) rfl rfl rfl) ?_)
     refine NU fun w1 hs1 => ?_; refine Df ?_
     rcases hk with h | h | h <;> first | (simp [h, n0]; done) | (exfalso; omega)
    ·refine Jv 13 O (LR O (Ji (xs := ({ n0 t with chain := t.chain, nonce := t.nonce, price := t.price, y := t.y, r := t.r, s := t.s }).cells) (n := 36) rfl (kn 0 rfl) rfl rfl rfl) (NU fun w1 hs1 => ?_)); refine Df ?_
     rcases hk with h | h | h <;> first | (simp [h, n0]; done) | (exfalso; omega)
def wU (r : Nat) : Nat × Obj := (r, .map #[⟨.int .i64 0, .int .i64 9, 0⟩, ⟨.int .i64 1, .int .i64 11, 1⟩, ⟨.int .i64 2, .int .i64 12, 2⟩, ⟨.int .i64 4, .int .i64 13, 3⟩, ⟨.int .i64 126, .int .i64 8, 4⟩] 5)
theorem YD : PureE (α := Nat) prog 50 #[] (fun r => .map (some r)) (fun r => [wU r]) := by
 refine Qm (vs := []) Tryz.func50 O O fun w => Kl (DE ?_); refine ZX O O fun rm => QU (q := 0) (key := .int .i64 0) (val := .int .i64 9) (VP (t := 3) m4) O O O O O O ⟨_, rfl⟩ MF O O ?_
 refine QU (q := 0) (key := .int .i64 1) (val := .int .i64 11) (VP (t := 3) m4) O O O O O O ⟨_, rfl⟩ nE O O ?_
 refine QU (q := 0) (key := .int .i64 2) (val := .int .i64 12) (VP (t := 3) m4) O O O O O O ⟨_, rfl⟩ nu O O ?_
 refine QU (q := 0) (key := .int .i64 4) (val := .int .i64 13) (VP (t := 3) m4) O O O O O O ⟨_, rfl⟩ nY O O ?_
 refine QU (q := 0) (key := .int .i64 126) (val := .int .i64 8) (VP (t := 3) m4) O O O O O O ⟨_, rfl⟩ nP O O (EN fun w1 hs1 => ?_); exact ⟨rm, rfl, hs1⟩
theorem zV {a : AxL} (ha : a.In R) : PureR prog 94 [a.val].toArray (.bool (decide (a.keys.length > 16))) R := by
 have hs := ha.seg
 refine J1 Tryz.func94 O O fun w => kT fun r1 => ?_; refine kB ?_
 refine N5 ?_; refine GO ?_; exact HP
theorem Jwo {t : TxE} (hk : Yn t.kind) (h : t ≠ ZK t ∨ Qd t = false) : X0 t = 2 := by
 unfold X0 Qp; rw [if_neg nO, if_pos h]
theorem J01 {t : TxE} (hk : Yn t.kind) (h : t = ZK t) (h2 : Qd t = true) (h3 : jI t = true) : X0 t = 5 := by
 unfold X0 Qp; rw [if_neg nO, if_neg Mv, if_pos h3]
theorem J02 {t : TxE} (hk : Yn t.kind) (h : t = ZK t) (h2 : Qd t = true) (h3 : jI t = false) : X0 t = 0 := by
 unfold X0 Qp; rw [if_neg nO, if_neg Mv, if_neg (by rw [h3]; simp)]
theorem Jdq {t : TxE} (h : t.data.length > 4096 ∨ t.access.length > 16 ∨ (t.access.any fun a => decide (a.keys.length > 16)) = true ∨ t.auths.length > 8) : jI t = true := by
 unfold jI
 rcases h with h | h | h | h
 ·rw [decide_eq_true h]; rfl
 ·rw [decide_eq_true h]; simp
 ·rw [h]; simp
 ·rw [decide_eq_true h]; simp
theorem Jin {t : TxE} (h1 : ¬ t.data.length > 4096) (h2 : ¬ t.access.length > 16) (h3 : (t.access.any fun a => decide (a.keys.length > 16)) = false) (h4 : ¬ t.auths.length > 8) : jI t = false := by
 unfold jI
 rw [decide_eq_false h1, decide_eq_false h2, h3, decide_eq_false h4]; rfl
theorem Jdr (l : List AxL) : ((l.map AxL.er).any fun a => decide (a.keys.length > 16)) = l.any fun a => decide (a.keys.length > 16) := by rw [List.any_map]; rfl
theorem zX (ht : t.In R) (hk : Yn t.kind) : PureR prog 33 [t.val].toArray (.int .i64 (X0 t.er)) R := by
  have hn := Jot hk
  have hsm := vD ht (Jyg ht hk)
  have hke : Yn t.er.kind := hk
  have hkk := Jdr t.acc
  have hseg := ht.accS
  have hseg2 := ht.auS
  rw [hn] at hsm; refine Nu fun w r0 mr => ?_
  refine Xk (k := 3) O O O O O (Qk (v := .int .i64 (Qp t.kind : Int)) (VP (t := 3) m4) O O (kn 0 O) O O ⟨_, rfl⟩ mc (by rcases hk with h | h | h <;> rw [h] <;> rfl)) ?_; refine Ge ?_; refine Jl O (fun h5 => ?_) (fun h5 => ?_)
  · exact absurd h5 ((by intro h; have := beq_iff_eq.1 h; unfold Qp Yn at *; rcases hk with h | h | h <;> simp [h] at this))
  · try simp only [ZZ] at h5
    refine Dz ?_; refine KB 6 m4 m4 (Gl ?_); refine Gl ?_; refine Vu O O O (enters_of Tryz.func95 m4 O) (Jtv hk) (wl O O O Js8 hsm oR (gP ?_)); refine kr ?_; refine KR ?_
    refine J8 16 O (fun gb => ?_) (fun gb => ?_) <;> (try simp only [ZZ] at gb) <;> first | (refine LR O (Ji (xs := t.cells) (n := 36) O (kn 1 O) O O O) ?_) | (refine LK O ?_)
    all_goals first | (refine Ju O O O (enters_of Tryz.func96 m4 O) (Jtt ht hk) oR ?_) | refine LK O ?_
    all_goals refine MQ ?_
    all_goals (
     refine kW ?_; refine Jl O (fun g => ?_) (fun g => ?_)
     try simp only [ZZ] at g
     refine E9 fun w1 hs1 => ?_
     first | exact (Jwo hke (.inl ma)).symm | exact (Jwo hke (.inr ma)).symm
     · try exact Bool.noConfusion g
       all_goals try simp only [ZZ] at g
       all_goals (
        refine NG ?_
        refine Gb ?_; refine H1 ?_
        refine J8 26 O (fun gb => ?_) (fun gb => ?_) <;> (try simp only [ZZ] at gb) <;> first | (refine LR O (Ja O O m0) ?_) | (refine LK O ?_)
        all_goals refine DG ?_
        all_goals refine GZ ?_
        all_goals first | refine LK O ?_ | (refine J8 32 O (fun gb => ?_) (fun gb => ?_) <;> (try simp only [ZZ] at gb) <;> first | (refine LR O (Ja O O m0) ?_) | (refine LK O ?_))
        all_goals refine Fw ?_
        all_goals refine N4 ?_
        all_goals refine gl ?_
        all_goals first | refine LK O ?_ | (refine J8 38 O (fun gb => ?_) (fun gb => ?_) <;> (try simp only [ZZ] at gb) <;> first | (refine LR O (Ja O O m0) ?_) | (refine LK O ?_))
        all_goals refine Nb ?_
        all_goals first | refine LR O (JZ O hseg2 O) ?_ | refine LK O ?_
        all_goals refine MQ ?_
        all_goals (
         refine kW ?_; refine Jl O (fun g => ?_) (fun g => ?_)
         try simp only [ZZ] at g
         refine E9 fun w1 hs1 => ?_
         (refine (J01 hke ma ma (Jdq ?_)).symm
          refine EH ?_
          first | exact .inl m3 | exact .inr (.inl m3) | exact .inr (.inr (.inl (hkk.trans ma))) | exact .inr (.inr (.inr m3)))
         · try exact Bool.noConfusion g
           all_goals try simp only [ZZ] at g
           all_goals (
            refine KF 9 O (N3 fun w1 hs1 => ?_); refine NL ?_
            (refine (J02 hke ma ma (Jin ?_ ?_ (hkk.trans ma) ?_)).symm
             show ¬ t.data.length > 4096; omega
             exact F6
             show ¬ t.auths.length > 8; omega)
            skip)
         skip)
        skip)
     skip)
theorem Jtw (a b : List ItL) : Kq (a ++ b) = Kq a ++ Kq b := by unfold Kq; rw [List.flatMap_append]
def wW (r n : Nat) (xs : List ItL) : ItL := .mk true [] (some (⟨r, 0, none⟩, n)) xs
theorem Jds {xs : List ItL} (hl : xs.length ≤ 1000000) (hr : (r, Obj.cells (Kq xs).toArray 91 (0, 0)) ∈ R) (hx : ∀ x ∈ xs, x.In R) : (wW r xs.length xs).In R :=
 .mk mf hl ⟨Lc', fun _ => ⟨rfl, _, _, _, hr, by rw [List.drop_zero]; exact List.take_of_length_le (Lc')⟩⟩ hx
theorem Jdt (r n : Nat) (xs : List ItL) : (wW r n xs).er = Xq (xs.map ItL.er) := by unfold wW; rw [ItL.er]; rfl
def J2n {l : List BS} (hl : l.length ≤ 1000000) (hb : ∀ s ∈ l, s.length ≤ 1000000) : ItN (WS l) :=
 ⟨wW 0 (l.map Kv).length (l.map Kv), [(0, .cells (Kq (l.map Kv)).toArray 91 (0, 0))], Jds (by rw [D']; exact hl) N' (fun x hx => by obtain ⟨s, hs, rfl⟩ := List.mem_map.1 hx; exact Q8 (hb s hs)), by rw [Jdt, Jdl]; rfl⟩
structure AxS (a : AxL) : Prop where
  addr : a.addr.length ≤ 1000000
  len : a.keys.length ≤ 100000
  keys : ∀ s ∈ a.keys, s.length ≤ 1000000
structure PairS (l : List AxL) (i : Nat) (row : QZ) (its : List ItL) (F : J3) : Prop where
  le : i ≤ l.length
  ok : rowOk 3 i (Kq its) row
  len : its.length = i
  er : its.map ItL.er = (l.take i).map fun a => axI a.er
  inn : ∀ x ∈ its, x.In F
structure FldR (e : TxE) : Type where
  q : Nat
  xs : List ItL
  row : QZ
  L : J3
  hq : (q, Obj.cells #[JV xs.length row] 89 (0, 0)) ∈ L
  ok : rowOk 3 xs.length (Kq xs) row
  hr : ∀ p ∈ J9 91 (Kq xs) row, p ∈ L
  hx : ∀ x ∈ xs, x.In L
  er : xs.map ItL.er = J0u e
structure TxS (t : TxL) : Prop where
  dest : t.dest.length ≤ 1000000
  data : t.data.length ≤ 1000000
  accL : t.acc.length ≤ 100000
  acc : ∀ a ∈ t.acc, AxS a
  au : t.auths = []
  y : t.y ≤ 1
  chain : t.kind = 0 → t.chain ≤ 4611686018427387904
theorem Jwp {n : Nat} (h : VL n) : (WL n).length ≤ 1000000 := Lb' (jG h) m7
structure SpR (xs : List ItL) (q cap : Nat) : Type where
  sp : List Value
  ok : rowOk 3 xs.length (Kq xs) (some (q, cap, sp))
theorem Zy {P M S V : List Value} {o n : Nat} (ho : P.length = o) (hn : M.length = n) : (P ++ M ++ S).take o ++ V ++ (P ++ M ++ S).drop (o + n) = P ++ V ++ S := by
 rw [Ld' P M S, Jxy ho hn, Ld']
end Go.Proofs.YtckoepmdmhdepaaGreatDoor
namespace Go.SL
set_option linter.all false
open Go Go.RowKit Go.Shelf
open Go.Proofs (Enters enters_of)
variable {a a' : Act} {af : Array Edge} {ops : Array Oper} {args : Array Operand} {at_ : Array TypeId} {assign body code : Code} {τ : Type} {E : Code → τ → Prop} {c : Cx} {Q : Exit → Act → World → Prop} {fn : Func} {g gf : FuncId} {B L L' Rl : J3} {K : J3 → Act → Prop} {T : J3 → Array Bool → Act → Prop} {s : List AcE} {d : List Deferred} {pp : List Nat} {rest : List Oper} {caps vs : List Value} {i j m q : Nat} {f x y : Operand} {gd : Option (Nat × Bool)} {P : Program} {ps : String} {α ι σ : Type} {e t ty : TypeId} {v : Value} {w w' : World} {X Xb : XP} {V : α → Value} {X' : α → XP} {p0 : ι} {ca : ι → FuncId → List Value → Prop} {nx : ι → List Value → ι → Prop} {dead fi : ι → Prop} {re : ι → Value → ι → Prop} {XI : ι → XP} {LI : σ → J3} {I : σ → Prop}
def Jio {ι : Type} (P : Program) (gf : FuncId) (caps : List Value) (T Rl : J3) (p0 : ι) (nx : ι → List Value → ι → Prop) (ca : ι → FuncId → List Value → Prop) (re : ι → Value → ι → Prop) (dead fin : ι → Prop) : Prop :=
 ∀ (q : Nat) (xids : List Nat) (w2 : World) (XI : ι → XP) (XF : XP),
  (∀ p ∈ Rl, p.1 ∉ xids ∧ (∀ t ∈ T, p.1 ≠ t.1) ∧ w2.heap[p.1]? = some p.2) → (∀ p ∈ T, p.1 ∉ xids ∧ w2.heap[p.1]? = some p.2) → (T.Pairwise fun p q => p.1 ≠ q.1) → (∀ k ∈ xids, k < w2.heap.size) → XM xids (XI p0) w2 →
  (∀ i xs w, dead i → ¬ XI i xs w) →
  (∀ i v i', nx i v i' → ∀ xs w, (∀ k ∈ xs, k < w.heap.size ∧ (k ∈ xids ∨ w2.heap.size ≤ k)) → Keep (Qo T ++ xids) w2 w → XM xs (XI i) w → YS P q v.toArray xs w (XI i') XF) →
  (∀ i g vs, ca i g vs → ∀ xs w, (∀ k ∈ xs, k < w.heap.size ∧ (k ∈ xids ∨ w2.heap.size ≤ k)) → Keep (Qo T ++ xids) w2 w → XM xs (XI i) w → RS P g vs.toArray xs w (re i) XI) →
  Calls P gf (.func (.yield q) #[] #[] :: caps).toArray w2 fun e w' => (∃ v, e = .returned v) ∧ Keep (Qo T ++ xids) w2 w' ∧ ((∃ i xs, fin i ∧ XI i xs w') ∨ ∃ xs, XF xs w')
theorem qT {f : FuncId} {T : J3} {fin : ι → Prop} (hf : P.funcs[f]? = some fn) (hb : fn.body = some code) (hlen : Nat.ble (caps.length + 1) fn.ntmps = true)
  (h : ∀ (q : Nat) (xids : List Nat) (w2 : World) (XI : ι → XP) (XF : XP), (∀ i xs w, dead i → ¬ XI i xs w) →
   (∀ i v i', nx i v i' → ∀ xs w, (∀ k ∈ xs, k < w.heap.size ∧ (k ∈ xids ∨ w2.heap.size ≤ k)) → Keep (Qo T ++ xids) w2 w → XM xs (XI i) w → YS P q v.toArray xs w (XI i') XF) →
   (∀ i g vs, ca i g vs → ∀ xs w, (∀ k ∈ xs, k < w.heap.size ∧ (k ∈ xids ∨ w2.heap.size ≤ k)) → Keep (Qo T ++ xids) w2 w → XM xs (XI i) w → RS P g vs.toArray xs w (re i) XI) →
   HC ⟨P, none, w2, Qo T, xids, Rl, fn.ntmps⟩ [] (Wd 0 (.func (.yield q) #[] #[] :: caps)) T (XI p0) code
    (bodyPostM (FW none) 0 P fn (fun e w' => (∃ v, e = .returned v) ∧ Keep (Qo T ++ xids) w2 w' ∧ ((∃ i xs, fin i ∧ XI i xs w') ∨ ∃ xs, XF xs w')))) : Jio P f caps T Rl p0 nx ca re dead fin :=
 fun q xids w2 XI XF hR hT hTp hlt h0 hd hY hC =>
  Vj ⟨P, none, w2, Qo T, xids, Rl, fn.ntmps⟩ hf hb rfl rfl rfl hlen
   ⟨Keep.refl _ _, fun p hp => ⟨.inl (I' (f := (·.1)) hp), (hT p hp).1, (hT p hp).2⟩, hTp, fun p hp => ⟨fun hm => by obtain ⟨t, ht, e⟩ := List.mem_map.1 hm; exact (hR p hp).2.1 t ht e.symm, (hR p hp).1, (hR p hp).2.2⟩, hlt, xids, fun k hk => ⟨.inl hk, hlt k hk, fun p hp e => (hT p hp).1 (e ▸ hk)⟩, h0⟩ (h q xids w2 XI XF hd hY hC)
section
variable {c : Cx} {l : KY} {L : J3} {X : XP} {Q : Exit → Act → World → Prop} {d : List Deferred}
variable {ops : Array Oper} {rest : List Oper} {i : Nat} {v : Value} {t : TypeId} {ps : String} {af : Array Edge} {gd : Option (Nat × Bool)} {ty : TypeId}
theorem Jtx {re : Value → ι → Prop}
  (hg : KW l ops ⟨some i, .call ⟨.value f, args, at_⟩, ty, ps, af, gd⟩ = some true) (hi : Nat.ble (i + 1) c.n = true) (hca : Qw l f args = some (g, vs)) (eg : Enters c.P g)
  (hC : ∀ xs w, (∀ k ∈ xs, k < w.heap.size ∧ (k ∈ c.xids ∨ c.w1.heap.size ≤ k)) → Keep (c.ids ++ c.xids) c.w1 w → XM xs X w → RS c.P g vs.toArray xs w re XI)
  (h : ∀ v i', re v i' → HL c d ((i, v) :: l) L (XI i') ops rest Q) : HL c d l L X ops (⟨some i, .call ⟨.value f, args, at_⟩, ty, ps, af, gd⟩ :: rest) Q :=
 Zb (α := { y : Value × ι // re y.1 y.2 }) (V := fun y => y.1.1) (L' := fun _ => L) (X' := fun y => XI y.1.2) hg hi hca eg (fun w hs => by
  obtain ⟨xs, hx1, hx2⟩ := hs.x
  refine (hC xs w (fun k hk => ⟨(hx1 k hk).2.1, (hx1 k hk).1⟩) hs.keep hx2).mono fun e w' ⟨v, i', xs', hre, he, hxs, hk, hb⟩ => ⟨⟨(v, i'), hre⟩, he, ?_⟩
  refine ⟨hs.keep.glue hk fun k hm => ?_, fun p hp => ?_, hs.distinct, hs.ext, hs.xlt, xs', fun k hm => ?_, hb⟩
  ·rcases (hx1 k hm).1 with g | g
   ·exact .inl (Y' g)
   ·exact .inr g
  ·obtain ⟨g1, g2, g3⟩ := hs.own p hp
   exact ⟨g1, g2, (hk.block p.1 (JM g3) fun hm => (hx1 _ hm).2.2 p hp O).trans g3⟩
  ·obtain ⟨g1, g2⟩ := hxs k hm
   refine ⟨g2.elim (fun g => (hx1 k g).1) fun g => .inr (Lb' hs.keep.size g), g1, fun p hp => ?_⟩
   rcases g2 with g | g
   ·exact (hx1 k g).2.2 p hp
   ·have := JM (hs.own p hp).2.2; omega) (fun y => h _ _ y.2)
theorem Jty {j : ι} {rest' : List Oper} (h : ∀ i xs w, dead i → ¬ XI i xs w) (hd : dead j) : HL c d l L (XI j) ops rest' Q := fun a w _ hs => by
 obtain ⟨xs, _, hx⟩ := hs.x
 exact (h j xs w hd (hx w fun _ _ => rfl)).elim
theorem zY  {T Rk : J3}
  (I : ι → σ → Prop) (LI : σ → J3) (E : Code → τ → Prop) (LE : τ → J3) (Lk : J3) (s0 : σ)
  (hro : c.ro = none) (hf : KU l f = some (.func (.func gf) #[] caps.toArray)) (eg : Enters c.P gf) (hit : Jio c.P gf caps T Rl p0 nx ca re dead fi) (hlen : ∀ i v i', nx i v i' → v.length = pp.length) (hpp : pp.all (Nat.blt · c.n) = true)
  (hRl : ∀ p ∈ Rl, p ∈ Lk ∨ p ∈ c.R) (hRk : ∀ p ∈ Rk, p ∈ Lk ∨ p ∈ c.R) (hL : L = LI s0 ++ (T ++ Lk)) (h0 : I p0 s0) (hdead : ∀ i s, dead i → ¬ I i s)
  (hread : ∀ i g vs s, ca i g vs → I i s → PureT (α := { y : Value × ι × σ // re i y.1 y.2.1 ∧ I y.2.1 y.2.2 }) c.P g vs.toArray (fun y => y.1.1) (LI s) (fun y => LI y.1.2.2) Rk)
  (hround : ∀ (q : Nat) (Xr Xb : XP) (w3 : World) (i : ι) (v : List Value) (i' : ι) (s : σ), nx i v i' → I i s → ∀ K, Jb5 (yW c q w3 (Qo (LI s)) Lk) Xr Xb body (Y2 (yW c q w3 (Qo (LI s)) Lk) Xb (I i') LI E LE) K →
   HC (yW c q w3 (Qo (LI s)) Lk) [] (vW pp v l) (LI s) Xr assign (Exit.then K fun _ _ _ => False))
  (hdone : ∀ D i s, fi i → I i s → HQ c (Wo D :: d) l ((D, .deferred (some [])) :: (LI s ++ Lk)) X (Q .normal))
  (hstop : ∀ D j s, E j s → HC c (Wo D :: d) l ((D, .deferred (some [])) :: (LE s ++ Lk)) X j Q) :
  HC c d l L X (.rangeFunc f pp.toArray assign body) Q :=
 yX (nx := fun i v B i' => nx i v i' ∧ B = []) I LI E LE Lk s0 hro hf eg
  (fun q xids w2 XI XF a b cc d e f g h => hit q xids w2 XI XF a b cc d e f (fun i v i' hn xs w h1 h2 h3 => g i v [] i' ⟨hn, rfl⟩ xs w h1 h2 h3 (fun _ h => absurd h List.not_mem_nil) (fun _ h => absurd h List.not_mem_nil)) h)
  (fun i v _ i' h => hlen i v i' h.1) hpp hRl hRk hL h0 hdead hread
  (fun q Xr Xb w3 i v B i' s h hI K hK => by obtain ⟨h, rfl⟩ := h; exact hround q Xr Xb w3 i v i' s h hI K hK) hdone hstop
end
section
variable {c : Cx} {l : KY} {L : J3} {X : XP} {i : Nat} {t t2 ty : TypeId} {ps : String} {af : Array Edge} {gd : Option (Nat × Bool)} {d : List Deferred}
theorem Jwq  {n : Nat} {b : Int} (hx : KU l x = some (.int .i64 (m : Int))) (hy : KU l y = some (.int .i64 (n : Int))) (hm : m < 9223372036854775808) (hn : n < 9223372036854775808) (hb : ((m ||| n : Nat) : Int) = b) :
  Kg c d l L X ⟨some i, .binOp .or t x y t2, ty, ps, af, gd⟩ (.int .i64 b) := fun a' w hfr _ => by
 subst hb
 have e1 : (BitVec.ofInt 64 (m : Int)).toNat = m := by simp [BitVec.toNat_ofInt]; omega
 have e2 : (BitVec.ofInt 64 (n : Int)).toNat = n := by simp [BitVec.toNat_ofInt]; omega
 have hm' : m < 2 ^ 63 := hm
 have hn' : n < 2 ^ 63 := hn
 have h3 := Nat.or_lt_two_pow hm' hn'
 have wr : IntKind.i64.wrap ((m ||| n : Nat) : Int) = ((m ||| n : Nat) : Int) := wrap_i64 m3 m3
 simp only [execOp]; rw [hfr.eval hx, hfr.eval hy]
 have e3 : (BitVec.ofInt 64 (m : Int) ||| BitVec.ofInt 64 (n : Int)).toNat = m ||| n := by rw [BitVec.toNat_or, e1, e2]
 show Sem.run c.P (pure (Next.value (Value.int .i64 (IntKind.i64.wrap (((BitVec.ofInt 64 (m : Int) ||| BitVec.ofInt 64 (n : Int)).toNat : Nat) : Int))))) w = _
 rw [e3, wr]; rfl
end
end Go.SL
namespace Go.Proofs.YtckoepmdmhdepaaGreatDoor
open Go.SL Go.RowKit Go.Shelf
open Go.Proofs (Enters enters_of)
variable {s : BS} {v : Bool} {g : FuncId} {e hi : Int} {y : ItL} {caps vs : List Value} {α : Type} {a i q r r1 r2 : Nat} {w : World}
def J03 (p n : Nat) (l : Bool) : Value := .agg #[.int .i64 (p : Int), .int .i64 (n : Int), .bool l]
theorem Jwr {b : Nat} (hb : b < 256) : a * 256 ||| b = a * 256 + b := by
 have := Nat.two_pow_add_eq_or_of_lt (i := 8) (b := b) m3 a
 rw [show 2 ^ 8 * a = a * 256 from by omega] at this; exact this.symm
theorem Jou (s : BS) : XX s < 256 ^ s.length := by
 induction s with
 | nil => simp [XX]
 | cons b r ih =>
  rw [Jdf, List.length_cons, Nat.pow_succ]
  have hb := V6 b
  have h1 : b.toNat * 256 ^ r.length ≤ 255 * 256 ^ r.length := Nat.mul_le_mul_right _ m3
  omega
theorem Jyh {m : Nat} (hm : m ≤ 3) : XX (s.take m) < 16777216 := by
 have h1 := Jou (s.take m)
 have h2 : 256 ^ (s.take m).length ≤ 256 ^ 3 := Nat.pow_le_pow_right m7 n6
 omega
theorem Jdu  {p : Nat} (h : p + i < s.length) : XX ((s.drop p).take (i + 1)) = XX ((s.drop p).take i) * 256 + (s.getD (p + i) 0).toNat := by
 have e : (s.drop p)[i]? = some (s.getD (p + i) 0) := by rw [List.getElem?_drop, List.getD_eq_getElem?_getD, List.getElem?_eq_getElem h]; rfl
 rw [List.take_add_one, e, Option.toList_some, Jn9]
theorem Jov  {m : Nat} (hs : s.length ≤ 1000000) (ha : a < s.length) (hm : m ≤ 10) (h1 : 1 ≤ m) : Pure prog 238 [Jk s, .int .i64 (a : Int), .int .i64 (m : Int)].toArray (.tuple #[J03 (Yj s a m).2.1 (Yj s a m).2.2 false, .int .i64 (Yj s a m).1]) := by
  refine JA Tryz.func238 O O fun w => kT fun r1 => ?_; refine E8 ?_; refine cD (fun g => ?_) fun g => ?_
  refine Ep fun w1 hs1 => ?_
  rw [if_pos m3]; rfl
  · refine DE ?_; refine H1 ?_; refine J4 mO ?_
    refine GV ?_; refine J4 (show _ = Value.int .i64 ((s.length - a - 1 : Nat) : Int) from by rw [wrap_i64 m3 m3]; congr 1 <;> omega) ?_; refine NQ ?_; refine cD (fun g => ?_) fun g => ?_
    refine Ep fun w1 hs1 => ?_
    rw [if_neg m3, if_pos m3]; rfl
    · refine Ku 15 O (JQ (σ := Nat) (fun i => i ≤ m) (fun i => [(0, Jk s), (1, .int .i64 (a : Int)), (2, .int .i64 (m : Int)), (6, Kj r1), (8, .int .i64 ((XX ((s.drop (a + 1)).take i) : Nat) : Int)), (21, .int .i64 (m : Int)), (22, .int .i64 (i : Int))]) (fun i => [(r1, .cells #[.int .i64 0, .int .i64 0, .bool false] 283 (0, 0))]) (fun _ _ _ => True) (fun i => m - i) 0 (Z') (lK O) (T') (fun _ _ h => h) ?_); intro i hi; refine gv ?_; refine cD (fun g => ?_) fun g => ?_
      · refine Jv 12 O (LR O (Jca (n := 8) (b := ((XX ((s.drop (a + 1)).take i) * 256 : Nat) : Int)) O O O (show 8 ≤ 64 from by decide) (by have := Jyh (s := s.drop (a + 1)) (m := i) m3; rw [wrap_i64 m3 m3]; omega)) (J5 3 rfl (J4 mo (gu ?_)))); refine J4 nv (LR O (JW (j := a + 1 + i) O O O O m3 O) (GV ?_)); refine J4 (show _ = Value.int .i64 ((s.getD (a + 1 + i) 0).toNat : Int) from by rw [wrap_i64 Md Md]) (LR rfl (Jwq (b := ((XX ((s.drop (a + 1)).take (i + 1)) : Nat) : Int)) rfl rfl (by have := Jyh (s := s.drop (a + 1)) (m := i) m3; omega) Md (by rw [Jdu m3, Jwr (V6 _)])) (Dr ?_)); exact Gh
      · refine Ku 7 O ?_
        have him : i = m := by omega
        subst him; refine gw ?_; refine J4 mo (LR O (JW (j := a + 1) O O O O m3 O) (gu ?_))
        refine J8 41 O (fun gb => ?_) (fun gb => ?_) <;> (try simp only [ZZ] at gb) <;> first | (refine JI O ?_) | (refine LK O ?_)
        all_goals refine MQ ?_
        all_goals (
         refine kN ?_; refine Jl O (fun g => ?_) (fun g => ?_)
         try simp only [ZZ] at g
         refine Ep fun w1 hs1 => ?_
         rw [if_neg m3, if_neg m3, if_pos m3]; rfl
         · try exact Bool.noConfusion g
           all_goals try simp only [ZZ] at g
           all_goals (
            refine Hq ?_; refine J4 mo (gu ?_); refine J4 nv (JI O (LR O (Jo (r := [_, _, _]) O O) ?_))
            refine N1 ?_; refine gA ?_; refine kJ fun w1 hs1 => ?_; refine gS ?_
            unfold Yj
            rw [if_neg m3, if_neg m3, if_neg m3]; rfl
            skip)
         skip)
theorem vF  {m : Nat} (ha : a < s.length) (h : (Yj s a m).1 = 0) : (Yj s a m).2.1 ≤ s.length ∧ a + 1 ≤ (Yj s a m).2.1 ∧ 56 ≤ (Yj s a m).2.2 ∧ (Yj s a m).2.2 < 16777216 := by
 unfold Yj at h ⊢
 by_cases h1 : m > 3
 ·rw [if_pos h1] at h; cases h
 rw [if_neg h1] at h ⊢
 by_cases h2 : m > s.length - a - 1
 ·rw [if_pos h2] at h; cases h
 rw [if_neg h2] at h ⊢
 by_cases h3 : (s.getD (a + 1) 0).toNat = 0 ∨ XX ((s.drop (a + 1)).take m) < 56
 ·rw [if_pos h3] at h; cases h
 rw [if_neg h3] at h ⊢
 have := Jyh (s := s.drop (a + 1)) (m := m) m3
 refine ⟨?_, ?_, ?_, ?_⟩ <;> simp only <;> omega
theorem Jap (hs : s.length ≤ 1000000) (ha : a ≤ s.length) : Pure prog 201 [Jk s, .int .i64 (a : Int)].toArray (.tuple #[J03 (lookE s a).2.1 (lookE s a).2.2.1 (lookE s a).2.2.2, .int .i64 (lookE s a).1]) := by
  refine JA Tryz.func201 O O fun w => Kl ?_
  have hc := V6 (s.getD a 0)
  refine NG ?_; refine LN O fun r1 => J5 12 O (Nz ?_); refine KC O (LR O (Jy O O) (JP 3 O ?_)); refine cD (fun g => ?_) fun g => ?_
  refine Hf ?_
  refine N1 ?_; refine JD 6 O (kJ fun w1 hs1 => ?_)
  (exfalso; omega)
  · refine gw ?_; refine Eh ?_; refine cD (fun g => ?_) fun g => ?_
    refine Hf ?_
    refine N1 ?_; refine JD 6 O (kJ fun w1 hs1 => ?_); refine gS ?_; unfold lookE; rw [if_pos m3]; rfl
    · refine gw ?_; refine LR O (JW (j := a) O O O O m3 O) (G5 ?_); refine cD (fun g => ?_) fun g => ?_
      refine gz ?_; refine NI ?_
      refine N1 ?_; refine JD 6 O (kJ fun w1 hs1 => ?_); refine gS ?_; unfold lookE; rw [if_neg m3, if_pos m3]; rfl
      · refine DE ?_; refine LR O (JW (j := a) O O O O m3 O) ?_; refine KC O (J4 (show _ = Value.int .i64 (((s.getD a 0).toNat : Nat) : Int) from by rw [wrap_i64 m3 m3]) (J5 7 rfl ?_)); refine J4 (show _ = Value.int .i64 (((s.getD a 0).toNat - 128 : Nat) : Int) from by rw [wrap_i64 m3 m3]; congr 1 <;> omega) ?_; refine GV ?_; refine J4 (show _ = Value.int .i64 ((((s.getD a 0).toNat - 128) % 64 : Nat) : Int) from by rw [Int.tmod_eq_emod_of_nonneg m3]; congr 1) ?_; refine g8 ?_; refine J4 mo ?_; refine JI O (LR O (Jo (r := [_, _, _]) O O) (LN O fun r2 => ?_))
        refine N1 ?_; refine E8 ?_; refine cD (fun g => ?_) fun g => ?_
        · refine gx ?_; refine J4 (show _ = Value.int .i64 ((((s.getD a 0).toNat - 128) % 64 - 56 : Nat) : Int) from by rw [wrap_i64 m3 m3]; congr 1 <;> omega) ?_
          refine GV ?_; refine J4 (show _ = Value.int .i64 ((((s.getD a 0).toNat - 128) % 64 - 55 : Nat) : Int) from by rw [wrap_i64 m3 m3]; congr 1 <;> omega) ?_
          have hlk : ZO s a (s.getD a 0).toNat = Yj s a (((s.getD a 0).toNat - 128) % 64 - 55) := by unfold ZO; rw [if_pos m3]
          refine JC O O O (enters_of Tryz.func238 m4 O) (Jov hs m3 m3 m3) (MR ?_)
          refine N1 ?_; refine JP 12 O (cD (fun g => ?_) fun g => ?_)
          refine Hf ?_; refine gl ?_
          refine FB fun w1 hs1 => ?_; rw [if_neg m3, if_neg m3, hlk, if_pos mC]; rfl
          · refine F0 ?_; refine JI O (LR O (JJ O O) ?_)
            refine N5 ?_
            refine GV ?_; first | (have hok := vF (s := s) (a := a) (m := ((s.getD a 0).toNat - 128) % 64 - 55) m3 m3; refine J4 mS ?_) | (have hlk : ZO s a (s.getD a 0).toNat = (0, a + 1, ((s.getD a 0).toNat - 128) % 64) := (by unfold ZO; rw [if_neg m3]); refine J4 nj ?_)
            refine G5 ?_; refine cD (fun g => ?_) fun g => ?_
            exact Dg
            · refine gx ?_
              refine J8 73 O (fun gb => ?_) (fun gb => ?_) <;> (try simp only [ZZ] at gb) <;> first | (refine JI O ?_) | (refine LK O ?_)
              all_goals refine Ns ?_
              all_goals first | (refine KC O ?_; refine J4 mo ?_) | refine LK O ?_
              all_goals first | (refine LR O (JW (j := a + 1) O O O O m3 O) ?_) | refine LK O ?_
              all_goals refine MQ ?_
              all_goals (
               refine kW ?_; refine Jl O (fun g => ?_) (fun g => ?_)
               · try exact Bool.noConfusion g
                 all_goals try simp only [ZZ] at g
                 all_goals (
                  refine Hf ?_
                  refine Nt ?_; refine JD 6 O (kq fun w1 hs1 => ?_)
                  (exfalso; omega)
                  skip)
               try simp only [ZZ] at g
               refine DJ ?_; refine kq fun w1 hs1 => ?_
               first | ((exfalso; omega)) | (refine ⟨?_, hs1.keep⟩; unfold lookE; rw [if_neg m3, if_neg m3, hlk, if_neg mC, if_neg mC, if_neg m3]; have hdec : decide (((s.getD a 0).toNat : Int) ≥ 192) = decide (192 ≤ (s.getD a 0).toNat) := decide_eq_decide.2 m3; rw [hdec]; rfl)
               skip)
        · refine Ku 11 O (Jl O (fun g => ?_) (fun g => ?_))
          try exact Bool.noConfusion g
          · try simp only [ZZ] at g
            refine F0 ?_; refine JI O (LR O (JJ O O) ?_)
            refine N5 ?_
            refine GV ?_; first | (have hok := vF (s := s) (a := a) (m := ((s.getD a 0).toNat - 128) % 64 - 55) m3 m3; refine J4 mS ?_) | (have hlk : ZO s a (s.getD a 0).toNat = (0, a + 1, ((s.getD a 0).toNat - 128) % 64) := (by unfold ZO; rw [if_neg m3]); refine J4 nj ?_)
            refine G5 ?_; refine cD (fun g => ?_) fun g => ?_
            exact Dg
            · refine gx ?_
              refine J8 73 O (fun gb => ?_) (fun gb => ?_) <;> (try simp only [ZZ] at gb) <;> first | (refine JI O ?_) | (refine LK O ?_)
              all_goals refine Ns ?_
              all_goals first | (refine KC O ?_; refine J4 mo ?_) | refine LK O ?_
              all_goals first | (refine LR O (JW (j := a + 1) O O O O m3 O) ?_) | refine LK O ?_
              all_goals refine MQ ?_
              all_goals (
               refine kW ?_; refine Jl O (fun g => ?_) (fun g => ?_)
               · try exact Bool.noConfusion g
                 all_goals try simp only [ZZ] at g
                 all_goals (
                  refine Hf ?_
                  refine FB fun w1 hs1 => ?_; rw [if_neg m3, if_neg m3, hlk, if_neg mC, if_neg mC, if_pos mC]; rfl
                  skip)
               try simp only [ZZ] at g
               refine DJ ?_; refine kq fun w1 hs1 => ?_
               refine gS ?_; unfold lookE; rw [if_neg m3, if_neg m3, hlk, if_neg mC, if_neg mC, if_neg m3]; have hdec : decide (((s.getD a 0).toNat : Int) ≥ 192) = decide (192 ≤ (s.getD a 0).toNat) := decide_eq_decide.2 m3; rw [hdec]; rfl
               skip)
set_option linter.all false
def YN (r : Nat) (a : Nat) : Nat × Obj := (r, .cells #[.int .i64 (a : Int)] 3 (0, 0))
def Jip (r : Nat) (g : FuncId) (caps : List Value) : Nat × Obj := (r, .cells #[.func (.func g) #[] caps.toArray] 330 (0, 0))
def nxP (n : Nat) : Bool × Nat × Nat → List Value → Bool × Nat × Nat → Prop := fun z v z' => z.1 = false ∧ z.2.2 < n ∧ v = [.int .i64 (z.2.1 : Int), .int .i64 (z.2.2 : Int)] ∧ z' = (true, z.2.1, z.2.2)
def caP (g : FuncId) (caps : List Value) : Bool × Nat × Nat → FuncId → List Value → Prop := fun z g' vs => z.1 = true ∧ g' = g ∧ vs = .int .i64 (z.2.2 : Int) :: caps
def reP : Bool × Nat × Nat → Value → Bool × Nat × Nat → Prop := fun z v z' => ∃ p : Nat, p ≤ 1000000 ∧ v = .int .i64 (p : Int) ∧ z' = (false, z.2.1 + 1, p)
def Jws : Bool × Nat × Nat → Prop := fun z => z.1 = true ∧ 512 ≤ z.2.1
def J04 (n : Nat) : Bool × Nat × Nat → Prop := fun z => z.1 = false ∧ n ≤ z.2.2
def Jiq (rf re rr : Nat) : List Value := [Kj rf, Kj re, Kj rr]
theorem Jow {n : Nat} : PureT (α := Nat × Nat × Nat) prog 241 [.int .i64 (a : Int), .int .i64 (n : Int), .func (.func g) #[] caps.toArray].toArray (fun y => .func (.func 271) #[] (Jiq y.1 y.2.1 y.2.2).toArray) [] (fun y => [YN y.1 a, YN y.2.1 n, Jip y.2.2 g caps]) [] := by
 refine Jq Tryz.func241 O O fun w => Hn fun r1 r2 => ?_; refine LN O fun r3 => kB ?_; refine NR ?_; refine gA ?_; refine N3 fun w1 hs1 => ?_; exact ⟨(_, _, _), rfl, hs1.perm (List.reverse_perm [_, _, _])⟩
theorem Jox {n : Nat} (eg : Enters prog g) (ha : a ≤ 1000000) (rf re rr : Nat) : Jio prog 271 (Jiq rf re rr) [YN rf a] [YN re n, Jip rr g caps] (false, 0, a) (nxP n) (caP g caps) reP Jws (J04 n) := by
  refine qT Tryz.func271 O O fun q xids w2 XI XF hdd hY hC => Kl (gv ?_); refine JQ (σ := Nat × Nat) (fun z => z.1 ≤ 512 ∧ z.2 ≤ 1000000) (fun z => [(0, .func (.yield q) #[] #[]), (1, Kj rf), (2, Kj re), (3, Kj rr), (5, .int .i64 (z.1 : Int))]) (fun z => [YN rf z.2]) (fun z => XI (false, z.1, z.2)) (fun z => 513 - z.1) (0, a) ⟨Z', ha⟩ (lK O) (T') (fun _ _ h => h) ?_; rintro ⟨i, p⟩ ⟨hi, hp⟩; simp only at hi hp; refine gz ?_; refine MS ?_; refine NM ?_; refine NQ ?_; refine cD (fun h4 => ?_) fun h4 => ?_
  · refine Jv 9 O (MS ?_); refine QN (XT := XI (true, i, p)) (XF := XF) O O O O (hY (false, i, p) [.int .i64 (i : Int), .int .i64 (p : Int)] (true, i, p) ⟨rfl, by simp only; omega, rfl, rfl⟩) ?_ ?_
    all_goals first | (rcases Nat.lt_or_ge i 512 with hi5 | hi5; rotate_left; exact Jty hdd ⟨rfl, hi5⟩) | skip
    all_goals (
     refine kW ?_; refine Jl O (fun h8 => ?_) (fun h8 => ?_)
     · try exact Bool.noConfusion h8
       all_goals try simp only [ZZ] at h8
       all_goals (
        refine KF 6 O ?_; exact NJ
        skip)
     · try exact Bool.noConfusion h8
       all_goals try simp only [ZZ] at h8
       all_goals (
        refine gz ?_; refine Gp ?_; refine MS ?_; refine Jtx (re := reP (true, i, p)) (XI := XI) O O O eg (hC (true, i, p) g (.int .i64 (p : Int) :: caps) ⟨rfl, rfl, rfl⟩) fun v z hz => ?_
        obtain ⟨p2, hp2, rfl, rfl⟩ := hz
        refine Nx ?_; refine Dr ?_; exact JL (i + 1, p2) ⟨by simp only; omega, hp2⟩ mj (lK rfl) (T') (fun _ _ h => h)
        skip)
     skip)
  · refine KF 4 O (Gy fun w1 hs1 => ?_)
    obtain ⟨xs1, hx1⟩ := hs1.now
    exact ⟨⟨_, rfl⟩, hs1.keep, .inl ⟨(false, i, p), _, ⟨rfl, mj⟩, hx1⟩⟩
end Go.Proofs.YtckoepmdmhdepaaGreatDoor
namespace Go.SL
set_option linter.all false
open Go Go.RowKit Go.Shelf
open Go.Proofs (Enters enters_of)
variable {a : Act} {af : Array Edge} {ops : Array Oper} {args : Array Operand} {at_ : Array TypeId} {c : Cx} {R : Ending → World → Prop} {Q : Exit → Act → World → Prop} {g : FuncId} {L L0 Rl : J3} {T : J3 → Array Bool → Act → Prop} {d : List Deferred} {rest : List Oper} {caps vs : List Value} {i q : Nat} {o : Oper} {f x : Operand} {gd : Option (Nat × Bool)} {P : Program} {ps : String} {α : Type} {e t ty : TypeId} {v : Value} {w w' : World} {X : XP} {LL : α → J3} {V : α → Value}
section
variable {c : Cx} {l : KY} {L : J3} {X : XP} {Q : Exit → Act → World → Prop} {d : List Deferred}
variable {ops : Array Oper} {rest : List Oper} {i : Nat} {v : Value} {t : TypeId} {ps : String} {af : Array Edge} {gd : Option (Nat × Bool)} {ty : TypeId}
def Yo (l : KY) (f : Operand) (args : Array Operand) : Option (FuncId × List Value) :=
 match KU l f with
 | some (.func (.func g) first caps) => match evs l args.toList with
  | some vs => some (g, first.toList ++ (vs ++ caps.toList))
  | none => none
 | _ => none
theorem ZP {n : Nat} (hf : Fr n d l a) (h : Yo l f args = some (g, vs))
  (P : Program) (w : World) (o : Oper) (ho : o.op = .call ⟨.value f, args, at_⟩) (eg : Enters P g) : (execOp a.eval o).run P w = .ok (.enter g vs.toArray) w := by
 unfold Yo at h
 split at h
 ·rename_i g' first caps hfv
  split at h
  ·rename_i us hargs
   simp only [Option.some.injEq, Prod.mk.injEq] at h
   obtain ⟨rfl, rfl⟩ := h
   have h2 := hf.evals hargs
   have h3 : args.map a.eval = us.toArray := by
    apply Array.toList_inj.1; rw [Array.toList_map]; simpa using h2
   have h4 : a.eval f = .func (.func g') first caps := hf.eval hfv
   simp only [execOp, ho, Sem.run_bind]
   have h5 : first ++ us.toArray ++ caps = (first.toList ++ (us ++ caps.toList)).toArray := by apply Array.toList_inj.1; simp
   have h6 := eg (first ++ us.toArray ++ caps) w
   rw [← h5]
   simpa [resolve, h3, h4, Deferred.ofValue, Result.andThen, invoke] using h6
  ·cases h
 ·cases h
theorem QW  {T : J3}
  (hp : L.Perm (T ++ L0)) (hg : KW l ops ⟨some i, .call ⟨.value f, args, at_⟩, ty, ps, af, gd⟩ = some true) (hi : Nat.ble (i + 1) c.n = true) (hca : Yo l f args = some (g, vs)) (eg : Enters c.P g)
  (hpt : PureT c.P g vs.toArray V T LL Rl) (hR : ∀ p ∈ Rl, known c L0 p.1 p.2) (h : ∀ x, HL c d ((i, V x) :: l) (LL x ++ L0) X ops rest Q) : HL c d l L X ops (⟨some i, .call ⟨.value f, args, at_⟩, ty, ps, af, gd⟩ :: rest) Q := fun a w hf hs => by
 have hr : ∀ w, St c L X w → Calls c.P g vs.toArray w fun e w' => ∃ x, e = .returned (V x) ∧ St c (LL x ++ L0) X w' := fun w hs => by
  have hs := hs.perm hp
  obtain ⟨hd1, _, hd3⟩ := List.pairwise_append.1 hs.distinct
  refine (hpt.run w (fun p hp => (hs.own p (W' hp)).2.2) (fun p hp => ?_) hd1 (fun p hp q hq => ?_)).mono fun _ _ ⟨x, he, hk, h1, h2⟩ => ⟨x, he, hs.turnT hk h1 h2⟩
  ·exact (hR p hp).elim (fun h => (hs.own _ (Y' h)).2.2) hs.readR
  ·rcases hR p hp with h | h
   ·exact fun e => hd3 q hq _ h e.symm
   ·rintro e
    obtain ⟨h1, _, h3⟩ := hs.ext _ h
    have h3 := JM h3
    rcases (hs.own q (W' hq)).1 with h4 | h4
    ·exact h1 (e ▸ h4)
    ·simp only at h3 e; omega
 refine QX (Kh hf hg) O ?_; rw [ZP hf hca c.P w _ rfl eg, Oper.uponIn_enter]; refine ⟨fun hdep => nW, ?_⟩
 have hc := callsIn_wide (n := 0) |>.2 (hr w hs)
 refine CallsIn.mono (R := fun e w' => ∃ x, e = .returned (V x) ∧ St c (LL x ++ L0) X w') mT ?_; rintro e w' ⟨x, rfl, hs'⟩; exact h x _ w' (hf.put (H' hi)) hs'
end
end Go.SL
namespace Go.Proofs.YtckoepmdmhdepaaGreatDoor
open Go.SL Go.RowKit Go.Shelf
open Go.Proofs (Enters enters_of)
variable {s : BS} {fn : Func} {g : FuncId} {e : Int} {Z : Int × List It} {x y : ItL} {F R Rl : J3} {its ys : List ItL} {cs vs : List Value} {α : Type} {a cap f i q r sz : Nat} {rd : Nat → Int × It × Nat} {go : Obj} {P : Program} {row : QZ} {c : UInt8} {w : World}
def rdB (q de : Nat) (e : Int) : Nat × Obj := (q, .cells #[.int .i64 (de : Int), .int .i64 e] 202 (0, 0))
structure ItD (z : Int × It × Nat) where
  x : ItL
  L : J3
  dest : Nat
  e : Int
  inn : x.In L
  he : e = z.1
  ok : e = 0 → x.er = z.2.1 ∧ dest = z.2.2
  le : dest ≤ 1000000
def zZ (f : Nat) : Prop := ∀ (de : Nat) (s : BS) (a q : Nat), de + f = 12 → s.length ≤ 65536 → a ≤ s.length →
 PureT (α := ItD (Qf f s a)) prog 112 [Kj q, Jk s, .int .i64 (a : Int)].toArray (fun y => .tuple #[y.x.val, .int .i64 (y.dest : Int)]) [rdB q de 0] (fun y => rdB q de y.e :: y.L) []
def fnB (r q : Nat) : Nat × Obj := (r, .cells #[.func (.func 112) #[Kj q] #[]] 204 (0, 0))
def stB (r : Nat) (s : BS) : Nat × Obj := (r, .cells #[Jk s] 9 (0, 0))
def itC (n : Nat) (row : QZ) : Array Value := #[.bool true, Jk [], JV n row]
def itB (r n : Nat) (row : QZ) : Nat × Obj := (r, .cells (itC n row) 91 (0, 0))
structure ReD (z : Int × It × Nat) (its : List ItL) where
  x : ItL
  row : QZ
  F : J3
  dest : Nat
  e : Int
  inn : ∀ y ∈ its ++ [x], y.In F
  he : e = z.1
  ok : e = 0 → x.er = z.2.1 ∧ dest = z.2.2
  le : dest ≤ 1000000
  ro : rowOk 3 (its.length + 1) (Kq (its ++ [x])) row
theorem Jtz [DecidableEq α] (ra a b c d : α) (Z : List α) : (ra :: a :: b :: c :: d :: Z).Perm (c :: d :: ra :: (Z ++ [a, b])) := by
 exact DL
theorem Jt0 [DecidableEq α] (a d : α) (Y P F : List α) : (a :: (Y ++ (d :: (P ++ F)))).Perm (a :: d :: (P ++ (Y ++ F))) := by
 exact EL
open Classical in
theorem Jyi {de p n r8 r4 r7 : Nat} (hT : zZ f) (hd : de + f = 12) (hsl : s.length ≤ 65536) (hp : p ≤ s.length) (hn : its.length = n) (hn5 : n ≤ 512) (hrow : rowOk 3 n (Kq its) row) (hF : ∀ x ∈ its, x.In F) :
  PureT (α := ReD (Qf f s p) its) prog 240 [.int .i64 (p : Int), Kj r8, Kj r4, Kj r7].toArray (fun y => .int .i64 (y.dest : Int)) (rdB q de 0 :: itB r7 n row :: (J9 91 (Kq its) row ++ F)) (fun y => rdB q de y.e :: itB r7 (n + 1) y.row :: (J9 91 (Kq (its ++ [y.x])) y.row ++ y.F)) [fnB r8 q, stB r4 s] := by
 refine Jq Tryz.func240 O O fun w => Kl (DE ?_); refine NM ?_; refine Gp ?_; refine JI O (QW (T := [rdB q de 0]) (L0 := itB r7 n row :: (J9 91 (Kq its) row ++ F)) (Rl := []) (O') O O O (enters_of Tryz.func112 m4 O) (hT de s p q hd hsl hp) oN fun y => ?_)
 obtain ⟨x, yL, dest, ye, yin, yhe, yok, yle⟩ := y
 refine JY (Jt0 _ _ _ _ _) ?_; change HL _ _ _ ((q, .cells #[.int .i64 (de : Int), .int .i64 ye] 202 (0, 0)) :: (r7, .cells #[.bool true, Jk [], JV n row] 91 (0, 0)) :: (J9 91 (Kq its) row ++ (yL ++ F))) _ _ _ _; refine MR ?_; refine LN O fun rx => Je (k := 0) (n := 3) (ys := x.cells) O O O O O (ItL.len _) O (ItL.one _) O (G5 ?_)
 refine Jnf [] [(0, .pure), (3, .pure), (4, .grow (Wg (slV 1) (.cells #[.bool false, .string ⟨#[]⟩, .slice none 0 0] 91 (0, 0))))] 5 [0, 1, 2, 3, 4] m4 m4 mb ?_
 refine gM ?_; refine Xk (k := 1) O O O O O (Jc O (kn 2 O) O O) (Xk (k := 2) O O O O O (Ji (xs := x.cells) (n := 3) O (kn 0 O) O O (ItL.len _)) (Jr (k := 3) O O O O O (fun _ _ => jw O hrow.zero O) (VV (k := 4) (n := 1) (sz := 3) (vs := [_]) (zs := [_, _, _]) (r := [_, _, _]) O O O O O O O O O O O n5 O fun rz => Js5 (V8 (g := 4) (is := [5]) m4 O (.cons ?n2_5 .nil)))))
 case' n2_5 =>
  refine Ws O O (Kw (L0 := (rz, _) :: (rx, _) :: (q, _) :: (r7, _) :: (yL ++ F)) (xs := Kq its) (row := row) (n := n) (sz := 3) (b := 48) (news := [.bool false, .string ⟨#[]⟩, .slice none 0 0]) (List.perm_append_comm_assoc [_, _, _, _] _ _) O O O O (kn 0 O) O O O O O m7 O O O m7 hrow m3 m3 fun ra cap sp hra => Y9 (V8 (g := 3) (is := [6, 8]) m4 O (.cons ?n2_5_6 (.cons ?n2_5_8 .nil))))
  case' n2_5_6 =>
   refine H5 ?_; refine V8 (g := 2) (is := [7, 8]) m4 O (.cons ?n2_5_6_7 (.cons ?n2_5_6_8 .nil))
   case' n2_5_6_7 =>
    refine Nj ?_; refine V8 (g := 1) (is := [8]) m4 O (.cons ?n2_5_6_7_8 .nil)
    case' n2_5_6_7_8 =>
     refine Ws O O ?_
     refine MP ?_; refine Y9 (V8 (g := 0) (is := [9]) m4 O (.cons ?n2_5_6_7_8_9 .nil))
     case' n2_5_6_7_8_9 =>
      refine NN ?_
   case' n2_5_6_8 =>
    refine Ws O O ?_
    refine MP ?_; refine Y9 (V8 (g := 1) (is := [7, 9]) m4 O (.cons ?n2_5_6_8_7 (.cons ?n2_5_6_8_9 .nil)))
    case' n2_5_6_8_7 =>
     refine Nj ?_; refine V8 (g := 0) (is := [9]) m4 O (.cons ?n2_5_6_8_7_9 .nil)
     case' n2_5_6_8_7_9 =>
      refine NN ?_
    case' n2_5_6_8_9 =>
     refine NN ?_; refine V8 (g := 0) (is := [7]) m4 O (.cons ?n2_5_6_8_9_7 .nil)
     case' n2_5_6_8_9_7 =>
      refine Nj ?_
  case' n2_5_8 =>
   refine Ws O O ?_
   refine MP ?_; refine Y9 (V8 (g := 2) (is := [6, 9]) m4 O (.cons ?n2_5_8_6 (.cons ?n2_5_8_9 .nil)))
   case' n2_5_8_6 =>
    refine H5 ?_; refine V8 (g := 1) (is := [7, 9]) m4 O (.cons ?n2_5_8_6_7 (.cons ?n2_5_8_6_9 .nil))
    case' n2_5_8_6_7 =>
     refine Nj ?_; refine V8 (g := 0) (is := [9]) m4 O (.cons ?n2_5_8_6_7_9 .nil)
     case' n2_5_8_6_7_9 =>
      refine NN ?_
    case' n2_5_8_6_9 =>
     refine NN ?_; refine V8 (g := 0) (is := [7]) m4 O (.cons ?n2_5_8_6_9_7 .nil)
     case' n2_5_8_6_9_7 =>
      refine Nj ?_
   case' n2_5_8_9 =>
    refine NN ?_; refine V8 (g := 1) (is := [6]) m4 O (.cons ?n2_5_8_9_6 .nil)
    case' n2_5_8_9_6 =>
     refine H5 ?_; refine V8 (g := 0) (is := [7]) m4 O (.cons ?n2_5_8_9_6_7 .nil)
     case' n2_5_8_9_6_7 =>
      refine Nj ?_
 all_goals refine Jx0 m4 ?_
 all_goals (
  refine vf 8 O (N3 fun w1 hs1 => ?_)
  have hcat : Kq its ++ x.cells = Kq (its ++ [x]) := by rw [Jtw]; simp [Kq]
  rw [hcat] at hs1
  exact ⟨⟨x, some (ra, cap, sp), yL ++ F, dest, ye, fun z hz => by
   rcases G'.1 hz with hz | hz
   exact (hF z hz).mono fun q hq => Y' hq
   rw [U'.1 hz]; exact yin.mono fun q hq => W' hq, yhe, yok, yle, (by rw [hn]; exact hra.same (by rw [← hcat, C', C', ItL.len]; rfl))⟩, rfl, (hs1.perm (Jtz _ _ _ _ _ _)).weakL (.cons_cons _ (.cons_cons _ (.cons_cons _ (List.sublist_append_left _ _))))⟩
  skip)
set_option linter.all false
def ptB (r q : Nat) : Nat × Obj := (r, .cells #[Kj q] 200 (0, 0))
theorem J2q (r3 q de : Nat) (e : Int) (w : World) (hde : de ≤ 1000) (hT : jn [rdB q (de + 1) e] w) (hR : jn [ptB r3 q] w) (hne : r3 ≠ q) : CallsDIn (FW none) 0 prog 239 [Kj r3].toArray .returning w (fun e' u' w' => (∃ x, e' = .returned x) ∧ settle u' = .returning ∧ Keep [q] w w' ∧ jn [rdB q de e] w') := by
 refine Wr (yz prog w [rdB q (de + 1) e] [ptB r3 q] Tryz.f239.ntmps) Tryz.func239 O O O O (L := [rdB q (de + 1) e]) (X := fun _ _ => True) (St.startT hT hR (List.pairwise_singleton _ _) (fun p hp z hz => by rw [U'.1 hp, U'.1 hz]; exact hne)) fun c₀ cs hu => wD O ?_
 have hc0 : c₀ :: cs = { c₀ with mode := .returning } :: cs := by cases c₀; simp only at hu; rw [hu]
 refine Zp (LR O (Jc O (Kn (k := 0) O) O O) (KC O ?_))
 refine N5 ?_
 refine GV ?_; refine J4 (show _ = Value.int .i64 (de : Int) from by rw [wrap_i64 m3 m3]; congr 1 <;> omega) ?_; refine Ho ?_; refine Jm (k := 0) (cs' := #[.int .i64 (de : Int), .int .i64 e]) O O O O O O O O O O ?_; refine W9 ?_; refine Yg (u' := .returning) O hc0 O .nil (fun w1 hs1 => ?_); exact ⟨⟨_, rfl⟩, rfl, by have := hs1.keep; simpa [yz, rdB] using this, fun p hp => (hs1.own p hp).2.2⟩
section
variable {c : Cx} {l : KY} {L L' : J3} {X : XP} {d : List Deferred} {fn : Func} {R : Ending → World → Prop}
theorem J07 {r3 de k m : Nat} (hP : c.P = prog) (hde : de ≤ 1000) (hk : L[k]? = some (rdB q (de + 1) e)) (hL : L.set k (rdB q de e) = L') (hm : L[m]? = some (ptB r3 q)) (hkm : k ≠ m) (h : HQ c d l L' X (bodyPostM (FW none) 0 prog fn R .ret)) :
  HQ c (dF 239 [Kj r3] :: d) l L X (bodyPostM (FW none) 0 prog fn R .ret) :=
 Jfr (enters_of Tryz.func239 m4 rfl) (fun w hs => CallsDIn.mono (J2q r3 q de e w hde (fun p hp => by rw [U'.1 hp]; exact hs.get hk) (fun p hp => by rw [U'.1 hp]; exact hs.get hm) (Y0 hs.distinct hm hk (Ne.symm hkm))) fun _ _ _ ⟨h1, h2, h3, h4⟩ => ⟨h1, h2, hL ▸ hs.set hk h3 (h4 _ N')⟩) h
end
theorem Jyj (ha : a < s.length) (h : (ZO s a (s.getD a 0).toNat).1 = 0) : (ZO s a (s.getD a 0).toNat).2.1 ≤ s.length ∧ a + 1 ≤ (ZO s a (s.getD a 0).toNat).2.1 := by
 unfold ZO at h ⊢
 by_cases h1 : ((s.getD a 0).toNat - 128) % 64 ≥ 56
 ·rw [if_pos h1] at h ⊢
  exact ⟨(vF ha h).1, (vF ha h).2.1⟩
 ·rw [if_neg h1] at h ⊢
  exact ⟨ha, Lc'⟩
theorem Zm (h : (lookE s a).1 = 0) : a < s.length ∧ a + 1 ≤ (lookE s a).2.1 + (lookE s a).2.2.1 ∧ (lookE s a).2.1 + (lookE s a).2.2.1 ≤ s.length := by
 unfold lookE at h ⊢
 by_cases h1 : s.length ≤ a
 ·rw [if_pos h1] at h; cases h
 rw [if_neg h1] at h ⊢
 by_cases h2 : (s.getD a 0).toNat < 128
 ·rw [if_pos h2] at h ⊢; simp only; omega
 rw [if_neg h2] at h ⊢
 by_cases h3 : (ZO s a (s.getD a 0).toNat).1 ≠ 0
 ·rw [if_pos h3] at h; exact absurd h h3
 rw [if_neg h3] at h ⊢
 by_cases h4 : (ZO s a (s.getD a 0).toNat).2.2 > s.length - (ZO s a (s.getD a 0).toNat).2.1
 ·rw [if_pos h4] at h; cases h
 rw [if_neg h4] at h ⊢
 by_cases h5 : (s.getD a 0).toNat = 129 ∧ (s.getD (a + 1) 0).toNat < 128
 ·rw [if_pos h5] at h; cases h
 rw [if_neg h5] at h ⊢
 have := Jyj (s := s) (a := a) m3 m3
 simp only; omega
theorem Jt1 : ∀ {f : Nat} {s : BS} {a : Nat}, (Qf f s a).1 = 0 → a < (Qf f s a).2.2 ∧ (Qf f s a).2.2 ≤ s.length
 | 0, s, a, h => by
  unfold Qf at h ⊢
  by_cases h1 : a < s.length ∧ 192 ≤ (s.getD a 0).toNat
  ·rw [if_pos h1] at h; cases h
  rw [if_neg h1] at h ⊢
  by_cases h2 : (lookE s a).1 ≠ 0
  ·rw [if_pos h2] at h; exact absurd h h2
  rw [if_neg h2]
  have := Zm (s := s) (a := a) m3
  simp only; omega
 | f + 1, s, a, h => by
  unfold Qf at h ⊢
  by_cases h2 : (lookE s a).1 ≠ 0
  ·rw [if_pos h2] at h; exact absurd h h2
  rw [if_neg h2]
  have := Zm (s := s) (a := a) m3
  split <;> simp only <;> omega
abbrev ItS := Int × QZ × List ItL × J3
structure InvI (Z : Int × List It) (rd : Nat → Int × It × Nat) (len : Nat) (z : Bool × Nat × Nat) (s : ItS) : Prop where
  n : s.2.2.1.length = z.2.1
  row : rowOk 3 s.2.2.1.length (Kq s.2.2.1) s.2.1
  inn : ∀ x ∈ s.2.2.1, x.In s.2.2.2
  le : z.2.1 ≤ 512
  go : s.1 = 0 → z.2.2 ≤ len ∧ ∃ g, len < z.2.2 + g ∧ XA rd len g z.2.1 (s.2.2.1.map ItL.er) z.2.2 = Z
  st : s.1 ≠ 0 → s.1 = Z.1
  ph : z.1 = true → z.2.1 < 512 ∧ s.1 = 0 ∧ z.2.2 < len
theorem InvI.fin {len : Nat} {z : Bool × Nat × Nat} {s : ItS} (h : InvI Z rd len z s) (hz : len ≤ z.2.2) : s.1 = Z.1 ∧ (s.1 = 0 → s.2.2.1.map ItL.er = Z.2) := by
 by_cases h0 : s.1 = 0
 ·obtain ⟨h1, g, h2, h3⟩ := h.go h0
  cases g with
  | zero => omega
  | succ g =>
   rw [XA, if_neg m3] at h3; subst h3; exact ⟨h0, fun _ => rfl⟩
 ·exact ⟨h.st h0, fun h1 => absurd h1 h0⟩
theorem InvI.many {len : Nat} {z : Bool × Nat × Nat} {s : ItS} (h : InvI Z rd len z s) (h0 : s.1 = 0) (hz : z.2.2 < len) (hn : 512 ≤ z.2.1) : (5 : Int) = Z.1 := by
 obtain ⟨h1, g, h2, h3⟩ := h.go h0
 cases g with
 | zero => omega
 | succ g =>
  rw [XA, if_pos hz, if_pos hn] at h3; rw [← h3]
theorem InvI.next  {p : Nat} (h : InvI Z (Qf f s) s.length (true, i, p) (0, row, its, F)) (y : ReD (Qf f s p) its) :
  InvI Z (Qf f s) s.length (false, i + 1, y.dest) (y.e, y.row, its ++ [y.x], y.F) := by
 obtain ⟨h1, _, h3⟩ := h.ph rfl
 obtain ⟨h4, g, h5, h6⟩ := h.go rfl
 have hn := h.n
 simp only at h1 h3 h4 h5 h6 hn
 have hlen : (its ++ [y.x]).length = its.length + 1 := by simp
 cases g with
 | zero => omega
 | succ g =>
 rw [XA, if_pos h3, if_neg m3] at h6; refine ⟨by simp only [hlen]; omega, by simp only [hlen]; exact y.ro, y.inn, by simp only; omega, fun he => ?_, fun he => ?_, fun hb => by cases hb⟩
 ·simp only at he
  obtain ⟨e1, e2⟩ := y.ok he
  have e3 := y.he.symm.trans he
  obtain ⟨e4, e5⟩ := Jt1 e3
  rw [if_neg (by rw [e3]; simp)] at h6; refine ⟨by simp only [e2]; exact e5, g, by simp only [e2]; omega, ?_⟩; simp only [List.map_append, List.map_cons, List.map_nil, e1, e2]; exact h6
 ·simp only at he ⊢
  rw [if_pos (by rw [← y.he]; exact he)] at h6; rw [← h6, y.he]
def J08 (Z : Int × List It) (c : Code) (s : ItS) : Prop := c = .exit 0 ∧ s.1 ≠ 0 ∧ s.1 = Z.1 ∧ s.2.2.1.length ≤ 512 ∧ rowOk 3 s.2.2.1.length (Kq s.2.2.1) s.2.1 ∧ ∀ x ∈ s.2.2.1, x.In s.2.2.2
structure ItsD (z : Int × List It) where
  x : ItL
  L : J3
  e : Int
  inn : x.In L
  he : e = z.1
  ok : e = 0 → x.er = .mk true [] z.2
end Go.Proofs.YtckoepmdmhdepaaGreatDoor
