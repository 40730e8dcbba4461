import Derived.Test.YtckoepmdmhdepaaGreatDoorZtStablec
import Derived.Test.YtckoepmdmhdepaaGreatDoorProg
open Go.Proofs.Tryz (prog)
set_option maxRecDepth 100000
namespace Go.Proofs.YtckoepmdmhdepaaGreatDoor
set_option linter.all false
open Go.SL Go.RowKit Go.Shelf
open Go.Proofs (Enters enters_of)
variable {af : Array Edge} {pr : AxL → Bool} {id s : BS} {own v : Bool} {fn : Func} {g : FuncId} {e hi lo : Int} {Z : Int × List It} {it : It} {x y : ItL} {F R R' Rl : J3} {acc : List AxE} {its ys : List ItL} {caps cs vs : List Value} {α : Type} {post : List α} {a by_ cap f i q r r1 r2 r5 sz u : Nat} {gd : Option (Nat × Bool)} {dst : Option Nat} {P : Program} {row : QZ} {ps : String} {t : TxL} {ty : TypeId} {c : UInt8} {w : World} {LL : α → J3}
theorem Jt2 {de p : Nat} (hT : zZ f) (hd : de + 1 + f = 12) (hsl : s.length ≤ 65536) (hp : p ≤ s.length) :
    PureT (α := ItsD (XA (Qf f s) s.length (s.length - p + 1) 0 [] p)) prog 202 [Kj q, Jk s, .int .i64 (p : Int)].toArray (fun y => y.x.val) [rdB q de 0] (fun y => rdB q de y.e :: y.L) [] := by
  obtain ⟨Z, hZ⟩ : ∃ Z, XA (Qf f s) s.length (s.length - p + 1) 0 [] p = Z := ⟨_, rfl⟩
  rw [hZ]; refine Jq Tryz.func202 O O fun w => MZ ?_; refine JR (cs := List.toArray ([Kj q])) O O O O fun r3 => JR (cs := List.toArray ([Jk s])) O O O O fun r4 => LN O fun r6 => kV ?_; refine NI ?_; refine LN O fun r7 => ?_
  refine N1 ?_; refine kV ?_; refine EU ?_; refine NR ?_; refine LN O fun r8 => ?_
  refine Nx ?_; refine kV ?_; refine LR O (Jc O (kn 4 O) O O) (Ho ?_); refine LR O (Jc O (kn 5 O) O O) ?_
  refine GV ?_; refine J4 (show _ = Value.int .i64 ((de + 1 : Nat) : Int) from by rw [wrap_i64 m3 m3]; congr 1 <;> omega) ?_; refine Ho ?_; refine Jm (k := 5) (cs' := #[.int .i64 ((de + 1 : Nat) : Int), .int .i64 0]) O O O O O O O O O O ?_; refine kV ?_; refine NR ?_; refine Xn (caps := [Kj r3]) O O O ?_ O; refine kV ?_; refine NR ?_; refine g8 ?_; refine EU ?_; refine Nz ?_; refine JI O (KA O O O (enters_of Tryz.func241 m4 O) (Jow (a := p) (n := s.length) (g := 240) (caps := [Kj r8, Kj r4, Kj r7])) oN fun y => ?_)
  obtain ⟨rf, re, rr⟩ := y
  refine NQ ?_; refine Zc [8, 4, 0, 1, 2, 3, 6, 5, 7] m7 O (zY (σ := ItS) (τ := ItS) (T := [YN rf p]) (Rl := [YN re s.length, Jip rr 240 [Kj r8, Kj r4, Kj r7]]) (Rk := [fnB r8 q, stB r4 s]) (p0 := (false, 0, p)) (nx := nxP s.length) (ca := caP 240 [Kj r8, Kj r4, Kj r7]) (re := reP) (dead := Jws) (fi := J04 s.length) (InvI Z (Qf f s) s.length) (fun z : ItS => rdB q (de + 1) z.1 :: itB r7 z.2.2.1.length z.2.1 :: (J9 91 (Kq z.2.2.1) z.2.1 ++ z.2.2.2)) (J08 Z) (fun z : ItS => rdB q (de + 1) z.1 :: itB r7 z.2.2.1.length z.2.1 :: (J9 91 (Kq z.2.2.1) z.2.1 ++ z.2.2.2)) ([YN re s.length, Jip rr 240 [Kj r8, Kj r4, Kj r7]] ++ ([fnB r8 q, stB r4 s] ++ [_, _])) (0, none, [], []) O O (enters_of Tryz.func271 m4 O) (Jox (enters_of Tryz.func240 m4 O) m3 rf re rr) (by rintro _ _ _ ⟨_, _, rfl, _⟩; rfl) rfl (fun z hz => .inl (W' hz)) (fun z hz => .inl (Y' (W' hz))) rfl ⟨rfl, ⟨rfl, rfl⟩, (fun _ h => nomatch h), Z', fun _ => ⟨hp, _, by simp only; omega, hZ⟩, fun h => absurd rfl h, fun h => by cases h⟩ (fun z s9 hd9 hI => by have := (hI.ph hd9.1).1; have := hd9.2; omega) ?hread ?_ ?_ ?_)
  case hread =>
    rintro ⟨ph, i, p1⟩ g vs ⟨e, row, its, F⟩ ⟨hz, rfl, rfl⟩ hI; simp only at hz; subst hz
    obtain ⟨h1, h2, h3⟩ := hI.ph rfl
    simp only at h1 h2 h3; subst h2
    have hn := hI.n
    simp only at hn; exact (Jyi (p := p1) (n := its.length) (q := q) (r8 := r8) (r4 := r4) (r7 := r7) hT hd hsl m3 O m3 hI.row hI.inn).map (fun y => ⟨(.int .i64 (y.dest : Int), (false, i + 1, y.dest), (y.e, y.row, its ++ [y.x], y.F)), ⟨y.dest, y.le, rfl, rfl⟩, hI.next y⟩) (fun _ => rfl) (fun y => by simp only [C', List.length_singleton]; exact T')
  · rintro q9 Xr Xb w3 ⟨ph, i, p1⟩ _ _ ⟨e, row, its, F⟩ ⟨hz, hzp, rfl, rfl⟩ hI Kr hKr; refine inR ?_
    simp only at hz hzp hKr ⊢; subst hz
    have hn := hI.n
    have hle := hI.le
    simp only at hn hle; refine KF 3 O (EW ?_); clear hKr; refine gw ?_; refine Fg ?_
    refine N5 ?_; refine gu ?_
    refine J8 35 O (fun gb => ?_) (fun gb => ?_) <;> (try simp only [ZZ] at gb) <;> first | (refine JI O ?_) | (refine LK O ?_)
    all_goals refine MQ ?_
    all_goals (
     refine kN ?_; refine Jl O (fun h13 => ?_) (fun h13 => ?_)
     · try exact Bool.noConfusion h13
       all_goals try simp only [ZZ] at h13
       all_goals (
        refine HI ?_; refine Fg ?_
        refine MP ?_; refine Jm (k := 0) (cs' := #[.int .i64 ((de + 1 : Nat) : Int), .int .i64 5]) O O O O O O O O O O (kV ?_); refine Fg ?_
        refine Gt ?_; refine Jl O (fun h15 => ?_) (fun h15 => ?_)
        try simp only [ZZ] at h15
        refine KF 2 O ?_; exact yZ (5, row, its, F) ⟨rfl, (show (5 : Int) ≠ 0 by decide), hI.many (show e = 0 by assumption) hzp (show 512 ≤ i by omega), (show its.length ≤ 512 by omega), hI.row, hI.inn⟩ rfl
        try exact Bool.noConfusion h15
        skip)
     try simp only [ZZ] at h13
     refine gw ?_; refine Fg ?_
     refine Gt ?_; refine cD (fun h17 => ?_) fun h17 => ?_
     refine KF 2 O ?_
     first | (exfalso; omega) | exact yZ (e, row, its, F) ⟨rfl, (show ¬ e = 0 by assumption), hI.st (show ¬ e = 0 by assumption), (show its.length ≤ 512 by omega), hI.row, hI.inn⟩ rfl
     refine KF 2 O ?_
     first | (exfalso; omega) | exact Xg (e, row, its, F) ⟨hI.n, hI.row, hI.inn, hI.le, hI.go, hI.st, fun _ => ⟨show i < 512 by omega, show e = 0 by assumption, hzp⟩⟩ rfl
     skip)
  · rintro D ⟨ph, i, p1⟩ ⟨e, row, its, F⟩ ⟨hz, hfi⟩ hI
    simp only at hz hfi ⊢; subst hz
    obtain ⟨hf1, hf2⟩ := hI.fin hfi
    have hrow := hI.row
    have hF := hI.inn
    have hle := hI.le
    have hn := hI.n
    simp only at hf1 hf2 hrow hF hle hn; refine X6 (((List.perm_append_comm.cons _).cons _).cons _) ?_; change HQ _ _ _ ((D, _) :: (q, .cells #[.int .i64 ((de + 1 : Nat) : Int), .int .i64 e] 202 (0, 0)) :: (r7, .cells #[.bool true, Jk [], JV its.length row] 91 (0, 0)) :: (re, _) :: (rr, _) :: (r8, _) :: (r4, _) :: (r6, .cells #[.bool false, Jk [], .slice none 0 0] 91 (0, 0)) :: ptB r3 q :: (J9 91 (Kq its) row ++ F)) _ _; refine V0 3 O ?_
    have honeV : ([.bool true, Jk [], JV its.length row] : List Value).all VU = true := by cases row <;> rfl
    refine HI ?_; exact Nn
  · rintro D _ ⟨e, row, its, F⟩ ⟨rfl, hs0, hf1, hle, hrow, hF⟩
    simp only at hs0 hf1 hle hrow hF ⊢
    have hf2 : e = 0 → its.map ItL.er = Z.2 := fun h => absurd h hs0
    refine jD (((List.perm_append_comm.cons _).cons _).cons _) ?_; change HC _ _ _ ((D, _) :: (q, .cells #[.int .i64 ((de + 1 : Nat) : Int), .int .i64 e] 202 (0, 0)) :: (r7, .cells #[.bool true, Jk [], JV its.length row] 91 (0, 0)) :: (re, _) :: (rr, _) :: (r8, _) :: (r4, _) :: (r6, .cells #[.bool false, Jk [], .slice none 0 0] 91 (0, 0)) :: ptB r3 q :: (J9 91 (Kq its) row ++ F)) _ _ _; refine Ku 4 O ?_
    have honeV : ([.bool true, Jk [], JV its.length row] : List Value).all VU = true := by cases row <;> rfl
    refine HI ?_; exact Nn
theorem Jf3 (h : (lookE s a).2.2.2 = true) : a < s.length ∧ 192 ≤ (s.getD a 0).toNat := by
 unfold lookE at h
 by_cases h1 : s.length ≤ a
 ·rw [if_pos h1] at h; cases h
 rw [if_neg h1] at h
 by_cases h2 : (s.getD a 0).toNat < 128
 ·rw [if_pos h2] at h; cases h
 rw [if_neg h2] at h
 by_cases h3 : (ZO s a (s.getD a 0).toNat).1 ≠ 0
 ·rw [if_pos h3] at h; cases h
 rw [if_neg h3] at h
 by_cases h4 : (ZO s a (s.getD a 0).toNat).2.2 > s.length - (ZO s a (s.getD a 0).toNat).2.1
 ·rw [if_pos h4] at h; cases h
 rw [if_neg h4] at h
 by_cases h5 : (s.getD a 0).toNat = 129 ∧ (s.getD (a + 1) 0).toNat < 128
 ·rw [if_pos h5] at h; cases h
 rw [if_neg h5] at h; simp only [decide_eq_true_eq] at h; exact ⟨by omega, h⟩
theorem Jt3 : zZ 0 := by
  intro de s a q hd hsl ha
  have hde : de = 12 := by omega
  refine Jq Tryz.func112 O O fun w => MZ ?_; refine LN O fun r6 => J5 8 O (H1 ?_)
  refine J8 15 O (fun gb => ?_) (fun gb => ?_) <;> (try simp only [ZZ] at gb) <;> first | (refine JI O ?_) | (refine LK O ?_)
  all_goals refine ES ?_
  all_goals first | refine LK O ?_ | (refine J8 21 O (fun gb => ?_) (fun gb => ?_) <;> (try simp only [ZZ] at gb) <;> first | (refine JI O ?_) | (refine LK O ?_))
  all_goals first | refine KC O ?_ | refine LK O ?_
  all_goals refine G9 ?_
  all_goals refine Nb ?_
  all_goals refine MQ ?_
  all_goals (
   refine kN ?_; refine Jl O (fun g => ?_) (fun g => ?_)
   · try exact Bool.noConfusion g
     all_goals try simp only [ZZ] at g
     all_goals (
      refine Di ?_; refine Jm (k := 1) (cs' := #[.int .i64 (de : Int), .int .i64 7]) O O O O O O O O O O (kV ?_); refine NI ?_; refine gl ?_
      refine N1 ?_; refine G4 ?_; refine kJ fun w1 hs1 => ?_; exact ⟨⟨Kv [], [], a, 7, Q8 mf, by unfold Qf; rw [if_pos m3], fun h => absurd h m7, by omega⟩, rfl, (hs1.weakL (.cons _ (T')))⟩
      skip)
   · try simp only [ZZ] at g
     refine Hq ?_; refine JC O O O Jh6 (Jap m3 ha) (Eu fun r8 => ?_)
     refine N1 ?_; refine E8 ?_; refine cD (fun g => ?_) fun g => ?_
     refine gx ?_
     refine MP ?_; refine FA ?_; refine kq fun w1 hs1 => ?_; exact ⟨⟨Kv [], [], a, (lookE s a).1, Q8 mf, by unfold Qf; rw [if_neg m3, if_pos ma], fun h => absurd h ma, by omega⟩, rfl, (hs1.weakL (.cons _ (.cons _ (T'))))⟩
     · refine D5 ?_
       have hok := Zm (s := s) (a := a) ma
       have hl0 : (lookE s a).2.2.2 = false := by
         cases h : (lookE s a).2.2.2 with
         | false => rfl
         | true => have := Jf3 h; omega
       refine HI ?_
       refine N5 ?_
       refine N5 ?_
       refine GV ?_; refine J4 na (gp ?_)
       refine Gt ?_; refine Jl O (fun h25 => ?_) (fun h25 => ?_)
       try simp only [ZZ] at h25
       refine gL ?_; refine kq fun w1 hs1 => ?_; exact ⟨⟨Kv ((s.take ((lookE s a).2.1 + (lookE s a).2.2.1)).drop (lookE s a).2.1), [], ((lookE s a).2.1 + (lookE s a).2.2.1), 0, Q8 mL, by unfold Qf; rw [if_neg m3, if_neg m3], fun _ => by unfold Qf; rw [if_neg m3, if_neg m3]; exact ⟨Wu _, rfl⟩, by omega⟩, rfl, (hs1.weakL (.cons _ (.cons _ (T'))))⟩
       exact absurd h25 ((by rw [hl0]; decide))
   skip)
theorem Jky {p n : Nat} (h : p + n ≤ s.length) : XA (Qf f (s.take (p + n))) (s.take (p + n)).length ((s.take (p + n)).length - p + 1) 0 [] p = XA (Qf f (s.take (p + n))) (p + n) (n + 1) 0 [] p := by
 have h1 : (s.take (p + n)).length = p + n := by rw [List.length_take]; omega
 rw [h1, show p + n - p + 1 = n + 1 from by omega]
theorem Jt4 (ih : zZ f) : zZ (f + 1) := by
  intro de s a q hd hsl ha; refine Jq Tryz.func112 O O fun w => MZ ?_; refine LN O fun r6 => J5 8 O (H1 ?_)
  refine J8 15 O (fun gb => ?_) (fun gb => ?_) <;> (try simp only [ZZ] at gb) <;> first | (refine JI O ?_) | (refine LK O ?_)
  all_goals refine ES ?_
  all_goals first | refine LK O ?_ | (refine J8 21 O (fun gb => ?_) (fun gb => ?_) <;> (try simp only [ZZ] at gb) <;> first | (refine JI O ?_) | (refine LK O ?_))
  all_goals first | refine KC O ?_ | refine LK O ?_
  all_goals refine G9 ?_
  all_goals refine Nb ?_
  all_goals refine MQ ?_
  all_goals (
   refine kN ?_; refine Jl O (fun g => ?_) (fun g => ?_)
   · try exact Bool.noConfusion g
     all_goals try simp only [ZZ] at g
     all_goals (
      refine Di ?_
      exfalso; omega
      skip)
   · try simp only [ZZ] at g
     refine Hq ?_; refine JC O O O Jh6 (Jap m3 ha) (Eu fun r8 => ?_)
     refine N1 ?_; refine E8 ?_; refine cD (fun g => ?_) fun g => ?_
     refine gx ?_
     refine MP ?_; refine FA ?_
     first
       | (refine Jh O O (.cons (Jj (vs := [_, _, _]) O (kn 0 O) O O) (.cons (Jg O) .nil)) (fun w1 hs1 => ?_)
          first | exact ⟨⟨Kv [], [], a, (lookE s a).1, Q8 mf, by unfold Qf; rw [if_pos ma], fun h => absurd h ma, by omega⟩, rfl, (hs1.weakL (.cons _ (.cons _ (T'))))⟩ | exact ⟨⟨Kv ((s.take ((lookE s a).2.1 + (lookE s a).2.2.1)).drop (lookE s a).2.1), [], ((lookE s a).2.1 + (lookE s a).2.2.1), 0, Q8 mL, by unfold Qf; rw [if_neg m3, if_neg mq], fun _ => by unfold Qf; rw [if_neg m3, if_neg mq]; exact ⟨Wu _, rfl⟩, by omega⟩, rfl, (hs1.weakL (.cons _ (.cons _ (T'))))⟩)
       | (refine Jh O O (.cons (Jj (vs := [_, _, _]) O (kn 1 O) O O) (.cons (Jg O) .nil)) (fun w1 hs1 => ?_)
          first | exact ⟨⟨Kv [], [], a, (lookE s a).1, Q8 mf, by unfold Qf; rw [if_pos ma], fun h => absurd h ma, by omega⟩, rfl, (hs1.weakL (.cons _ (.cons _ (T'))))⟩ | exact ⟨⟨Kv ((s.take ((lookE s a).2.1 + (lookE s a).2.2.1)).drop (lookE s a).2.1), [], ((lookE s a).2.1 + (lookE s a).2.2.1), 0, Q8 mL, by unfold Qf; rw [if_neg m3, if_neg mq], fun _ => by unfold Qf; rw [if_neg m3, if_neg mq]; exact ⟨Wu _, rfl⟩, by omega⟩, rfl, (hs1.weakL (.cons _ (.cons _ (T'))))⟩)
       | (refine Jh O O (.cons (Jj (vs := yx.cells) O (kn 2 O) O nQ) (.cons (Jg O) .nil)) (fun w1 hs1 => ?_)
          exact ⟨⟨yx, yL, ((lookE s a).2.1 + (lookE s a).2.2.1), ye, yin, by unfold Qf; rw [if_neg m3, if_pos MN]; exact yhe, fun h0 => by unfold Qf; rw [if_neg m3, if_pos MN]; exact ⟨yok h0, rfl⟩, by omega⟩, rfl, hs1.weakL (.cons_cons _ (.cons _ (.cons _ (T'))))⟩)
     · refine D5 ?_
       have hok := Zm (s := s) (a := a) ma
       refine HI ?_
       refine N5 ?_
       refine N5 ?_
       refine GV ?_; refine J4 na (gp ?_)
       refine Gt ?_; refine cD (fun g => ?_) fun g => ?_
       refine gL ?_
       (refine Jh O O (.cons (Jj (vs := [_, _, _]) O (kn 1 O) O O) (.cons (Jg O) .nil)) (fun w1 hs1 => ?_)
        first | exact ⟨⟨Kv [], [], a, (lookE s a).1, Q8 mf, by unfold Qf; rw [if_pos ma], fun h => absurd h ma, by omega⟩, rfl, (hs1.weakL (.cons _ (.cons _ (T'))))⟩ | exact ⟨⟨Kv ((s.take ((lookE s a).2.1 + (lookE s a).2.2.1)).drop (lookE s a).2.1), [], ((lookE s a).2.1 + (lookE s a).2.2.1), 0, Q8 mL, by unfold Qf; rw [if_neg m3, if_neg mq], fun _ => by unfold Qf; rw [if_neg m3, if_neg mq]; exact ⟨Wu _, rfl⟩, by omega⟩, rfl, (hs1.weakL (.cons _ (.cons _ (T'))))⟩)
       refine D5 ?_
       refine Kk [] [(0, .pure), (1, .pure), (2, .pure), (3, .pure), (4, .pure), (6, .turn), (7, .pure), (8, .turn), (9, .pure)] 10 [0, 1, 2, 3, 4, 5, 7, 6, 8, 9] m4 m4 mb (gN ?_); refine ku ?_; refine Jr (k := 3) O O O O O (fun _ _ => Kt (kl := none) (kh := some (.i64, (((((lookE s a).2.1 + (lookE s a).2.2.1) : Nat)) : Int))) (m := 0) (n := ((lookE s a).2.1 + (lookE s a).2.2.1)) O O O O O O (Z') m3 O) ?_
       refine DU ?_; refine Xk (k := 5) O O O O O (Jc O (kn 0 O) O O) (Ex ?_); refine KH (k := 6) (T0 := [rdB q de 0]) (L0 := [(r8, _), (r6, _)]) (Rl := []) (E' := fun x => rdB q de x.e :: (r8, _) :: (r6, _) :: x.L) (B' (l₁ := [_, _])) (fun x => List.perm_append_comm.cons _) O O O O O (enters_of Tryz.func202 m4 O) (Jt2 (p := (lookE s a).2.1) (s := s.take ((lookE s a).2.1 + (lookE s a).2.2.1)) (q := q) (de := de) ih m3 n6 n6) oN (fun x q hq => nomatch hq) fun y => ?_
       obtain ⟨yx, yL, ye, yin, yhe, yok⟩ := y
       rw [Jky hok.2.2] at yhe yok; refine KV (k := 8) (q := 2) (n := 3) (ys := yx.cells) O O O O O O O (ItL.len _) O (ItL.one _) O oN (Jr (k := 9) O O O O O (fun _ hS => (J7 O)) (KJ (GN ?_)))
       (refine Jh O O (.cons (Jj (vs := yx.cells) O (kn 2 O) O nQ) (.cons (Jg O) .nil)) (fun w1 hs1 => ?_)
        exact ⟨⟨yx, yL, ((lookE s a).2.1 + (lookE s a).2.2.1), ye, yin, by unfold Qf; rw [if_neg m3, if_pos MN]; exact yhe, fun h0 => by unfold Qf; rw [if_neg m3, if_pos MN]; exact ⟨yok h0, rfl⟩, by omega⟩, rfl, hs1.weakL (.cons_cons _ (.cons _ (.cons _ (T'))))⟩)
   skip)
theorem Joy : ∀ f, zZ f
 | 0 => Jt3
 | f + 1 => Jt4 (Joy f)
structure UnD (s : BS) where
  x : ItL
  L : J3
  inn : x.In L
  er : x.er = (WM s).1
theorem Vr (hs : s.length ≤ 1000000000) : PureT (α := UnD s) prog 41 [Jk s].toArray (fun y => .tuple #[y.x.val, .int .i64 (WM s).2]) [] (fun y => y.L) [] := by
 refine Jq Tryz.func41 O O fun w => DI fun r2 => ?_; refine g8 ?_; refine Nz ?_; refine NQ ?_; refine cD (fun g => ?_) fun g => ?_
 refine Hf ?_
 refine N1 ?_; refine G4 ?_
 (refine Jh O O (.cons (Jj (vs := [_, _, _]) O (kn 0 O) O O) (.cons (Jg O) .nil)) (fun w1 hs1 => ?_)
  have hU : WM s = (KE, 5) := by unfold WM; rw [if_pos m3]
  exact ⟨⟨Kv [], [], Q8 mf, (Wu _).trans (by rw [hU]; rfl)⟩, congrArg (fun z : Int => Ending.returned (Value.tuple #[ItL.val (Kv []), .int .i64 z])) (by rw [hU]), hs1.weakL (S')⟩)
 ·refine gw ?_; refine D6 ?_; refine JR (cs := List.toArray ([.int .i64 ((0 : Nat) : Int), .int .i64 0])) O O O O fun rq => g8 ?_; refine Jx (T := [rdB rq 0 0]) (L0 := [(r2, _)]) (Rl := []) (O') O O O (enters_of Tryz.func112 m4 O) (Joy 12 0 s 0 rq O m3 (Z')) oN fun y => ?_
  obtain ⟨yx, yL, yd, ye, yin, yhe, yok, yle⟩ := y
  refine JY (List.Perm.cons _ B') ?_; change HL _ _ _ ((rq, .cells #[.int .i64 ((0 : Nat) : Int), .int .i64 ye] 202 (0, 0)) :: (r2, _) :: yL) _ _ _ _; refine MR ?_; refine LN O fun r5 => gO ?_; refine J5 9 O ?_
  refine Gb ?_; refine G5 ?_; refine cD (fun g => ?_) fun g => ?_
  refine Dz ?_; refine Kk [(rq, .cells #[.int .i64 ((0 : Nat) : Int), .int .i64 ye] 202 (0, 0))] [(0, .pure), (1, .pure), (2, .pure), (3, .pure), (4, .pure), (5, .turn), (6, .pure)] 7 [0, 1, 2, 3, 4, 5, 6] m4 m4 (fun q hq => by rw [U'.1 hq]; exact M' N') (Jr (k := 0) O O O O O (fun _ hS => (Jo (r := [_, _, _]) O O)) (Hb ?_)); refine Jr (k := 4) O O O O O (fun _ hS => (Jc O (.inl (hS _ (J0 (n := 0) O))) O O)) (KV (k := 5) (q := 2) (n := 3) (ys := [_, _, _]) O O O O O O O O O O O (fun q hq => by rw [U'.1 hq]; exact M' N') (Jr (k := 6) O O O O O (fun _ hS => (J7 O)) (KJ (G4 ?_))))
  (refine Jh O O (.cons (Jj (vs := [_, _, _]) O (kn 2 O) O O) (.cons (Jg O) .nil)) (fun w1 hs1 => ?_)
   have hU : WM s = (KE, ye) := by unfold WM; rw [if_neg m3, if_pos (by rw [← yhe]; assumption), ← yhe]
   exact ⟨⟨Kv [], [], Q8 mf, (Wu _).trans (by rw [hU]; rfl)⟩, congrArg (fun z : Int => Ending.returned (Value.tuple #[ItL.val (Kv []), .int .i64 z])) (by rw [hU]), hs1.weakL (S')⟩)
  ·refine gw ?_; refine Eh ?_; refine cD (fun g => ?_) fun g => ?_
   refine Hf ?_
   refine J2 (k := 2) (n := 3) (cs' := #[_, _, _]) (vs := #[_, _, _]) O O O O O O O m8 O m5 (JD 6 O ?_)
   (refine Jh O O (.cons (Jj (vs := [_, _, _]) O (kn 2 O) O O) (.cons (Jg O) .nil)) (fun w1 hs1 => ?_)
    obtain ⟨o1, o2⟩ := yok ma
    have hU : WM s = (KE, 4) := by unfold WM; rw [if_neg m3, if_neg (by rw [← yhe]; omega), if_pos m3]
    exact ⟨⟨Kv [], [], Q8 mf, (Wu _).trans (by rw [hU]; rfl)⟩, congrArg (fun z : Int => Ending.returned (Value.tuple #[ItL.val (Kv []), .int .i64 z])) (by rw [hU]), hs1.weakL (S')⟩)
   ·refine gx ?_; refine LR O (Ji (xs := yx.cells) (n := 3) O (kn 0 O) O O (ItL.len _)) (Je (k := 2) (n := 3) (ys := yx.cells) O O O O O (ItL.len _) O (ItL.one _) O (gA ?_))
    (refine Jh O O (.cons (Jj (vs := yx.cells) O (kn 2 O) O nQ) (.cons (Jg O) .nil)) (fun w1 hs1 => ?_)
     obtain ⟨o1, o2⟩ := yok ma
     have hU : WM s = ((Qf 12 s 0).2.1, 0) := by unfold WM; rw [if_neg m3, if_neg (by rw [← yhe]; omega), if_neg m3]
     exact ⟨⟨yx, yL, yin, (by rw [hU]; exact o1)⟩, congrArg (fun z : Int => Ending.returned (Value.tuple #[ItL.val yx, .int .i64 z])) (by rw [hU]), hs1.weakL (.cons _ (.cons _ (.cons _ (T'))))⟩)
def WT (n lo hi : Int) : Int := if n < lo then 3 else if n > hi then 5 else 0
theorem Jdv (n lo hi : Int) : Pure prog 113 [.int .i64 n, .int .i64 lo, .int .i64 hi].toArray (.int .i64 (WT n lo hi)) := by
 refine JA Tryz.func113 O O fun w => Kl (Ku 15 O (cD (fun g => ?_) fun g => ?_))
 refine EK fun w1 hs1 => ?_
 unfold WT
 rw [if_pos m3]; rfl
 ·refine Ku 8 O (cD (fun g => ?_) fun g => ?_)
  refine EK fun w1 hs1 => ?_
  unfold WT
  rw [if_neg m3, if_pos m3]; rfl
  ·refine KF 9 O (MW fun w1 hs1 => ?_)
   unfold WT
   rw [if_neg m3, if_neg m3]; rfl
theorem Jir {l : Bool} {b : BS} {p : Pl} {xs : List ItL} {r : BS} (eg : Enters prog g) (hg : PureR prog g (Jk b :: caps).toArray (.tuple #[Jk r, .int .i64 e]) R) :
  PureR prog 114 [ItL.val (.mk l b p xs), .func (.func g) #[] caps.toArray].toArray (.tuple #[Jk (if l = true then [] else if e ≠ 0 then [] else r), .int .i64 (if l = true then 2 else if e ≠ 0 then e else 0)]) R := by
 refine J1 Tryz.func114 O O fun w => NT fun r0 => ?_; refine J5 12 O ?_
 refine N5 ?_; refine Dt ?_; refine cD (fun h5 => ?_) fun h5 => ?_
 exact EJ
 ·refine Ed ?_; refine cD (fun h10 => ?_) fun h10 => ?_
  exact Hk
  ·exact H0
theorem Jt5 {l : Bool} {b : BS} {p : Pl} {xs : List ItL} (eg : Enters prog g) (hg : PureR prog g (Jk b :: caps).toArray (.tuple #[uV r, .int .i64 e]) R) :
  PureR prog 116 [ItL.val (.mk l b p xs), .func (.func g) #[] caps.toArray].toArray (.tuple #[uV (if l = true then 0 else if e ≠ 0 then 0 else r), .int .i64 (if l = true then 2 else if e ≠ 0 then e else 0)]) R := by
 refine J1 Tryz.func116 O O fun w => NT fun r0 => ?_; refine J5 12 O ?_
 refine N5 ?_; refine Dt ?_; refine cD (fun h5 => ?_) fun h5 => ?_
 exact EJ
 ·refine Ed ?_; refine cD (fun h10 => ?_) fun h10 => ?_
  exact Hk
  ·exact H0
theorem Joz {l : Bool} {b : BS} {p : Pl} {xs : List ItL} {r : Bool} (eg : Enters prog g) (hg : PureR prog g (Jk b :: caps).toArray (.tuple #[.bool r, .int .i64 e]) R) :
  PureR prog 209 [ItL.val (.mk l b p xs), .func (.func g) #[] caps.toArray].toArray (.tuple #[.bool (if l = true then false else if e ≠ 0 then false else r), .int .i64 (if l = true then 2 else if e ≠ 0 then e else 0)]) R := by
 refine J1 Tryz.func209 O O fun w => NT fun r0 => ?_; refine J5 12 O ?_
 refine N5 ?_; refine Dt ?_; refine cD (fun h5 => ?_) fun h5 => ?_
 exact EJ
 ·refine Ed ?_; refine cD (fun h10 => ?_) fun h10 => ?_
  exact Hk
  ·exact H0
theorem er_l (l : Bool) (b : BS) (p : Pl) (xs : List ItL) : (ItL.er (.mk l b p xs)).l = l := by rw [ItL.er]; rfl
theorem er_b (l : Bool) (b : BS) (p : Pl) (xs : List ItL) : (ItL.er (.mk l b p xs)).b = b := by rw [ItL.er]; rfl
theorem er_xs (l : Bool) (b : BS) (p : Pl) (xs : List ItL) : (ItL.er (.mk l b p xs)).xs = xs.map ItL.er := by rw [ItL.er]; rfl
def Js (it : It) (lo hi : Int) : BS × Int := (if it.l = true then [] else if WT it.b.length lo hi ≠ 0 then [] else it.b, if it.l = true then 2 else if WT it.b.length lo hi ≠ 0 then WT it.b.length lo hi else 0)
theorem Jf4  {r4 : Nat} (b : BS) : PureR prog 115 (Jk b :: [Kj r4, Kj r5]).toArray (.tuple #[Jk b, .int .i64 (WT b.length lo hi)]) [(r5, .cells #[.int .i64 hi] 3 (0, 0)), (r4, .cells #[.int .i64 lo] 3 (0, 0))] := by
 refine J1 Tryz.func115 O O fun w => Hr ?_; refine Nz ?_; refine Gp ?_; refine NM ?_; refine JC O O O (enters_of Tryz.func113 m4 O) (Jdv _ _ _) ?_; exact gk
theorem WB (t : ItL) (lo hi : Int) : PureR prog 45 [t.val, .int .i64 lo, .int .i64 hi].toArray (.tuple #[Jk (Js t.er lo hi).1, .int .i64 (Js t.er lo hi).2]) R := by
 obtain ⟨l, b, p, xs⟩ := t
 unfold Js
 rw [er_l, er_b]; refine J1 Tryz.func45 O O fun w => NT fun r0 => ?_; refine JR (cs := List.toArray ([.int .i64 lo])) O O O O fun r4 => JR (cs := List.toArray ([.int .i64 hi])) O O O O fun r5 => gp ?_; refine LR O (Ji (xs := [.bool l, Jk b, Km xs.length p]) (n := 3) O (kn 2 O) O O O) (NR ?_); refine Ju O O O (enters_of Tryz.func114 m4 O) (Jir (r := b) (enters_of Tryz.func115 m4 O) (Jf4 (r4 := r4) (r5 := r5) (lo := lo) (hi := hi) b)) (fun q hq => Or.inl (List.mem_append_left [_] hq)) (kg ?_); exact gk
def Jf (it : It) : Nat × Int := (if it.l = true then 0 else if (Yi it.b).2 ≠ 0 then 0 else (Yi it.b).1, if it.l = true then 2 else if (Yi it.b).2 ≠ 0 then (Yi it.b).2 else 0)
theorem Kz (t : ItL) : PureR prog 47 [t.val].toArray (.tuple #[uV (Jf t.er).1, .int .i64 (Jf t.er).2]) R := by
 obtain ⟨l, b, p, xs⟩ := t
 unfold Jf
 rw [er_l, er_b]
 have hp := (Jfw b).toR (R := R)
 refine J1 Tryz.func47 O O fun w => H9 fun r0 => ?_; refine Ju O O O (enters_of Tryz.func116 m4 O) (Jt5 (caps := []) (enters_of Tryz.func117 m4 O) hp) oR (kg ?_); exact gk
def ZQ (b : BS) : BS × Int := if b ≠ [] ∧ b.length ≠ 20 then ([], 2) else (b, 0)
theorem Jf5 (b : BS) : Pure prog 207 [Jk b].toArray (.tuple #[Jk (ZQ b).1, .int .i64 (ZQ b).2]) := by
  refine JA Tryz.func207 O O fun w => Hr ?_; refine LR O (vw O O) (gl ?_)
  refine J8 6 O (fun gb => ?_) (fun gb => ?_) <;> (try simp only [ZZ] at gb) <;> first | (refine JI O ?_) | (refine LK O ?_)
  all_goals refine ko ?_
  all_goals refine MQ ?_
  all_goals (
   refine kN ?_; refine Jl O (fun g => ?_) (fun g => ?_)
   · try exact Bool.noConfusion g
     all_goals try simp only [ZZ] at g
     all_goals (
      refine GL ?_; refine Np fun w1 hs1 => ?_
      unfold ZQ
      rw [if_pos ⟨by assumption, by omega⟩]; rfl
      skip)
   try simp only [ZZ] at g
   refine KF 10 O (Np fun w1 hs1 => ?_)
   unfold ZQ
   rw [if_neg (by rintro ⟨h1, h2⟩; first | exact h1 ma | omega)]; rfl
   skip)
def JK (it : It) : BS × Int := (if it.l = true then [] else if (ZQ it.b).2 ≠ 0 then [] else (ZQ it.b).1, if it.l = true then 2 else if (ZQ it.b).2 ≠ 0 then (ZQ it.b).2 else 0)
theorem Yp (t : ItL) : PureR prog 120 [t.val].toArray (.tuple #[Jk (JK t.er).1, .int .i64 (JK t.er).2]) R := by
 obtain ⟨l, b, p, xs⟩ := t
 unfold JK
 rw [er_l, er_b]
 have hp := (Jf5 b).toR (R := R)
 refine J1 Tryz.func120 O O fun w => H9 fun r0 => ?_; refine Ju O O O (enters_of Tryz.func114 m4 O) (Jir (caps := []) (enters_of Tryz.func207 m4 O) hp) oR (kg ?_); exact gk
def qU (b : BS) : Bool × Int := if b ≠ [] ∧ b ≠ [1] then (false, 2) else (decide (b = [1]), 0)
theorem Jf6 (b : BS) : Pure prog 210 [Jk b].toArray (.tuple #[.bool (qU b).1, .int .i64 (qU b).2]) := by
  refine JA Tryz.func210 O O fun w => Hr ?_; refine LR O (vw O O) (gl ?_)
  refine J8 6 O (fun gb => ?_) (fun gb => ?_) <;> (try simp only [ZZ] at gb) <;> first | (refine JI O ?_) | (refine LK O ?_)
  all_goals first | refine LR O (vw O O) ?_ | refine LK O ?_
  all_goals refine N4 ?_
  all_goals (
   refine kN ?_; refine Jl O (fun g => ?_) (fun g => ?_)
   · try exact Bool.noConfusion g
     all_goals try simp only [ZZ] at g
     all_goals (
      refine GL ?_; refine Np fun w1 hs1 => ?_
      unfold qU
      rw [if_pos ⟨by assumption, by assumption⟩]; rfl
      skip)
   try simp only [ZZ] at g
   refine gx ?_; refine Hs ?_; refine G4 ?_; refine Np fun w1 hs1 => ?_
   unfold qU
   rw [if_neg (by rintro ⟨h1, h2⟩; first | exact h1 ma | exact h2 ma)]; rfl
   skip)
def Vc (it : It) : Bool × Int := (if it.l = true then false else if (qU it.b).2 ≠ 0 then false else (qU it.b).1, if it.l = true then 2 else if (qU it.b).2 ≠ 0 then (qU it.b).2 else 0)
theorem xa (t : ItL) : PureR prog 125 [t.val].toArray (.tuple #[.bool (Vc t.er).1, .int .i64 (Vc t.er).2]) R := by
 obtain ⟨l, b, p, xs⟩ := t
 unfold Vc
 rw [er_l, er_b]
 have hp := (Jf6 b).toR (R := R)
 refine J1 Tryz.func125 O O fun w => H9 fun r0 => ?_; refine Ju O O O (enters_of Tryz.func209 m4 O) (Joz (caps := []) (enters_of Tryz.func210 m4 O) hp) oR (kg ?_); exact gk
def Ka (it : It) (lo hi : Int) : Int := if it.l ≠ true then 2 else if WT it.xs.length lo hi ≠ 0 then WT it.xs.length lo hi else 0
theorem Wi {t : ItL} (ht : t.In R) (lo hi : Int) : PureR prog 42 [t.val, .int .i64 lo, .int .i64 hi].toArray (.tuple #[if Ka t.er lo hi = 0 then Km t.xs.length t.p else .slice none 0 0, .int .i64 (Ka t.er lo hi)]) R := by
 have hs := ht.seg
 obtain ⟨l, b, p, xs⟩ := t
 simp only [ItL.xs, ItL.p] at hs ⊢
 have hx : (xs.map ItL.er).length = xs.length := D' _
 unfold Ka
 rw [er_l, er_xs, hx]; refine J1 Tryz.func42 O O fun w => NT fun r0 => ?_; refine g8 ?_
 refine Gt ?_; refine cD (fun g => ?_) fun g => ?_
 refine GL ?_; refine Np fun w1 hs1 => ?_
 (have hG : (if l ≠ true then (2 : Int) else if WT (xs.length : Int) lo hi ≠ 0 then WT (xs.length : Int) lo hi else 0) = 2 := by rw [if_pos mq]
  rw [hG]; rfl)
 ·refine gx ?_
  refine N5 ?_; refine GO ?_; refine gu ?_; refine JC O O O (enters_of Tryz.func113 m4 O) (Jdv _ _ _) (JP 9 O (cD (fun g => ?_) fun g => ?_))
  refine HV fun w1 hs1 => ?_
  (have hG : (if l ≠ true then (2 : Int) else if WT (xs.length : Int) lo hi ≠ 0 then WT (xs.length : Int) lo hi else 0) = WT (xs.length : Int) lo hi := by rw [if_neg mq, if_pos ma]
   rw [hG, if_neg ma]; rfl)
  ·refine DK ?_; refine G4 ?_; refine Np fun w1 hs1 => ?_
   (have hG : (if l ≠ true then (2 : Int) else if WT (xs.length : Int) lo hi ≠ 0 then WT (xs.length : Int) lo hi else 0) = 0 := by rw [if_neg mq, if_neg m3]
    rw [hG, if_pos rfl]; rfl)
def wPV (ws : List Nat) : Value := .agg (ws.map uV).toArray
theorem w4 {ws : List Nat} (h : ws.length = 4) : ∃ a b c d, ws = [a, b, c, d] := by
 match ws, h with
 | [a, b, c, d], _ => exact ⟨a, b, c, d, rfl⟩
theorem Jo0 {l : Bool} {b : BS} {p : Pl} {xs : List ItL} {r : List Nat} (hr4 : r.length = 4) (eg : Enters prog g) (hg : PureR prog g (Jk b :: caps).toArray (.tuple #[wPV r, .int .i64 e]) R) :
  PureR prog 208 [ItL.val (.mk l b p xs), .func (.func g) #[] caps.toArray].toArray (.tuple #[wPV (if l = true then [0, 0, 0, 0] else if e ≠ 0 then [0, 0, 0, 0] else r), .int .i64 (if l = true then 2 else if e ≠ 0 then e else 0)]) R := by
 obtain ⟨a1, a2, a3, a4, rfl⟩ := w4 hr4
 refine J1 Tryz.func208 O O fun w => NT fun r0 => ?_; refine LN O fun r1 => kB ?_; refine LN O fun r2 => EM ?_; refine Dt ?_; refine cD (fun h5 => ?_) fun h5 => ?_
 refine NG ?_; refine LR O (Ki (vs := [_, _, _, _]) O (kn 0 O) O O O O) ?_
 refine J2 (k := 1) (n := 4) (cs' := #[_, _, _, _]) (vs := #[_, _, _, _]) O O O O O O O m8 O m5 (G4 ?_); refine Jh O O (.cons (Jj (vs := [_, _, _, _]) O (kn 1 O) O O) (.cons (Jg O) .nil)) (fun w1 hs1 => ?_); refine gS ?_; rw [if_pos ma, if_pos ma]; rfl
 ·refine gx ?_
  refine MP ?_; refine kI ?_; refine Ju O O O eg hg oR (MR ?_); refine LN O fun r3 => ?_
  refine ED ?_; refine E8 ?_; refine cD (fun h10 => ?_) fun h10 => ?_
  refine NG ?_; refine LR O (Ki (vs := [_, _, _, _]) O (kn 1 O) O O O O) (gl ?_)
  refine EE ?_; refine G4 ?_; refine Jh O O (.cons (Jj (vs := [_, _, _, _]) O (kn 2 O) O O) (.cons (Jg O) .nil)) (fun w1 hs1 => ?_); refine gS ?_; rw [if_neg mq, if_pos ma, if_neg mq, if_pos ma]; rfl
  ·refine gw ?_; refine LR O (Ki (vs := [_, _, _, _]) O (kn 0 O) O O O O) ?_
   refine EE ?_; refine gA ?_; refine Jh O O (.cons (Jj (vs := [_, _, _, _]) O (kn 2 O) O O) (.cons (Jg O) .nil)) (fun w1 hs1 => ?_); refine gS ?_; rw [if_neg mq, if_neg m3, if_neg mq, if_neg m3]; rfl
theorem Jf7 {l : Bool} {b : BS} {p : Pl} {xs : List ItL} {r : List Nat} (hr4 : r.length = 4) (hp : PureR prog 203 (Jk b :: []).toArray (.tuple #[wPV r, .int .i64 e]) R) :
  PureR prog 122 [ItL.val (.mk l b p xs)].toArray (.tuple #[wPV (if l = true then [0, 0, 0, 0] else if e ≠ 0 then [0, 0, 0, 0] else r), .int .i64 (if l = true then 2 else if e ≠ 0 then e else 0)]) R := by
 obtain ⟨z, hz⟩ : ∃ z, (if l = true then [0, 0, 0, 0] else if e ≠ 0 then [0, 0, 0, 0] else r) = z := ⟨_, rfl⟩
 have hz4 : z.length = 4 := by rw [← hz]; split <;> (try split) <;> first | rfl | exact hr4
 have hof := Jo0 (l := l) (p := p) (xs := xs) (caps := []) hr4 (enters_of Tryz.func203 m4 rfl) hp
 rw [hz] at hof ⊢
 obtain ⟨a1, a2, a3, a4, rfl⟩ := w4 hz4
 refine J1 Tryz.func122 O O fun w => NT fun r0 => ?_; refine LN O fun r1 => kB ?_; refine LR O (Ji (xs := [.bool l, Jk b, Km xs.length p]) (n := 3) O (kn 1 O) O O O) (Ju O O O (enters_of Tryz.func208 m4 O) hof oR (kg ?_))
 refine ED ?_; refine gA ?_; refine gU fun w1 hs1 => ?_; exact HG
def qx (lo hi : Int) : List It → Int
 | [] => 0
 | x :: r => if (Js x lo hi).2 ≠ 0 then (Js x lo hi).2 else qx lo hi r
def Qi (it : It) (many lo hi : Int) : List BS × Int := if Ka it 0 many ≠ 0 then ([], Ka it 0 many) else if qx lo hi it.xs ≠ 0 then ([], qx lo hi it.xs) else (it.xs.map It.b, 0)
theorem Jo1 (h : (Js it lo hi).2 = 0) : (Js it lo hi).1 = it.b := by
 unfold Js at h ⊢
 by_cases h1 : it.l = true
 ·simp only [if_pos h1] at h; cases h
 ·simp only [if_neg h1] at h ⊢
  by_cases h2 : WT it.b.length lo hi ≠ 0
  ·rw [if_pos h2] at h; exact absurd h h2
  ·rw [if_neg h2]
theorem wX {xs : List ItL} (h : xs[i]? = some y) : ((xs.take i).map fun x => Jk x.b) ++ [Jk y.b] = (xs.take (i + 1)).map fun x => Jk x.b := by
 rw [List.take_add_one, h, Option.toList_some, List.map_append]; rfl
theorem jL {xs : List ItL} (h : xs[i]? = some y) : (xs.drop i).map ItL.er = y.er :: (xs.drop (i + 1)).map ItL.er := by
 obtain ⟨hl, he⟩ := La'.1 h
 rw [List.drop_eq_getElem_cons hl, he, List.map_cons]
structure TxI (xs : List ItL) (lo hi : Int) (i : Nat) (row : QZ) : Prop where
  le : i ≤ xs.length
  row : rowOk 1 i ((xs.take i).map fun x => Jk x.b) row
  dr : qx lo hi (xs.map ItL.er) = qx lo hi ((xs.drop i).map ItL.er)
theorem Jf8 {t : ItL} (ht : t.In R) (many lo hi : Int) :
  PureT (α := { row : QZ // rowOk 1 (Qi t.er many lo hi).1.length ((Qi t.er many lo hi).1.map Jk) row }) prog 48 [t.val, .int .i64 many, .int .i64 lo, .int .i64 hi].toArray (fun y => .tuple #[JV (Qi t.er many lo hi).1.length y.1, .int .i64 (Qi t.er many lo hi).2]) [] (fun y => J9 9 ((Qi t.er many lo hi).1.map Jk) y.1) R := by
 have hgl := Wi ht 0 many
 refine Jq Tryz.func48 O O fun w => Kl ?_
 by_cases hG : Ka t.er 0 many = 0
 ·rw [if_pos hG, hG] at hgl
  have hs := ht.seg
  have hxl := ht.hl
  have hsub := ht.sub
  have hT : Qi t.er many lo hi = if qx lo hi t.er.xs ≠ 0 then ([], qx lo hi t.er.xs) else (t.er.xs.map It.b, 0) := by unfold Qi; rw [if_neg m3]
  rw [hT, ItL.er_xs]
  obtain ⟨p, hp⟩ : ∃ p, t.p = p := ⟨_, rfl⟩
  obtain ⟨xs, hx⟩ : ∃ xs, t.xs = xs := ⟨_, rfl⟩
  rw [hp, hx] at hgl; rw [hp, hx] at hs; rw [hx] at hxl hsub ⊢; refine NG ?_; refine Fj fun r0 => ?_; refine No ?_; refine JQ (σ := Nat × QZ) (fun z => TxI xs lo hi z.1 z.2) (fun z => [(2, .int .i64 lo), (3, .int .i64 hi), (11, .int .i64 0), (12, JV z.1 z.2), (23, Km xs.length p), (24, .int .i64 (xs.length : Int)), (25, .int .i64 (z.1 : Int))]) (fun z => J9 9 ((xs.take z.1).map fun x => Jk x.b) z.2) (fun _ _ _ => True) (fun z => xs.length - z.1) (0, none) ⟨Z', ⟨rfl, rfl⟩, rfl⟩ (lK O) (S') (fun _ _ h => h) ?_; rintro ⟨i, row⟩ hI
  obtain ⟨hi1, hrow, hdr⟩ := hI
  simp only at hi1 hrow hdr; refine gv ?_; refine Jl O (fun h8 => ?_) (fun h8 => ?_)
  ·try simp only [ZZ] at h8
   refine Hu ?_
   obtain ⟨y, hy, hmy⟩ := Vh mz
   refine HI ?_
   refine H6 ?_; refine LN O fun rx => Gx ?_; refine kV ?_; refine H8 ?_; refine gu ?_; refine Ju O O O Jft (WB (R := []) y lo hi) oN (H4 ?_); refine cD (fun g => ?_) fun g => ?_
   refine ET fun w1 hs1 => ?_
   (have h9 : qx lo hi (xs.map ItL.er) = (Js y.er lo hi).2 := by rw [hdr, jL hy, qx, if_pos ma]
    rw [h9, if_pos ma]
    exact ⟨⟨none, ⟨rfl, rfl⟩⟩, rfl, hs1.weakL (S')⟩)
   ·refine gx ?_; refine J4 (show _ = Jk y.b from by rw [Jo1 ma, ItL.er_b]) (Gs fun rb => ?_); refine Kw (L0 := [(rb, _), (rx, _)]) (xs := (xs.take i).map fun x => Jk x.b) (row := row) (n := i) (sz := 1) (b := 16) (news := [Jk y.b]) (B' (l₁ := [_, _])) O O O O (kn 0 O) O O O O O m7 O O O m7 hrow m3 m3 fun ra cap sp hra => Dr ?_; rw [wX hy] at hra; exact JL (i + 1, some (ra, cap, sp)) ⟨by simp only; omega, hra, by rw [hdr, jL hy, qx, if_neg m3]⟩ mj (lK rfl) Mj (fun _ _ h => h)
  try simp only [ZZ] at h8
  refine ET fun w1 hs1 => ?_
  (have hiM : i = xs.length := by omega
   have h9 : qx lo hi (xs.map ItL.er) = 0 := by rw [hdr, hiM, List.drop_length]; rfl
   have hm : ((xs.map ItL.er).map It.b).map Jk = xs.map fun x => Jk x.b := by simp [ItL.er_b, Function.comp_def]
   have hl : ((xs.map ItL.er).map It.b).length = xs.length := by simp
   rw [h9, if_neg mf]; rw [hiM, List.take_length] at hrow hs1
   exact ⟨⟨row, by rw [hm, hl]; exact hrow⟩, congrArg (fun n => Ending.returned (Value.tuple #[JV n row, Value.int IntKind.i64 0])) (hiM.trans hl.symm), (show St _ (J9 _ (List.map Jk (List.map It.b (List.map ItL.er xs))) row) _ _ by rw [hm]; exact hs1)⟩)
 ·rw [if_neg hG] at hgl
  have hT : Qi t.er many lo hi = ([], Ka t.er 0 many) := by unfold Qi; rw [if_pos hG]
  rw [hT]; refine NG ?_; refine Fj fun r0 => ?_; refine EQ ?_; refine JQ (σ := Unit) (fun _ => True) (fun _ => [(11, .int .i64 (Ka t.er 0 many)), (12, .slice none 0 0), (24, .int .i64 0), (25, .int .i64 0)]) (fun _ => []) (fun _ _ _ => True) (fun _ => 0) () trivial (lK O) (S') (fun _ _ h => h) ?_; rintro u _; refine gv ?_; refine Jl O (fun h8 => ?_) (fun h8 => ?_)
  exact absurd h8 (m7)
  ·try simp only [ZZ] at h8
   refine ET fun w1 hs1 => ?_; exact ⟨⟨none, ⟨rfl, rfl⟩⟩, rfl, hs1.weakL (S')⟩
structure BaE where
  parent : BS
  epoch : Nat
  hash : BS
  time : Nat
  txs : List BS
def YO (b : BaE) : Int := if b.parent.length ≠ 32 ∨ b.hash.length ≠ 32 ∨ (b.txs.any fun x => decide ([] = x)) = true then 2 else if 32 < b.txs.length ∨ (b.txs.any fun x => decide ((x.length : Int) > 4096)) = true then 5 else 0
def Yq (b : BaE) : It := Xq [Q4 b.parent, Yk b.epoch, Q4 b.hash, Yk b.time, WS b.txs]
theorem Jkz (s : BS) : Pure prog 108 [Jk s].toArray (.bool (decide ((s.length : Int) > 4096))) := by
 refine JA Tryz.func108 O O fun w => G7 ?_; refine Nz ?_; refine G4 ?_; exact Ng
structure BaL where
  parent : BS
  epoch : Nat
  hash : BS
  time : Nat
  p : Pl
  txs : List BS
def BaL.cells (b : BaL) : List Value := [Jk b.parent, uV b.epoch, Jk b.hash, uV b.time, Km b.txs.length b.p]
def BaL.val (b : BaL) : Value := .agg b.cells.toArray
def BaL.er (b : BaL) : BaE := ⟨b.parent, b.epoch, b.hash, b.time, b.txs⟩
structure BaL.In (R : J3) (b : BaL) : Prop where
  len : b.txs.length ≤ 9223372036854775807
  seg : Seg R b.txs.length (Qu b.txs) b.p
theorem Jo2 {xs : List BS} {p : Pl} (v : BS) (hl : xs.length ≤ 9223372036854775807) (hs : Seg R xs.length (Qu xs) p) :
  PureR prog 198 [Km xs.length p, Jk v].toArray (.int .i64 (yI (fun x => decide (v = x)) xs)) R := by
 refine J1 Tryz.func198 O O fun w => Gm ?_; refine No ?_; refine JQ (σ := Nat) (fun i => i ≤ xs.length ∧ ∀ j, j < i → ∀ y, xs[j]? = some y → decide (v = y) = false) (fun i => [(0, Km xs.length p), (1, Jk v), (7, .int .i64 (xs.length : Int)), (8, .int .i64 (i : Int))]) (fun _ => []) (fun _ _ _ => True) (fun i => xs.length - i) 0 ⟨by omega, fun j hj => absurd hj m3⟩ (lK rfl) (S') (fun _ _ h => h) ?_; rintro i ⟨hi1, hinv⟩; refine gv ?_; refine cD (fun g => ?_) fun g => ?_
 refine Ku 11 O ?_
 obtain ⟨x, hx, hmx⟩ := Vh mz
 refine gw ?_
 refine Nq ?_; refine LR O (Qr oR O hs m3 O (show (Qu xs)[i]? = some (Jk x) from by unfold Qu; rw [List.getElem?_map, hx]; rfl)) ?_; refine Hs ?_; refine Dt ?_; refine cD (fun g => ?_) fun g => ?_
 refine KF 12 O (MW fun w1 hs1 => ?_); rw [jB hx (decide_eq_true ma) hinv]; rfl
 refine GC ?_
 exact JL (i + 1) ⟨by omega, fun j hj y hy => by
  rcases Nat.lt_succ_iff_lt_or_eq.1 hj with hj | rfl
  exact hinv j hj y hy
  rw [hx] at hy; cases hy; exact decide_eq_false ma⟩ m3 (lK O) (S') (fun _ _ h => h)
 ·exact gh
theorem yK {xs : List BS} {p : Pl} (v : BS) (hl : xs.length ≤ 9223372036854775807) (hs : Seg R xs.length (Qu xs) p) :
  PureR prog 109 [Km xs.length p, Jk v].toArray (.bool (xs.any fun x => decide (v = x))) R := by
 refine J1 Tryz.func109 O O fun w => Gm ?_; refine Ju O O O (enters_of Tryz.func198 m4 O) (Jo2 v hl hs) oR ?_; exact DH
theorem Jo3 {b : BaL} (hb : b.In R) : PureR prog 37 [b.val].toArray (.int .i64 (YO b.er)) R := by
  have hl := hb.len
  have hs := hb.seg
  refine J1 Tryz.func37 O O fun w => EO fun r0 => ?_; refine J5 12 O ?_
  refine N5 ?_; refine H1 ?_
  refine J8 9 O (fun gb => ?_) (fun gb => ?_) <;> (try simp only [ZZ] at gb) <;> first | (refine LR O (Ja O O m0) ?_) | (refine LK O ?_)
  all_goals refine Nh ?_
  all_goals refine ko ?_
  all_goals refine GZ ?_
  all_goals first | refine LK O ?_ | (refine J8 15 O (fun gb => ?_) (fun gb => ?_) <;> (try simp only [ZZ] at gb) <;> first | (refine LR O (Ja O O m0) ?_) | (refine LK O ?_))
  all_goals refine Nh ?_
  all_goals first | (refine Ju O O O (enters_of Tryz.func109 m4 O) (yK [] hl hs) oR ?_) | refine LK O ?_
  all_goals refine N4 ?_
  all_goals (
   refine kW ?_; refine Jl O (fun g => ?_) (fun g => ?_)
   try simp only [ZZ] at g
   refine EK fun w1 hs1 => ?_
   unfold YO BaL.er
   dsimp only
   first | (rw [if_pos (.inl m3)]; rfl) | (rw [if_pos (.inr (.inl m3))]; rfl) | (rw [if_pos (.inr (.inr ma))]; rfl)
   · try exact Bool.noConfusion g
     all_goals try simp only [ZZ] at g
     all_goals (
      refine F0 ?_; refine GO ?_; refine gu ?_
      refine J8 25 O (fun gb => ?_) (fun gb => ?_) <;> (try simp only [ZZ] at gb) <;> first | (refine LR O (Ja O O m0) ?_) | (refine LK O ?_)
      all_goals refine Nh ?_
      all_goals refine Ns ?_
      all_goals first | (refine Ju O O O Jh3 (XE (caps := []) hl hs (enters_of Tryz.func108 m4 O) (fun x _ => (Jkz x).toR)) oR ?_) | refine LK O ?_
      all_goals refine N4 ?_
      all_goals (
       refine kW ?_; refine Jl O (fun g => ?_) (fun g => ?_)
       · try simp only [ZZ] at g
         refine EK fun w1 hs1 => ?_
         unfold YO BaL.er
         dsimp only
         first | (rw [if_neg mD, if_pos (.inl m3)]; rfl) | (rw [if_neg mD, if_pos (.inr ma)]; rfl)
       · try exact Bool.noConfusion g
         all_goals try simp only [ZZ] at g
         all_goals (
          refine KF 9 O (MW fun w1 hs1 => ?_)
          unfold YO BaL.er
          dsimp only
          rw [if_neg mD, if_neg mu]; rfl
          skip)
       skip)
      skip)
   skip)
theorem vG (h : s.length < 16777216) : (QP (Q4 s)).length ≤ s.length + 4 := by
 unfold Q4; rw [zR]; split
 ·omega
 ·unfold KZ; rw [C']; have := (Zx (by_ := 128) h).2; omega
theorem Jis {xs : List It} (h : (QL xs).length < 16777216) : (QP (Xq xs)).length ≤ (QL xs).length + 4 := by
 unfold Xq; rw [zQ]; unfold KZ; rw [C']; have := (Zx (by_ := 192) h).2; omega
theorem Jit {m : Nat} : ∀ {xs : List It}, (∀ x ∈ xs, (QP x).length ≤ m) → (QL xs).length ≤ xs.length * m
 | [], _ => by simp [QL]
 | x :: r, h => by
  rw [QL, C', List.length_cons, Nat.succ_mul]
  have h1 := h x N'
  have h2 := Jit (xs := r) fun y hy => h y (M' hy)
  omega
theorem Jdw (f : Nat) (s : BS) : yA f (Q4 s) = true := by unfold Q4; cases f <;> (rw [yA]; simp)
theorem Jdx {xs : List It} (hl : xs.length ≤ 512) (h : okL f xs = true) : yA (f + 1) (Xq xs) = true := by
 unfold Xq; rw [yA]; simp [hl, h]
theorem Jo4 {f : Nat} : ∀ {xs : List It}, (∀ x ∈ xs, yA f x = true) → okL f xs = true
 | [], _ => by rw [okL]
 | x :: r, h => by rw [okL, h x N', Jo4 fun y hy => h y (M' hy)]; rfl
theorem Jo5 {n : Nat} (h : VL n) : (QP (Yk n)).length ≤ 12 := by
 have h8 := jG h
 have := vG (s := WL n) m3
 unfold Yk; omega
theorem Jo6 {l : List BS} {n m : Nat} (hl : l.length ≤ n) (h : ∀ s ∈ l, s.length ≤ m) (hb : n * (m + 4) < 16777216) : (QP (WS l)).length ≤ n * (m + 4) + 4 := by
 have h1 : (QL (l.map Q4)).length ≤ (l.map Q4).length * (m + 4) := Jit fun x hx => by
  obtain ⟨s, hs, rfl⟩ := List.mem_map.1 hx
  have h2 := h s hs
  by_cases h0 : l.length = 0
  ·rw [List.length_eq_zero_iff.1 h0] at hs; cases hs
  ·have : m + 4 ≤ n * (m + 4) := Nat.le_mul_of_pos_left _ m3
   have := vG (s := s) m3
   omega
 rw [D'] at h1
 have h3 : l.length * (m + 4) ≤ n * (m + 4) := Nat.mul_le_mul_right _ hl
 have := Jis (xs := l.map Q4) m3
 unfold WS; omega
theorem Jo7 {l : List BS} (hl : l.length ≤ 512) : yA (f + 1) (WS l) = true := by
 refine Jdx Ms (Jo4 fun x hx => ?_)
 obtain ⟨s, _, rfl⟩ := List.mem_map.1 hx
 exact Jdw _ _
structure TxB (t : TxE) : Prop where
  dest : t.dest = [] ∨ t.dest.length = 20
  data : t.data.length ≤ 4096
  accL : t.access.length ≤ 16
  addr : ∀ a ∈ t.access, a.addr.length = 20
  keyL : ∀ a ∈ t.access, a.keys.length ≤ 16
  keys : ∀ a ∈ t.access, ∀ s ∈ a.keys, s.length = 32
  au : t.auths = []
  y : t.y ≤ 1
  chain : t.kind = 0 → t.chain ≤ 4611686018427387904
  nam : t = ZK t
theorem Jiu {n : Nat} (h : VL n) : Jf (Yk n) = (n, 0) := by
 unfold Jf Yk Q4; simp [It.l, It.b, Jti h]
theorem Jo8 {n : Int} (h1 : lo ≤ n) (h2 : n ≤ hi) : WT n lo hi = 0 := by unfold WT; rw [if_neg m3, if_neg m3]
theorem je (h1 : lo ≤ s.length) (h2 : s.length ≤ hi) : Js (Q4 s) lo hi = (s, 0) := by
 unfold Js Q4; simp [It.l, It.b, Jo8 h1 h2]
theorem Jdy {xs : List It} (h1 : lo ≤ xs.length) (h2 : xs.length ≤ hi) : Ka (Xq xs) lo hi = 0 := by
 unfold Ka Xq; simp [It.l, It.xs, Jo8 h1 h2]
theorem Jo9 {lo hi : Int} : ∀ {l : List BS}, (∀ s ∈ l, lo ≤ s.length ∧ s.length ≤ hi) → qx lo hi (l.map Q4) = 0
 | [], _ => rfl
 | s :: r, h => by
  have h1 := h s N'
  rw [List.map_cons, qx, je h1.1 h1.2, if_neg mf]; exact Jo9 fun x hx => h x (M' hx)
theorem Jk0 {l : List BS} {many : Int} (hl : l.length ≤ many) (h : ∀ s ∈ l, lo ≤ s.length ∧ s.length ≤ hi) : Qi (WS l) many lo hi = (l, 0) := by
 have h1 : Ka (WS l) 0 many = 0 := Jdy m3 Ms
 have h2 : (WS l).xs = l.map Q4 := rfl
 unfold Qi
 rw [h1, if_neg mf, h2, Jo9 h, if_neg mf, List.map_map]
 have : (It.b ∘ Q4) = id := rfl
 rw [this, List.map_id]
structure BaS (b : BaE) : Prop where
  parent : b.parent.length = 32
  hash : b.hash.length = 32
  len : b.txs.length ≤ 32
  txs : ∀ s ∈ b.txs, 1 ≤ s.length ∧ s.length ≤ 4096
theorem Jpa {b : BaE} (h : YO b = 0) : BaS b := by
 unfold YO at h
 split at h
 ·cases h
 ·rename_i h1
  split at h
  ·cases h
  ·rename_i h2
   rw [not_or, not_or] at h1; rw [not_or] at h2; refine ⟨by omega, by omega, by omega, fun s hs => ⟨?_, ?_⟩⟩
   ·cases s with
    | nil => exact absurd (List.any_eq_true.2 ⟨[], hs, by simp⟩) h1.2.2
    | cons a r => simp
   ·by_cases h3 : s.length ≤ 4096
    ·exact h3
    ·exact absurd (List.any_eq_true.2 ⟨s, hs, by simp; omega⟩) h2.2
theorem Jpb {b : BaE} (h : BaS b) (he : VL b.epoch) (ht : VL b.time) : (QP (Yq b)).length ≤ 140000 ∧ yA 12 (Yq b) = true := by
 have h1 := vG (s := b.parent) (by rw [h.parent]; decide)
 have h2 := vG (s := b.hash) (by rw [h.hash]; decide)
 have h3 := Jo5 he
 have h4 := Jo5 ht
 have h5 := Jo6 (m := 4096) h.len (fun s hs => (h.txs s hs).2) m7
 rw [h.parent] at h1; rw [h.hash] at h2
 unfold Yq
 refine ⟨?_, Jdx mf (by simp only [okL, Yk, Jdw, Jo7 (f := 10) (l := b.txs) (by have := h.len; omega), Bool.and_self])⟩; refine Lb' (Jis ?_) ?_
 all_goals simp only [QL, C', List.length_nil]; omega
def yM (b : BaE) : BS × Int := if YO b ≠ 0 then ([], YO b) else if Ym (Yq b) ≠ 0 then ([], Ym (Yq b)) else (0 :: QP (Yq b), 0)
theorem Jyk {b : BaL} (hb : b.In R) (hu : VL b.epoch) (ht : VL b.time) : PureR prog 10 [b.val].toArray (.tuple #[Jk (yM b.er).1, .int .i64 (yM b.er).2]) R := by
 have hchk := Jo3 hb
 refine J1 Tryz.func10 O O fun w => EO fun r0 => ?_; refine g8 ?_; refine LR O (Ji (xs := b.cells) (n := 5) O (kn 0 O) O O O) (Ju O O O (enters_of Tryz.func37 m4 O) hchk oR (JP 9 O (cD (fun g => ?_) fun g => ?_)))
 refine HV fun w1 hs1 => ?_; rw [show yM b.er = ([], YO b.er) from by unfold yM; rw [if_pos ma]]; rfl
 ·refine D5 ?_
  have hc0 : YO b.er = 0 := by omega
  have hS := Jpa hc0
  have hlk := Jpb hS hu ht
  have hl1 : b.txs.length ≤ 100000 := by have := hS.len; simp only [BaL.er] at this; omega
  have hl2 : ∀ s ∈ b.txs, s.length ≤ 1000000 := fun s hs => by have := hS.txs s hs; omega
  have x0 := J2n (l := b.txs) m3 hl2
  refine Kk [(r0, .cells (List.toArray b.cells) 39 (0, 0))] [(0, .pure), (1, .pure), (2, .pure), (3, .pure), (4, .pure), (5, .pure), (6, .pure), (7, .pure), (8, .pure), (9, .pure), (10, .pure), (11, .pure), (12, .pure), (13, .pure), (14, .grow (V1 x0 (fun y => y.x.val) (fun y => y.L))), (15, .dep [15, 18, 21, 24, 27] (Jhu 5 91)), (16, .pure), (17, .turn), (18, .pure), (19, .pure), (20, .pure), (21, .pure), (22, .pure)] 23 [0, 1, 2, 3, 4, 5, 6, 7, 8, 9, 10, 11, 12, 13, 14, 15, 16, 17, 18, 19, 20, 21, 22] m4 m4 (fun p hp => hp) ?_
  refine gM ?_; refine NP ?_; refine VD (k := 2) O O O O O Js6 (Jam b.parent) ?_
  refine Jr (k := 3) O O O O O (fun _ hS => (Ja O O m0)) (Jr (k := 4) O O O O O (fun _ hS => (Jc O (.inl (hS _ (J0 (n := 0) O))) O O)) (VD (k := 5) O O O O O (enters_of Tryz.func39 m4 O) (Jdk hu) ?_))
  refine Jr (k := 6) O O O O O (fun _ hS => (Ja O O m0)) (Jr (k := 7) O O O O O (fun _ hS => (Jc O (.inl (hS _ (J0 (n := 0) O))) O O)) (VD (k := 8) O O O O O Js6 (Jam b.hash) ?_))
  refine Jr (k := 9) O O O O O (fun _ hS => (Ja O O m0)) (Jr (k := 10) O O O O O (fun _ hS => (Jc O (.inl (hS _ (J0 (n := 0) O))) O O)) (VD (k := 11) O O O O O (enters_of Tryz.func39 m4 O) (Jdk ht) ?_))
  refine Jr (k := 12) O O O O O (fun _ hS => (Ja O O m0)) (Jr (k := 13) O O O O O (fun _ hS => (Jc O (.inl (hS _ (J0 (n := 0) O))) O O)) (zH (k := 14) O O O O O (enters_of Tryz.func40 m4 O) (Jto (l := b.txs) hl1 hb.seg hl2) (fun q hq => .inr hq) fun y => ?_))
  obtain ⟨⟨yl, yb, yp, yxs⟩, yL, yh, ye⟩ := y
  refine Vb (k := 15) (dv := [_, _, _, _, _]) (n := 5) (sz := 3) (vs := [_, _, _, _, _]) (zs := [_, _, _, _, _, _, _, _, _, _, _, _, _, _, _]) (r := Kq [Kv b.parent, Kv (WL b.epoch), Kv b.hash, Kv (WL b.time), (ItL.mk yl yb yp yxs)]) O O O O O O O O O O O O O n5 m4 fun qa => VD (k := 16) O O O O O (enters_of Tryz.func34 m4 O) (Joe (some ⟨qa, 0, none⟩) 5 5) ?_
  have hin : (wW qa 5 [Kv b.parent, Kv (WL b.epoch), Kv b.hash, Kv (WL b.time), (ItL.mk yl yb yp yxs)]).In ((qa, Obj.cells (Kq [Kv b.parent, Kv (WL b.epoch), Kv b.hash, Kv (WL b.time), (ItL.mk yl yb yp yxs)]).toArray 91 (0, 0)) :: yL) := Jds (xs := [Kv b.parent, Kv (WL b.epoch), Kv b.hash, Kv (WL b.time), (ItL.mk yl yb yp yxs)]) mf N' (fun z hz => by
   rcases F'.1 hz with rfl | hz
   exact Q8 (by have := hS.parent; simp only [BaL.er] at this; omega)
   rcases F'.1 hz with rfl | hz
   exact Q8 (Jwp hu)
   rcases F'.1 hz with rfl | hz
   exact Q8 (by have := hS.hash; simp only [BaL.er] at this; omega)
   rcases F'.1 hz with rfl | hz
   exact Q8 (Jwp ht)
   rw [U'.1 hz]; exact yh.mono fun q hq => M' hq)
  have her : (wW qa 5 [Kv b.parent, Kv (WL b.epoch), Kv b.hash, Kv (WL b.time), (ItL.mk yl yb yp yxs)]).er = Yq b.er := by rw [Jdt]; unfold Yq; simp only [List.map_cons, List.map_nil, Wu, ye]; rfl
  have hre := Jkx hin (by rw [her]; exact hlk.2) (by rw [her]; omega)
  rw [her] at hre; rw [show (wW qa 5 [Kv b.parent, Kv (WL b.epoch), Kv b.hash, Kv (WL b.time), (ItL.mk yl yb yp yxs)]).val = Jwm (.slice (some ⟨qa, 0, none⟩) 5 5) from rfl] at hre; refine KH (k := 17) (T0 := []) (L0 := ((qa, Obj.cells (Kq [Kv b.parent, Kv (WL b.epoch), Kv b.hash, Kv (WL b.time), (ItL.mk yl yb yp yxs)]).toArray 91 (0, 0)) :: yL) ++ [(r0, _)]) (E' := fun _ => ((qa, Obj.cells (Kq [Kv b.parent, Kv (WL b.epoch), Kv b.hash, Kv (WL b.time), (ItL.mk yl yb yp yxs)]).toArray 91 (0, 0)) :: yL) ++ [(r0, _)]) (O') (fun _ => O') O O O O O (enters_of Tryz.func36 m4 O) hre.toT (fun q hq => .inl (W' hq)) (fun x q hq => Y' hq) fun y => Jr (k := 18) O O O O O (fun _ hS => (Jw O)) (Gv ?_); refine KJ (JP 9 O (cD (fun g => ?_) fun g => ?_))
  refine HV fun w1 hs1 => ?_; rw [show yM b.er = ([], Ym (Yq b.er)) from by unfold yM; rw [if_neg m3, if_pos ma]]; rfl
  ·refine gw ?_; refine JO (n := 1) (sz := 1) (vs := [_]) (zs := [_]) (r := [bV 0]) O O O O O O O O O me O fun rb => LR O (VB (row := some (rb, 1, [])) (b := [0]) O ⟨rfl, rfl⟩ (fun q hq => by rw [U'.1 hq]; exact WF (k := 0) O) O O O) (gl ?_)
   refine LR O (Jcb O O (by split <;> simp <;> omega)) ?_; refine G4 ?_; refine Np fun w1 hs1 => ?_; rw [show yM b.er = (0 :: QP (Yq b.er), 0) from by unfold yM; rw [if_neg m3, if_neg m3]]; rw [if_neg m3]; rfl
def kp (e f : Int) : Int := if e = 0 then f else e
theorem Jf9 (e f : Int) (r5 : Nat) : PureT (α := Unit) prog 43 [.int .i64 f, Kj r5].toArray (fun _ => .tuple #[]) (eT r5 e) (fun _ => eT r5 (kp e f)) [] := by
 refine Jq Tryz.func43 O O fun w => MZ ?_; refine MS ?_; refine NQ ?_; refine cD (fun g => ?_) fun g => ?_
 refine NG ?_
 refine Nx ?_; refine JD 1 O (Gy fun w1 hs1 => ?_); exact ⟨(), rfl, (show St _ (eT r5 (kp e f)) _ _ by rw [show kp e f = f from if_pos ma]; exact hs1)⟩
 ·refine KF 1 O (Gy fun w1 hs1 => ?_); exact ⟨(), rfl, (show St _ (eT r5 (kp e f)) _ _ by rw [show kp e f = e from if_neg ma]; exact hs1)⟩
theorem Jpc {xs : List ItL} {p : Pl} {r6 r7 : Nat} (e : Int) (hs : Seg R xs.length (Kq xs) p) (hil : i < xs.length) (hx : xs.length ≤ 1000000) (hy : xs[i]? = some y) (h6 : (r6, Obj.cells #[Km xs.length p] 89 (0, 0)) ∈ R) (h7 : (r7, Obj.cells #[.func (.func 43) #[] #[Kj r5]] 104 (0, 0)) ∈ R) :
  PureT (α := Unit) prog 44 [.int .i64 (i : Int), Kj r6, Kj r7].toArray (fun _ => Jk (Js y.er 32 32).1) (eT r5 e) (fun _ => eT r5 (kp e (Js y.er 32 32).2)) R := by
 refine Jq Tryz.func44 O O fun w => Kl (DE ?_); refine LR O (Jc O (Or.inr h6) O O) (gl ?_)
 refine H6 ?_; refine Ju O O O Jft (WB (R := []) y 32 32) oN (MR ?_); refine gp ?_; refine LR O (Jc O (Or.inr h7) O O) (JI O (Jx (T := eT r5 e) (L0 := []) (Rl := []) (O') O O O Jx3 (Jf9 e (Js y.er 32 32).2 r5) oN fun _ => ?_)); change HL _ _ _ (eT r5 (kp e (Js y.er 32 32).2)) _ _ _ _; exact Gf
theorem Jpd {xs : List ItL} {p : Pl} {r6 r7 : Nat} (e : Int) (hs : Seg R xs.length (Kq xs) p) (hil : i < xs.length) (hx : xs.length ≤ 1000000) (hy : xs[i]? = some y) (h6 : (r6, Obj.cells #[Km xs.length p] 89 (0, 0)) ∈ R) (h7 : (r7, Obj.cells #[.func (.func 43) #[] #[Kj r5]] 104 (0, 0)) ∈ R) :
  PureT (α := Unit) prog 46 [.int .i64 (i : Int), Kj r6, Kj r7].toArray (fun _ => uV (Jf y.er).1) (eT r5 e) (fun _ => eT r5 (kp e (Jf y.er).2)) R := by
 refine Jq Tryz.func46 O O fun w => Kl (DE ?_); refine LR O (Jc O (Or.inr h6) O O) (gl ?_)
 refine H6 ?_; refine Ju O O O XQ (Kz (R := []) y) oN (MR ?_); refine gp ?_; refine LR O (Jc O (Or.inr h7) O O) (JI O (Jx (T := eT r5 e) (L0 := []) (Rl := []) (O') O O O Jx3 (Jf9 e (Jf y.er).2 r5) oN fun _ => ?_)); change HL _ _ _ (eT r5 (kp e (Jf y.er).2)) _ _ _ _; exact Gf
def ba0 : BaE := ⟨[], 0, [], 0, []⟩
def Jk1 (a b c d f : It) : BaE × Int := (⟨(Js a 32 32).1, (Jf b).1, (Js c 32 32).1, (Jf d).1, (Qi f 32 1 4096).1⟩, kp (kp (kp (kp (kp 0 (Js a 32 32).2) (Jf b).2) (Js c 32 32).2) (Jf d).2) (Qi f 32 1 4096).2)
def Jk2 (l : List It) : BaE × Int := Jk1 (l.getD 0 KE) (l.getD 1 KE) (l.getD 2 KE) (l.getD 3 KE) (l.getD 4 KE)
def X1 (s : BS) : BaE × Int := if s = [] then (ba0, 3) else if (s.getD 0 0).toNat ≠ 0 then (ba0, 9) else if (WM (s.drop 1)).2 ≠ 0 then (ba0, (WM (s.drop 1)).2) else
 if Ka (WM (s.drop 1)).1 5 5 ≠ 0 then (ba0, Ka (WM (s.drop 1)).1 5 5) else if (Jk2 (WM (s.drop 1)).1.xs).2 ≠ 0 then (ba0, (Jk2 (WM (s.drop 1)).1.xs).2) else ((Jk2 (WM (s.drop 1)).1.xs).1, 0)
theorem J2r {l : List α} (h : l.length = 5) : ∃ a b c d e, l = [a, b, c, d, e] := by
 match l, h with
 | [a, b, c, d, e], _ => exact ⟨a, b, c, d, e, rfl⟩
theorem Jk3 {n : Nat} (h : Ka it n n = 0) : it.xs.length = n := by
 unfold Ka WT at h
 (repeat' split at h)
 all_goals omega
structure BaR (e : BaE) where
  b : BaL
  L : J3
  inn : b.In L
  er : b.er = e
theorem Jt6 {b : BaE} (h : YO b = 0) (he : VL b.epoch) (ht : VL b.time) (hl : Ym (Yq b) = 0) : X1 (0 :: QP (Yq b)) = (b, 0) := by
 have hS := Jpa h
 have hle : (QP (Yq b)).length ≤ 65536 := by unfold Ym at hl; split at hl <;> omega
 have hu := J0s (Jpb hS he ht).2 hle
 have hd : (0 :: QP (Yq b)).drop 1 = QP (Yq b) := rfl
 have hG : Ka (Yq b) 5 5 = 0 := Jdy mf mf
 have h1 : Js (Q4 b.parent) 32 32 = (b.parent, 0) := je (by rw [hS.parent]; decide) (by rw [hS.parent]; decide)
 have h2 : Js (Q4 b.hash) 32 32 = (b.hash, 0) := je (by rw [hS.hash]; decide) (by rw [hS.hash]; decide)
 have h3 : Qi (WS b.txs) 32 1 4096 = (b.txs, 0) := Jk0 (by have := hS.len; omega) fun s hs => by have := hS.txs s hs; omega
 have hF : Jk2 (Yq b).xs = (b, 0) := by
  show Jk1 (Q4 b.parent) (Yk b.epoch) (Q4 b.hash) (Yk b.time) (WS b.txs) = _
  unfold Jk1
  rw [h1, h2, h3, Jiu he, Jiu ht]; rfl
 unfold X1
 rw [hd, hu, if_neg mf, if_neg mf, if_neg mf, if_neg (by simp only [hG]; simp), hF, if_neg mf]
theorem V3 (a b c : α) (Z : List α) : (a :: b :: c :: Z).Perm (c :: a :: b :: Z) := ((List.Perm.swap c b Z).cons a).trans (List.Perm.swap c a (b :: Z))
def Jpf (L : J3) : { x : BaR ba0 // x.L = [] ∧ x.b.val = .agg #[Jk [], uV 0, Jk [], uV 0, .slice none 0 0] } := ⟨⟨⟨[], 0, [], 0, none, []⟩, [], ⟨by simp, Seg.nil⟩, rfl⟩, rfl, rfl⟩
theorem XG {t : ItL} (h : t.In R) : Seg R t.xs.length (Kq t.xs) t.p := h.seg
theorem Jga (t : ItL) (m lo hi : Int) : (Qi t.er m lo hi).1.length ≤ t.xs.length := by
 unfold Qi
 split
 ·simp
 ·split
  ·simp
  ·rw [ItL.er_xs]; simp
theorem Jyl (hs : s.length ≤ 1000000000) : PureT (α := BaR (X1 s).1) prog 11 [Jk s].toArray (fun y => .tuple #[y.b.val, .int .i64 (X1 s).2]) [] (fun y => y.L) [] := by
 refine Jq Tryz.func11 O O fun w => DI fun r2 => ?_; refine J5 8 O (Hs ?_); refine NQ ?_; refine cD (fun g => ?_) fun g => ?_
 refine NG ?_; refine DT ?_
 refine GX ?_; refine JD 6 O ?_
 (refine Jh O O (.cons (Jj (vs := [Jk [], uV 0, Jk [], uV 0, .slice none 0 0]) O (kn 0 O) O O) (.cons (Jg O) .nil)) (fun w1 hs1 => ?_)
  have hU : X1 s = (ba0, 3) := by unfold X1; rw [if_pos ma]
  rw [hU]
  exact ⟨(Jpf []).1, rfl, hs1.weakL (S')⟩)
 ·refine Dz ?_
  have hpos : 0 < s.length := List.length_pos_iff.2 ma
  refine NG ?_; refine Nv ?_; refine G5 ?_; refine cD (fun g => ?_) fun g => ?_
  refine NG ?_; refine DT ?_
  refine GX ?_; refine JD 6 O ?_
  (refine Jh O O (.cons (Jj (vs := [Jk [], uV 0, Jk [], uV 0, .slice none 0 0]) O (kn 0 O) O O) (.cons (Jg O) .nil)) (fun w1 hs1 => ?_)
   have hU : X1 s = (ba0, 9) := by unfold X1; rw [if_neg ma, if_pos m3]
   rw [hU]
   exact ⟨(Jpf []).1, rfl, hs1.weakL (S')⟩)
  ·refine Hq ?_; refine LR O (Kt (kl := some (.i64, 1)) (kh := none) (m := 1) (n := s.length) O O O O O O hpos (Lc') n9) (KA O O O Jac (Vr (s := s.drop 1) nX) oN fun y => ?_)
   obtain ⟨yx, yL, yin, yer⟩ := y
   refine gc ?_; change HL _ _ _ ((r2, _) :: yL) _ _ _ _; refine MR ?_; refine LN O fun r4 => LN O fun r5 => Je (k := 1) (n := 3) (ys := yx.cells) O O O O O (ItL.len _) O (ItL.one _) O ?_
   refine Nx ?_; refine kB ?_; refine MS ?_; refine NQ ?_; refine cD (fun g => ?_) fun g => ?_
   refine Dz ?_; refine Kk [(r5, .cells #[.int .i64 (WM (s.drop 1)).2] 43 (0, 0))] [(0, .pure), (1, .pure), (2, .turn), (3, .pure)] 4 [0, 1, 2, 3] m4 m4 (fun p hp => by rw [U'.1 hp]; exact N') (Ht ?_); refine KV (k := 2) (q := 2) (n := 5) (ys := [_, _, _, _, _]) O O O O O O O O O O O (fun p hp => by rw [U'.1 hp]; exact N') (Jr (k := 3) O O O O O (fun _ hS => (J7 O)) (KJ ?_)); refine gA ?_
   (refine Jh O O (.cons (Jj (vs := [Jk [], uV 0, Jk [], uV 0, .slice none 0 0]) O (kn 2 O) O O) (.cons (Jg O) .nil)) (fun w1 hs1 => ?_)
    have hU : X1 s = (ba0, (WM (s.drop 1)).2) := by unfold X1; rw [if_neg ma, if_neg m3, if_pos ma]
    rw [hU]
    exact ⟨(Jpf []).1, rfl, hs1.weakL (S')⟩)
   ·refine gw ?_; refine LR O (Ji (xs := yx.cells) (n := 3) O (kn 1 O) O O (ItL.len _)) (Ju O O O vh (Wi yin 5 5) (fun q hq => Or.inl (M' (M' (M' hq)))) (MR ?_)); refine LN O fun r6 => ?_
    refine Jm (k := 0) (cs' := #[if Ka yx.er 5 5 = 0 then Km yx.xs.length yx.p else .slice none 0 0]) O O O O O (by split <;> rfl) O O O O ?_
    refine kQ ?_; refine kB ?_; refine MY ?_; refine NQ ?_; refine cD (fun g => ?_) fun g => ?_
    refine Dz ?_; refine Kk [(r5, .cells #[.int .i64 (Ka yx.er 5 5)] 43 (0, 0))] [(0, .pure), (1, .pure), (2, .turn), (3, .pure)] 4 [0, 1, 2, 3] m4 m4 (fun p hp => by rw [U'.1 hp]; exact (M' N')) (Ht ?_); refine KV (k := 2) (q := 3) (n := 5) (ys := [_, _, _, _, _]) O O O O O O O O O O O (fun p hp => by rw [U'.1 hp]; exact (M' N')) (Jr (k := 3) O O O O O (fun _ hS => (J7 O)) (KJ ?_)); refine gA ?_
    (refine Jh O O (.cons (Jj (vs := [Jk [], uV 0, Jk [], uV 0, .slice none 0 0]) O (kn 3 O) O O) (.cons (Jg O) .nil)) (fun w1 hs1 => ?_)
     have hU : X1 s = (ba0, Ka yx.er 5 5) := by unfold X1; rw [if_neg ma, if_neg m3, if_neg m3, ← yer, if_pos ma]
     rw [hU]
     exact ⟨(Jpf []).1, rfl, hs1.weakL (S')⟩)
    ·refine D5 ?_
     have hG : Ka yx.er 5 5 = 0 := by omega
     rw [if_pos hG, hG]
     have hl5 : yx.xs.length = 5 := by have h := Jk3 (n := 5) hG; rw [ItL.er_xs, D'] at h; exact h
     obtain ⟨y0, y1, y2, y3, y4, hx5⟩ := J2r hl5
     have hsg := XG yin
     refine HI ?_; refine NR ?_; refine LN O fun r7 => ?_
     refine Nx ?_; refine kV ?_; refine NR ?_; refine kB ?_; refine NR ?_; refine G5 ?_; refine jD (V3 _ _ _ _) ?_; change HC _ _ _ ((r5, .cells #[.int .i64 0] 43 (0, 0)) :: (r7, _) :: (r6, _) :: (r4, _) :: (r2, _) :: yL) _ _ _; refine NG ?_; refine Jx (T := eT r5 0) (O') O O O (enters_of Tryz.func44 m4 O) (Jpc 0 (XG (yin.mono (R' := _ :: _ ::  _ :: _ :: yL) (fun q hq => (M' (M' (M' (M' hq))))))) (i := 0) m3 m3 MO (M' N') N') (fun q hq => .inl hq) fun _ => gl ?_; refine Jx (T := eT r5 (kp 0 (Js y0.er 32 32).2)) (O') O O O (enters_of Tryz.func46 m4 O) (Jpd (kp 0 (Js y0.er 32 32).2) (XG (yin.mono (R' := _ :: _ ::  _ :: _ :: yL) (fun q hq => (M' (M' (M' (M' hq))))))) (i := 1) m3 m3 MO (M' N') N') (fun q hq => .inl hq) fun _ => DT ?_; refine LN O fun r10 => ?_
     refine GX ?_; refine kV ?_; refine JY (P') ?_; change HL _ _ _ ((r5, .cells #[.int .i64 (kp (kp 0 (Js y0.er 32 32).2) (Jf y1.er).2)] 43 (0, 0)) :: (r10, _) :: (r7, _) :: (r6, _) :: (r4, _) :: (r2, _) :: yL) _ _ _ _; refine gl ?_; refine Jx (T := eT r5 (kp (kp 0 (Js y0.er 32 32).2) (Jf y1.er).2)) (O') O O O (enters_of Tryz.func44 m4 O) (Jpc (kp (kp 0 (Js y0.er 32 32).2) (Jf y1.er).2) (XG (yin.mono (R' := _ :: _ :: _ :: _ :: _ :: yL) (fun q hq => (M' (M' (M' (M' (M' hq)))))))) (i := 2) m3 m3 MO (M' (M' N')) (M' N')) (fun q hq => .inl hq) fun _ => gl ?_; refine Jx (T := eT r5 (kp (kp (kp 0 (Js y0.er 32 32).2) (Jf y1.er).2) (Js y2.er 32 32).2)) (O') O O O (enters_of Tryz.func46 m4 O) (Jpd (kp (kp (kp 0 (Js y0.er 32 32).2) (Jf y1.er).2) (Js y2.er 32 32).2) (XG (yin.mono (R' := _ :: _ :: _ :: _ :: _ :: yL) (fun q hq => (M' (M' (M' (M' (M' hq)))))))) (i := 3) m3 m3 MO (M' (M' N')) (M' N')) (fun q hq => .inl hq) fun _ => ?_
     refine MP ?_
     refine kQ ?_
     refine MP ?_
     refine kQ ?_; refine kV ?_; refine EU ?_
     refine LR O (JG (j := 4) O hsg O O O mg m3) (LR O (Ky ItL.len (fun q hq => Or.inl ((M' (M' (M' (M' (M' (M' hq)))))))) O hsg (show yx.xs[4]? = some y4 by rw [hx5]; rfl) rfl rfl) (KA rfl rfl rfl (enters_of Tryz.func48 m4 rfl) (Jf8 (t := y4) (yin.sub y4 (by rw [hx5]; simp)) 32 1 4096) (fun q hq => .inl (M' (M' (M' (M' (M' (M' hq))))))) fun y => ?_))
     obtain ⟨row, hrow⟩ := y
     refine gc ?_; change HL _ _ _ ((r5, .cells #[.int .i64 (kp (kp (kp (kp 0 (Js y0.er 32 32).2) (Jf y1.er).2) (Js y2.er 32 32).2) (Jf y3.er).2)] 43 (0, 0)) :: (r10, _) :: (r7, _) :: (r6, _) :: (r4, _) :: (r2, _) :: (yL ++ J9 9 ((Qi y4.er 32 1 4096).1.map Jk) row)) _ _ _ _; refine MR ?_; refine gp ?_; refine kI ?_; refine JI O (Jx (T := eT r5 (kp (kp (kp (kp 0 (Js y0.er 32 32).2) (Jf y1.er).2) (Js y2.er 32 32).2) (Jf y3.er).2)) (O') O O O Jx3 (Jf9 (kp (kp (kp (kp 0 (Js y0.er 32 32).2) (Jf y1.er).2) (Js y2.er 32 32).2) (Jf y3.er).2) (Qi y4.er 32 1 4096).2 r5) oN fun _ => (J5 5 O ?_)); refine MS ?_; refine NQ ?_; refine cD (fun g => ?_) fun g => ?_
     refine Dz ?_; refine Kk [(r5, .cells #[.int .i64 (kp (kp (kp (kp (kp 0 (Js y0.er 32 32).2) (Jf y1.er).2) (Js y2.er 32 32).2) (Jf y3.er).2) (Qi y4.er 32 1 4096).2)] 43 (0, 0))] [(0, .pure), (1, .pure), (2, .turn), (3, .pure)] 4 [0, 1, 2, 3] m4 m4 (fun p hp => by rw [U'.1 hp]; exact N') (Ht ?_); refine KV (k := 2) (q := 5) (n := 5) (ys := [_, _, _, _, _]) O O O O O O O O O O O (fun p hp => by rw [U'.1 hp]; exact N') (Jr (k := 3) O O O O O (fun _ hS => (J7 O)) (KJ ?_)); refine gA ?_
     (refine Jh O O (.cons (Jj (vs := [Jk [], uV 0, Jk [], uV 0, .slice none 0 0]) O (kn 5 O) O O) (.cons (Jg O) .nil)) (fun w1 hs1 => ?_)
      have hU : X1 s = (ba0, (kp (kp (kp (kp (kp 0 (Js y0.er 32 32).2) (Jf y1.er).2) (Js y2.er 32 32).2) (Jf y3.er).2) (Qi y4.er 32 1 4096).2)) := by unfold X1; rw [if_neg ma, if_neg m3, if_neg m3, ← yer, if_neg m3, show Jk2 yx.er.xs = Jk1 y0.er y1.er y2.er y3.er y4.er from by rw [ItL.er_xs, hx5]; rfl]; exact if_pos ma
      rw [hU]
      exact ⟨(Jpf []).1, rfl, hs1.weakL (S')⟩)
     ·refine gx ?_
      refine MP ?_
      refine Jm (k := 1) (cs' := #[Jk (Js y0.er 32 32).1, uV (Jf y1.er).1, Jk (Js y2.er 32 32).1, uV (Jf y3.er).1, JV (Qi y4.er 32 1 4096).1.length row]) O O O O O Me O O O O (kV ?_); refine LR O (Ji (xs := [Jk (Js y0.er 32 32).1, uV (Jf y1.er).1, Jk (Js y2.er 32 32).1, uV (Jf y3.er).1, JV (Qi y4.er 32 1 4096).1.length row]) (n := 5) O (kn 1 O) O O O) ?_
      refine Je (k := 5) (n := 5) (ys := [Jk (Js y0.er 32 32).1, uV (Jf y1.er).1, Jk (Js y2.er 32 32).1, uV (Jf y3.er).1, JV (Qi y4.er 32 1 4096).1.length row]) O O O O O O O Me O (gA ?_)
      (refine Jh O O (.cons (Jj (vs := [Jk (Js y0.er 32 32).1, uV (Jf y1.er).1, Jk (Js y2.er 32 32).1, uV (Jf y3.er).1, JV (Qi y4.er 32 1 4096).1.length row]) O (kn 5 O) O O) (.cons (Jg O) .nil)) (fun w1 hs1 => ?_)
       have hU : X1 s = ((Jk1 y0.er y1.er y2.er y3.er y4.er).1, 0) := by unfold X1; rw [if_neg ma, if_neg m3, if_neg m3, ← yer, if_neg m3, show Jk2 yx.er.xs = Jk1 y0.er y1.er y2.er y3.er y4.er from by rw [ItL.er_xs, hx5]; rfl]; exact if_neg (by show ¬ (kp (kp (kp (kp (kp 0 (Js y0.er 32 32).2) (Jf y1.er).2) (Js y2.er 32 32).2) (Jf y3.er).2) (Qi y4.er 32 1 4096).2) ≠ 0; omega)
       rw [hU]
       exact ⟨⟨⟨_, _, _, _, Ke row, (Qi y4.er 32 1 4096).1⟩, J9 9 ((Qi y4.er 32 1 4096).1.map Jk) row, ⟨(Lb' (Jga _ _ _ _) (by have := (yin.sub y4 (by rw [hx5]; simp)).hl; omega)), Ks (e := 9) hrow m7⟩, rfl⟩, congrArg (fun z => Ending.returned (Value.tuple #[.agg #[Jk (Js y0.er 32 32).1, uV (Jf y1.er).1, Jk (Js y2.er 32 32).1, uV (Jf y3.er).1, z], .int .i64 0])) (KK hrow), hs1.weakL (.cons _ (.cons _ (.cons _ (.cons _ (.cons _ (.cons _ (List.sublist_append_right _ _)))))))⟩)
def Jdz (c : Nat) : List TxE → Int
 | [] => 0
 | t :: r => if t.kind < 0 ∨ t.kind > 2 then 9 else if X0 t ≠ 0 then X0 t else if t.chain ≠ c ∧ (t.kind ≠ 0 ∨ t.chain ≠ 0) then 2 else Jdz c r
def YW (c : Nat) (l : List TxE) : Int := if c = 0 ∨ 4611686018427387904 < c then 1 else if 512 < l.length then 5 else Jdz c l
theorem vH {xs : List TxL} {y : TxL} (h : xs[i]? = some y) : (xs.drop i).map TxL.er = y.er :: (xs.drop (i + 1)).map TxL.er := by
 obtain ⟨hl, he⟩ := La'.1 h
 rw [List.drop_eq_getElem_cons hl, he, List.map_cons]
theorem Jgb {xs : List TxL} {p : Pl} {c : Nat} (hl : xs.length ≤ 9223372036854775807) (hs : Seg R xs.length (Qv xs) p) (hin : ∀ x ∈ xs, x.In R) :
    PureR prog 31 [Km xs.length p, uV c].toArray (.int .i64 (YW c (xs.map TxL.er))) R := by
  refine J1 Tryz.func31 O O fun w => Kl (Jv 12 O ?_)
  refine J8 11 O (fun gb => ?_) (fun gb => ?_) <;> (try simp only [ZZ] at gb) <;> first | (refine JI O ?_) | (refine LK O ?_)
  all_goals refine MQ ?_
  all_goals (
   refine kW ?_; refine Jl O (fun g => ?_) (fun g => ?_)
   try simp only [ZZ] at g
   refine EK fun w1 hs1 => ?_; rw [show YW c (xs.map TxL.er) = 1 from by unfold YW; exact if_pos m3]; rfl
   · try exact Bool.noConfusion g
     all_goals try simp only [ZZ] at g
     all_goals (
      refine gz ?_; refine No ?_; refine cD (fun g => ?_) fun g => ?_
      refine EK fun w1 hs1 => ?_; rw [show YW c (xs.map TxL.er) = 5 from by unfold YW; rw [if_neg m3, if_pos mM]]; rfl
      · refine DE ?_; refine No ?_; refine JQ (σ := Nat) (fun i => i ≤ xs.length ∧ Jdz c (xs.map TxL.er) = Jdz c ((xs.drop i).map TxL.er)) (fun i => [(1, uV c), (19, Km xs.length p), (20, .int .i64 (xs.length : Int)), (21, .int .i64 (i : Int))]) (fun _ => []) (fun _ _ _ => True) (fun i => xs.length - i) 0 ⟨by omega, rfl⟩ (lK rfl) (S') (fun _ _ h => h) ?_; rintro i ⟨hi1, hdr⟩; refine gv ?_; refine cD (fun g => ?_) fun g => ?_
        · refine Hu ?_
          obtain ⟨y, hy, hmy⟩ := Vh mz
          refine HI ?_
          refine Nq ?_; refine LR O (Ky TxL.len oR O hs hy O O) (LN O fun r6 => Je (k := 0) (n := 36) (ys := y.cells) O O O O O O O O O (kB ?_))
          refine N5 ?_; refine gu ?_
          refine J8 28 O (fun gb => ?_) (fun gb => ?_) <;> (try simp only [ZZ] at gb) <;> first | (refine LR O (Ja O O m0) ?_) | (refine LK O ?_)
          all_goals refine Nh ?_
          all_goals refine MQ ?_
          all_goals (
           refine kN ?_; refine Jl O (fun g => ?_) (fun g => ?_)
           try simp only [ZZ] at g
           refine KF 12 O (MW fun w1 hs1 => ?_); rw [show YW c (xs.map TxL.er) = 9 from by unfold YW; rw [if_neg m3, if_neg mM, hdr, vH hy, Jdz, if_pos (by show y.kind < 0 ∨ y.kind > 2; omega)]]; rfl
           · try exact Bool.noConfusion g
             all_goals try simp only [ZZ] at g
             all_goals (
              refine gx ?_; refine LR O (Ji (xs := y.cells) (n := 36) O (kn 0 O) O O O) (Ju O O O Jnh (zX (hin y hmy) (show Yn y.kind by unfold Yn; omega)) oR (JP 9 rfl (cD (fun g => ?_) fun g => ?_)))
              refine KF 13 O (MW fun w1 hs1 => ?_); rw [show YW c (xs.map TxL.er) = X0 y.er from by unfold YW; rw [if_neg m3, if_neg mM, hdr, vH hy, Jdz, if_neg Ma, if_pos ma]]; rfl
              · refine DK ?_; refine J5 3 O ?_
                refine J8 42 O (fun gb => ?_) (fun gb => ?_) <;> (try simp only [ZZ] at gb) <;> first | (refine LR O (Ja O O m0) ?_) | (refine LK O ?_)
                all_goals refine Nh ?_
                all_goals first | refine KC O ?_ | refine LK O ?_
                all_goals refine Ns ?_
                all_goals first | refine LK O ?_ | (refine J8 46 O (fun gb => ?_) (fun gb => ?_) <;> (try simp only [ZZ] at gb) <;> first | (refine LR O (Ja O O m0) ?_) | (refine LK O ?_))
                all_goals refine Nh ?_
                all_goals refine Gr ?_
                all_goals (
                 refine kN ?_; refine Jl O (fun g => ?_) (fun g => ?_)
                 · try exact Bool.noConfusion g
                   all_goals try simp only [ZZ] at g
                   all_goals (
                    refine KF 11 O (MW fun w1 hs1 => ?_); rw [show YW c (xs.map TxL.er) = 2 from by unfold YW; rw [if_neg m3, if_neg mM, hdr, vH hy, Jdz, if_neg Ma, if_neg m3, if_pos (by show y.chain ≠ c ∧ (y.kind ≠ 0 ∨ y.chain ≠ 0); omega)]]; rfl
                    skip)
                 · try exact Bool.noConfusion g
                   all_goals try simp only [ZZ] at g
                   all_goals (
                    refine gx ?_; refine gK ?_; exact JL (i + 1) ⟨by omega, by rw [hdr, vH hy, Jdz, if_neg Ma, if_neg m3, if_neg (by show ¬ (y.chain ≠ c ∧ (y.kind ≠ 0 ∨ y.chain ≠ 0)); omega)]⟩ m3 (lK rfl) (S') (fun _ _ h => h)
                    skip)
                 skip)
              skip)
           skip)
        refine KF 11 O (MW fun w1 hs1 => ?_); rw [show YW c (xs.map TxL.er) = 0 from by unfold YW; rw [if_neg m3, if_neg mM, hdr, show i = xs.length by omega, List.drop_length]; rfl]; rfl
      skip)
   skip)
structure BlL where
  origin : Bool
  p : Pl
  txs : List TxL
def BlL.cells (b : BlL) : List Value := [.bool b.origin, Km b.txs.length b.p]
theorem BlL.len (b : BlL) : b.cells.length = 2 := rfl
structure BlL.In (R : J3) (b : BlL) : Prop where
  len : b.txs.length ≤ 9223372036854775807
  seg : Seg R b.txs.length (Qv b.txs) b.p
  txs : ∀ t ∈ b.txs, t.In R
theorem BlL.In.mono (hs : ∀ q ∈ R, q ∈ R') {b : BlL} (h : b.In R) : b.In R' := ⟨h.len, h.seg.mono hs, fun t ht => (h.txs t ht).mono hs⟩
structure SpL where
  time : Nat
  epoch : Nat
  parent : BS
  hash : BS
  p : Pl
  blocks : List BlL
def qy (l : List BlL) : List Value := l.flatMap BlL.cells
def SpL.cells (s : SpL) : List Value := [uV s.time, uV s.epoch, Jk s.parent, Jk s.hash, Km s.blocks.length s.p]
def SpL.val (s : SpL) : Value := .agg s.cells.toArray
structure SpL.In (R : J3) (s : SpL) : Prop where
  time : VL s.time
  epoch : VL s.epoch
  parent : s.parent.length ≤ 9223372036854775807
  hash : s.hash.length ≤ 9223372036854775807
  len : s.blocks.length ≤ 9223372036854775807
  seg : Seg R s.blocks.length (qy s.blocks) s.p
  blocks : ∀ b ∈ s.blocks, b.In R
theorem SpL.In.mono {s : SpL} (h : s.In R) (hs : ∀ q ∈ R, q ∈ R') : s.In R' := ⟨h.time, h.epoch, h.parent, h.hash, h.len, h.seg.mono hs, fun b hb => (h.blocks b hb).mono hs⟩
def tx0L : TxL := ⟨0, 0, 0, w40, w40, 0, [], w40, [], none, [], none, [], 0, w40, w40, [], [], w40, false⟩
theorem u0 : VL 0 := by show (0 : Nat) < 18446744073709551616; decide
theorem Jar : tx0L.In R where
 ok := ⟨u0, u0, w40_ok, w40_ok, u0, w40_ok, (fun a h => nomatch h), u0, w40_ok, w40_ok, w40_ok⟩
 dest := by decide
 data := by decide
 source := by decide
 from_ := by decide
 accL := by decide
 accS := Seg.nil
 acc := fun _ h => nomatch h
 auL := by decide
 auS := Seg.nil
 au := fun _ h => nomatch h
theorem KT {a b : Bool} (h : a = b) : Value.bool a = Value.bool b := by rw [h]
def JU (sz a : Nat) : Pl → Pl
 | none => none
 | some (q, cap) => some (if cap = a then q else q.add (a * sz), cap - a)
section
variable {c : Cx} {l : KY} {L : J3} {X : XP} {d : List Deferred} {i : Nat} {t : TypeId} {ps : String} {af : Array Edge} {gd : Option (Nat × Bool)} {ty : TypeId}
theorem WC {x : Operand} {lo hi : Option Operand} {kl kh : Option Nat} {p : Pl} {n e b m : Nat} (hx : KU l x = some (Km n p)) (hs : Seg R n cs p) (ht : Q5 c.P t = some e) (hsz : Q9 c.P e = some sz)
  (hl : wj l lo kl) (hh : wj l hi kh) (e1 : kl.getD 0 = a) (e2 : kh.getD n = b) (hab : a ≤ b) (hb : b ≤ n) (hm : b - a = m) :
  Kg c d l L X ⟨some i, .slice t x lo hi none, ty, ps, af, gd⟩ (Km m (JU sz a p)) := fun a' w hf _ => by
 have ex := hf.eval hx
 subst e1 e2 hm
 have low : ∀ {o : Option Operand} {k : Option Nat}, wj l o k → (o.map a'.eval = none ∧ k = none) ∨ (∃ y n, o.map a'.eval = some (.int y ((n : Nat) : Int)) ∧ k = some n) := by
  intro o k h
  cases o with
  | none => cases k with
   | none => exact .inl ⟨rfl, rfl⟩
   | some k => exact h.elim
  | some o => cases k with
   | none => exact h.elim
   | some k => obtain ⟨y, hy⟩ := h; exact .inr ⟨y, k, by simp [hf.eval hy], rfl⟩
 simp only [execOp, ex]
 cases p with
 | none =>
  have hn : n = 0 := hs
  subst hn
  rcases low hl with ⟨f1, rfl⟩ | ⟨y1, n1, f1, rfl⟩ <;> rcases low hh with ⟨f2, rfl⟩ | ⟨y2, n2, f2, rfl⟩ <;> simp only [Option.getD_none, Option.getD_some, Nat.le_zero] at hab hb ⊢ <;> (try subst hb) <;> (try simp only [Nat.le_zero] at hab) <;> (try subst hab) <;> rw [f1, f2] <;>
   simp [Km, JU, plA, plC, Instr.sliceAt, Instr.slice, Sem.run_bind, Q6 (Qg ht), Vz hsz, Result.andThen, Instr.sliceBounds, Instr.sliceBound, asIntOf]
 | some q =>
  obtain ⟨q, cap⟩ := q
  have hc : n ≤ cap := hs.1
  rcases low hl with ⟨f1, rfl⟩ | ⟨y1, n1, f1, rfl⟩ <;> rcases low hh with ⟨f2, rfl⟩ | ⟨y2, n2, f2, rfl⟩ <;> simp only [Option.getD_none, Option.getD_some] at hab hb ⊢ <;> rw [f1, f2] <;>
   simp [Km, JU, plA, plC, Instr.sliceAt, Instr.slice, Sem.run_bind, Q6 (Qg ht), Vz hsz, Result.andThen, Instr.sliceBounds, Instr.sliceBound, asIntOf, hab, hb, hc, Lb' hb hc, Lb' hab hb, Lb' (Lb' hab hb) hc] <;> split <;> rfl
end
theorem jf  {n b : Nat} {p : Pl} (h : Seg R n cs p) (hl : cs.length = n * sz) (hab : a ≤ b) (hb : b ≤ n) : Seg R (b - a) ((cs.drop (a * sz)).take ((b - a) * sz)) (JU sz a p) := by
 cases p with
 | none => have h : n = 0 := h; show b - a = 0; omega
 | some q =>
  obtain ⟨⟨r, o, s⟩, cap⟩ := q
  obtain ⟨h1, h2⟩ := h
  refine ⟨by show b - a ≤ cap - a; omega, fun h0 => ?_⟩
  obtain ⟨h3, all, e, fr, h4, h5⟩ := h2 m3
  have h3 : s = none := h3
  subst h3
  have hne : ¬ cap = a := by omega
  have hlen : ((cs.drop (a * sz)).take ((b - a) * sz)).length = (b - a) * sz := by
   exact Dp
  simp only [if_neg hne, WJ]; refine ⟨trivial, all, e, fr, h4, ?_⟩; rw [hlen]; exact wk h5 O hlen
def QE (q n : Nat) (p : Pl) : J3 := [(q, .cells #[Km n p] 211 (0, 0))]
theorem Jd {r : List ItL} {p : Pl} (hs : Seg R (y :: r).length (Kq (y :: r)) p) : Seg R r.length (Kq r) (JU 3 1 p) := by
 have h := jf hs (Jig _) (Nat.le_add_left 1 r.length) (Lc')
 simp only [Nat.add_sub_cancel] at h
 have e : ((Kq (y :: r)).drop (1 * 3)).take (r.length * 3) = Kq r := by
  have e1 : Kq (y :: r) = y.cells ++ Kq r := rfl
  rw [e1, Nat.one_mul, List.drop_left' (ItL.len y), ← Jig, List.take_length]
 rw [e] at h; exact h
theorem jg {r : List ItL} {p : Pl} (hs : Seg R (y :: r).length (Kq (y :: r)) p) (hl : (y :: r).length ≤ 1000000) :
  PureT (α := Unit) prog 205 [Kj q].toArray (fun _ => y.val) (QE q (y :: r).length p) (fun _ => QE q r.length (JU 3 1 p)) R := by
 refine Jq Tryz.func205 O O fun w => DI fun r2 => ?_; refine gp ?_
 refine Gb ?_
 refine gG fun r3 => ?_; refine Ec ?_; refine kI ?_; refine G6 ?_; refine Ho ?_; exact Dv
def YR (r n : Nat) : Nat × Obj := (r, .cells #[.int .i64 (n : Int)] 3 (0, 0))
theorem jM (n : Nat) : PureE (α := Nat) prog 119 [.int .i64 (n : Int)].toArray (fun r => .func (.func 206) #[] #[Kj r]) (fun r => [YR r n]) := by
 refine Qm Tryz.func119 O O fun w => ?_; exact gF
def yB (r ty : Nat) (f : FuncId) : Nat × Obj := (r, .cells #[.func (.func f) #[] #[]] ty (0, 0))
theorem Jt7 (n : Nat) (f : FuncId) : PureE (α := Nat × Nat) prog 213 [.int .i64 (n : Int), .func (.func f) #[] #[]].toArray (fun z => .func (.func 245) #[] #[Kj z.1, Kj z.2]) (fun z => [yB z.2 196 f, YR z.1 n]) := by
 refine Qm Tryz.func213 O O fun w => ?_; exact gV
theorem Jas (n : Nat) (f : FuncId) : PureE (α := Nat × Nat) prog 128 [.int .i64 (n : Int), .func (.func f) #[] #[]].toArray (fun z => .func (.func 211) #[] #[Kj z.1, Kj z.2]) (fun z => [yB z.2 222 f, YR z.1 n]) := by
 refine Qm Tryz.func128 O O fun w => ?_; exact gV
structure AxN (a : AxE) where
  x : AxL
  L : J3
  inn : x.In L
  er : x.er = a
structure AxsN (l : List AxE) where
  ys : List AxL
  row : QZ
  L : J3
  ok : rowOk 2 ys.length (V2 ys) row
  hr : ∀ q ∈ J9 175 (V2 ys) row, q ∈ L
  hx : ∀ a ∈ ys, a.In L
  er : ys.map AxL.er = l
structure AccS (l : List AxE) (i : Nat) (row : QZ) (ys : List AxL) (F : J3) : Prop where
  le : i ≤ l.length
  ok : rowOk 2 i (V2 ys) row
  len : ys.length = i
  er : ys.map AxL.er = l.take i
  inn : ∀ a ∈ ys, a.In F
theorem Jt8 [DecidableEq α] (b c : α) (Z P F : List α) : (b :: (Z ++ (c :: (P ++ F)))).Perm (P ++ (b :: c :: (Z ++ F))) := by
 exact EL
theorem Jt9 [DecidableEq α] (a b c : α) (Z : List α) : (a :: b :: c :: Z).Perm (a :: (Z ++ [b, c])) := by
 exact DL
theorem Jd0 (a b : List AxL) : V2 (a ++ b) = V2 a ++ V2 b := by unfold V2; rw [List.flatMap_append]
structure TxN (t : TxE) where
  x : TxL
  L : J3
  inn : ({ x with kind := t.kind } : TxL).In L
  er : ({ x with kind := t.kind } : TxL).er = t
theorem Jua (r2 r3 : Nat) (w : World) : CallsDIn (FW none) 0 prog 49 [Kj r2, Kj r3].toArray .returning w (fun e u' w' => (∃ x, e = .returned x) ∧ settle u' = .returning ∧ Keep [] w w') := by
 refine Wr (yz prog w [] [] Tryz.f49.ntmps) Tryz.func49 O O O O (L := []) (X := fun _ _ => True) (St.startT (fun p hp => nomatch hp) (fun p hp => nomatch hp) List.Pairwise.nil (fun p hp => nomatch hp)) fun c₀ cs hu => ?_
 obtain ⟨hrv, hrc⟩ := Jc1 (cs := cs) hu
 refine vB fun K hK => Y7 (Ny fun r2 => ?_); refine GR ?_; clear hK K; refine sR fun _ hK1 => gl ?_; refine nK hK1 (Jl O (fun g => ?_) (fun g => ?_))
 try exact Bool.noConfusion g
 ·try simp only [ZZ] at g
  refine xr (Yg (u' := .returning) O O O .nil (fun w1 hs1 => ?_)); refine ⟨⟨_, rfl⟩, rfl, by have := hs1.keep; simpa [yz] using this⟩
section
variable {c : Cx} {l : KY} {L : J3} {X : XP} {d : List Deferred} {fn : Func} {R : Ending → World → Prop}
theorem Zz {r3 : Nat} (hP : c.P = prog) (h : HQ c d l L X (bodyPostM (FW none) 0 prog fn R .ret)) : HQ c (dF 49 [Kj r2, Kj r3] :: d) l L X (bodyPostM (FW none) 0 prog fn R .ret) :=
 Jfr (enters_of Tryz.func49 m4 rfl) (fun w hs => CallsDIn.mono (Jua r2 r3 w) fun _ _ _ ⟨h1, h2, h3⟩ => ⟨h1, h2, St.turnT (T := []) (LL := []) (L0 := L) hs h3 (fun p hp => nomatch hp) List.Pairwise.nil⟩) h
end
structure TxR (t : TxE) where
  x : TxL
  L : J3
  inn : x.In L
  er : x.er = t
theorem Jpg {v : UInt8} (hb : bOk s row) (hl : s.length + 1 ≤ 1000000) :
  PureT (α := { x : QZ // bOk (s ++ [v]) x }) prog 81 [Kj r, bV v].toArray (fun _ => .nilIface) (VF r s row own) (fun x => VF r (s ++ [v]) x.1 true) [] := by
 have hrow := hb.1
 refine Jq Tryz.func81 O O fun w => Kl ?_
 unfold VF
 refine Jv 8 O (GB fun u => ?_); refine gl ?_; refine JO (n := 1) (sz := 1) (vs := [_]) (zs := [_]) (r := [bV v]) O O O O O O O O O me O fun rb => Kw (L0 := [(rb, _), (r, .cells #[pB true r, JV s.length row] 154 (0, 0))]) (xs := s.map bV) (row := row) (n := s.length) (sz := 1) (b := 1) (news := [bV v]) (B' (l₁ := [_, _])) O O O O (kn 0 O) O O O O O m7 O O O m7 hrow m3 m3 fun ra cap sp hra => JY (V3 _ _ _ []) (Ho ?_); refine Jm (k := 0) (cs' := #[pB true r, JV (s ++ [v]).length (some (ra, cap, sp))]) O O O O O O O O (by rw [C']; rfl) rfl (JD 8 rfl (N3 fun w1 hs1 => ?_))
 have e : s.map bV ++ [bV v] = (s ++ [v]).map bV := by rw [List.map_append]; rfl
 rw [e] at hs1 hra; exact ⟨⟨some (ra, cap, sp), (by rw [C']; exact hra), fun h => by simp at h⟩, rfl, hs1.weakL (.cons_cons _ (.cons_cons _ (S')))⟩
theorem VZ (a b : Int) : (a == b) = decide (a = b) := by
 by_cases h : a = b
 ·rw [h, beq_self_eq_true, decide_eq_true rfl]
 ·rw [decide_eq_false h]; exact beq_eq_false_iff_ne.2 h
def QQ (n : Nat) : Int := if n < 2 then 2 else if n > 32768 then 5 else 0
theorem Jat {n : Nat} (hn : VL n) : Pure prog 180 [uV n].toArray (.int .i64 (QQ n)) := by
 refine JA Tryz.func180 O O fun w => Kl (Ku 14 O (cD (fun g => ?_) fun g => ?_))
 refine E9 fun w1 hs1 => ?_
 unfold QQ
 rw [if_pos m3]
 ·refine Ku 7 O (cD (fun g => ?_) fun g => ?_)
  refine E9 fun w1 hs1 => ?_
  unfold QQ
  rw [if_neg m3, if_pos m3]
  ·refine KF 9 O (N3 fun w1 hs1 => ?_); refine NL ?_
   unfold QQ
   rw [if_neg m3, if_neg m3]
def isB (r : Nat) (e : Int) : Nat × Obj := (r, .cells #[.int .i64 e] 43 (0, 0))
theorem J09 (e : Int) : PureE (α := Nat) prog 174 [.int .i64 e].toArray (fun r => .func (.func 230) #[] #[Kj r]) (fun r => [isB r e]) := by
 refine Qm Tryz.func174 O O fun w => ?_; exact gF
theorem Jwu (hl : s.length ≤ 1000000) (h : isB r e ∈ R) : PureR prog 230 [Jk s, Kj r].toArray (.bool (decide (QQ s.length = e))) R := by
 have hP := Jat (n := s.length) (show s.length < 18446744073709551616 by omega)
 refine J1 Tryz.func230 O O fun w => Kl (gv ?_); refine KB 7 m4 m4 (kr ?_); refine Jt O O O (JJ O O) (gP ?_); refine Jb3 m3 m3 (Vu O O O Jnp hP (Jt O O O (Jc O (Or.inr h) O O) (gP ?_))); refine Gk ?_; refine GN ?_; refine N3 fun w1 hs1 => ?_; exact ⟨congrArg (fun b => Ending.returned (Value.bool b)) (VZ _ _), hs1.keep⟩
theorem Jph {l : List BS} {p : Pl} (hs : Seg R l.length (Qu l) p) (hl : l.flatten.length ≤ 1000000) (hn : l.length ≤ 1000000) : PureR prog 89 [Km l.length p].toArray (.bool (decide (l.flatten.length ≤ 131072))) R := by
 refine J1 Tryz.func89 O O fun w => G7 ?_; refine Ju O O O Jno (Jfz hs m3 m3) oR (Nz ?_); exact HP
def W7 (l : List BS) : Int := if l.length = 0 ∨ (l.any fun s => decide (QQ s.length = 2)) = true then 2 else if 64 < l.length ∨ (l.any fun s => decide (QQ s.length = 5)) = true ∨ ¬ l.flatten.length ≤ 131072 then 5 else 0
theorem wY {l : List BS} (h : s ∈ l) : s.length ≤ l.flatten.length := by
 induction l with
 | nil => cases h
 | cons a r ih =>
  rw [List.flatten_cons, C']
  rcases F'.1 h with rfl | h
  ·omega
  ·have := ih h; omega
theorem Jpi {l : List BS} {p : Pl} (hs : Seg R l.length (Qu l) p) (hl : l.flatten.length ≤ 1000000) (hn : l.length ≤ 1000000) : PureR prog 80 [.int .i64 2, Km l.length p].toArray (.int .i64 (W7 l)) R := by
  refine J1 Tryz.func80 O O fun w => Kl (Jv 14 O (kZ ?_)); refine NQ ?_; refine Jl O (fun h6 => ?_) (fun h6 => ?_)
  exact absurd h6 (m7)
  · try simp only [ZZ] at h6
    refine gz ?_; refine GO ?_; refine gu ?_
    refine J8 16 O (fun gb => ?_) (fun gb => ?_) <;> (try simp only [ZZ] at gb) <;> first | (refine JI O ?_) | (refine LK O ?_)
    all_goals first | (refine KG O O O (enters_of Tryz.func174 m4 O) (J09 2) fun re2 => ?_) | refine LK O ?_
    all_goals first | (refine Ju O O O Jh3 (XE (R := isB re2 2 :: R) (caps := [Kj re2]) (pr := fun s => decide (QQ s.length = 2)) m3 (hs.mono fun q hq => M' hq) (enters_of Tryz.func230 m4 rfl) (fun x hx => Jwu (by have := wY hx; omega) N')) (fun q hq => (F'.1 hq).elim (fun h => Or.inl (h ▸ N')) Or.inr) ?_) | refine LK O ?_
    all_goals refine N4 ?_
    all_goals (
     refine kW ?_; refine Jl O (fun g => ?_) (fun g => ?_)
     try simp only [ZZ] at g
     refine EK fun w1 hs1 => ?_
     first | (rw [show W7 l = 2 from by unfold W7; exact if_pos (.inl m3)]; rfl) | (rw [show W7 l = 2 from by unfold W7; exact if_pos (.inr ma)]; rfl)
     · try exact Bool.noConfusion g
       all_goals try simp only [ZZ] at g
       all_goals (
        refine gz ?_; refine GO ?_; refine gu ?_
        refine J8 25 O (fun gb => ?_) (fun gb => ?_) <;> (try simp only [ZZ] at gb) <;> first | (refine JI O ?_) | (refine LK O ?_)
        all_goals first | (refine KG O O O (enters_of Tryz.func174 m4 O) (J09 5) fun re5 => ?_) | refine LK O ?_
        all_goals first | (refine Ju O O O Jh3 (XE (R := isB re5 5 :: R) (caps := [Kj re5]) (pr := fun s => decide (QQ s.length = 5)) m3 (hs.mono fun q hq => M' hq) (enters_of Tryz.func230 m4 rfl) (fun x hx => Jwu (by have := wY hx; omega) N')) (fun q hq => (F'.1 hq).elim (fun h => Or.inl (h ▸ N')) Or.inr) ?_) | refine LK O ?_
        all_goals refine N4 ?_
        all_goals refine gl ?_
        all_goals first | refine LK O ?_ | (refine J8 30 O (fun gb => ?_) (fun gb => ?_) <;> (try simp only [ZZ] at gb) <;> first | (refine JI O ?_) | (refine LK O ?_))
        all_goals first | (refine Ju O O O (enters_of Tryz.func89 m4 O) (Jph hs hl hn) oR ?_) | refine LK O ?_
        all_goals refine MQ ?_
        all_goals (
         refine kW ?_; refine Jl O (fun g => ?_) (fun g => ?_)
         · try simp only [ZZ] at g
           refine EK fun w1 hs1 => ?_
           first | (rw [show W7 l = 5 from by unfold W7; rw [if_neg mu, if_pos (.inl m3)]]; rfl) | (rw [show W7 l = 5 from by unfold W7; rw [if_neg mu, if_pos (.inr (.inl ma))]]; rfl) | (rw [show W7 l = 5 from by unfold W7; rw [if_neg mu, if_pos (.inr (.inr m3))]]; rfl)
         · try exact Bool.noConfusion g
           all_goals try simp only [ZZ] at g
           all_goals (
            refine KF 9 O (MW fun w1 hs1 => ?_)
            rw [show W7 l = 0 from by unfold W7; rw [if_neg mu, if_neg mD]]; rfl
            skip)
         skip)
        skip)
     skip)
def jh (l : List BS) (i : Nat) : BS := 2 :: (qq l.length ++ (l.take i).flatMap fun s => qq s.length ++ s)
def Jd1 (l : List BS) : BS := jh l l.length
theorem Z0 {l : List BS} (h : l[i]? = some s) : jh l i ++ qq s.length ++ s = jh l (i + 1) := by
 unfold jh
 rw [List.take_add_one, h, Option.toList_some, List.flatMap_append]; simp
theorem Jau {l : List BS} (i : Nat) : (jh l i).length ≤ (Jd1 l).length := by
 have h : (l.flatMap fun s => qq s.length ++ s) = ((l.take i).flatMap fun s => qq s.length ++ s) ++ (l.drop i).flatMap fun s => qq s.length ++ s := by rw [← List.flatMap_append, List.take_append_drop]
 unfold Jd1 jh
 rw [List.take_length, h]; simp
theorem Jym {l : List BS} {p : Pl} (hs : Seg R l.length (Qu l) p) (hl : l.flatten.length ≤ 1000000) (hn : l.length ≤ 1000000) (hw : (Jd1 l).length ≤ 1000000) :
  PureR prog 22 [.int .i64 2, Km l.length p].toArray (.tuple #[Jk (if W7 l ≠ 0 then [] else Jd1 l), .int .i64 (W7 l)]) R := by
 have h0 := Jau (l := l) 0
 have hv0 : (qq l.length).length + 1 ≤ 1000000 := by unfold jh at h0; simp at h0; omega
 refine J1 Tryz.func22 O O fun w => Kl (Jv 11 O (Ju O O O (enters_of Tryz.func80 m4 O) (Jpi hs hl hn) oR (JP 9 O (cD (fun g => ?_) fun g => ?_))))
 refine HV fun w1 hs1 => ?_; rw [if_pos ma]; rfl
 ·refine gw ?_; refine LN O fun rB => JP 9 O (Jl O (fun h10 => ?_) (fun h10 => ?_))
  ·try simp only [ZZ] at h10
   refine NG ?_; refine Jx (T := VF rB [] none false) (L0 := []) (Rl := []) (List.Perm.of_eq (List.append_nil _).symm) O O O (enters_of Tryz.func81 m4 O) (Jpg (v := 2) ⟨⟨rfl, rfl⟩, fun _ => rfl⟩ mf) oN fun x1 => ?_; rw [List.append_nil]; refine kV ?_; refine GO ?_; refine KC O (Ql m3 m3 (JC O O O (enters_of Tryz.func82 m4 O) (zO (show l.length < 18446744073709551616 by omega)) ?_)); refine Jx (T := VF rB ([] ++ [2]) x1.1 true) (L0 := []) (Rl := []) (List.Perm.of_eq (List.append_nil _).symm) O O O Jfu (YC x1.2 mL) oN fun x2 => ?_
   obtain ⟨row0, hrow0⟩ := x2
   rw [List.append_nil]
   have hp0 : ([] ++ [2] ++ qq l.length : BS) = jh l 0 := by simp [jh]
   rw [hp0] at hrow0; simp only [hp0]; refine gp ?_; refine No ?_; refine JQ (σ := Nat × QZ × Bool) (fun z => z.1 ≤ l.length ∧ bOk (jh l z.1) z.2.1) (fun z => [(0, .int .i64 2), (7, Kj rB), (26, Km l.length p), (27, .int .i64 (l.length : Int)), (28, .int .i64 (z.1 : Int))]) (fun z => VF rB (jh l z.1) z.2.1 z.2.2) (fun _ _ _ => True) (fun z => l.length - z.1) (0, row0, true) ⟨Z', hrow0⟩ (lK O) (T') (fun _ _ h => h) ?_; rintro ⟨i, row, own⟩ hI
   obtain ⟨hi1, hbk⟩ := hI
   simp only at hi1 hbk; change HC _ _ _ (VF rB (jh l i) row own) _ _ _; refine gv ?_; refine cD (fun g => ?_) fun g => ?_
   ·refine Hu ?_
    obtain ⟨s, hsi, hms⟩ := Vh nU
    have hle := Lb' (Jau (l := l) (i + 1)) hw
    have hsl := wY hms
    refine HI ?_
    refine Nq ?_; refine LR O (Qr oR O hs m3 O (show (Qu l)[i]? = some (Jk s) from by unfold Qu; rw [List.getElem?_map, hsi]; rfl)) ?_; refine E8 ?_; refine Jl O (fun h21 => ?_) (fun h21 => ?_)
    ·try simp only [ZZ] at h21
     refine gz ?_; refine Nz ?_; refine KC O (Ql m3 m3 (JC O O O (enters_of Tryz.func82 m4 O) (zO (show s.length < 18446744073709551616 by omega)) ?_)); refine Jx (T := VF rB (jh l i) row own) (L0 := []) (Rl := []) (List.Perm.of_eq (List.append_nil _).symm) O O O Jfu (YC hbk (by rw [← Z0 hsi] at hle; simp at hle; omega)) oN fun x3 => ?_; rw [List.append_nil]; refine kB ?_; refine Jx (T := VF rB (jh l i ++ qq s.length) x3.1 true) (L0 := []) (Rl := []) (List.Perm.of_eq (List.append_nil _).symm) O O O Jfu (YC x3.2 (by rw [← Z0 hsi] at hle; simp at hle ⊢; omega)) oN fun x4 => ?_
     obtain ⟨row4, hrow4⟩ := x4
     rw [List.append_nil]; rw [Z0 hsi] at hrow4; simp only [Z0 hsi]; refine J5 8 O (gK ?_); exact JL (i + 1, row4, true) ⟨by simp only; omega, hrow4⟩ mj (lK rfl) (T') (fun _ _ h => h)
    exact absurd h21 (m7)
   refine DE ?_; refine Jx (T := VF rB (jh l i) row own) (L0 := []) (Rl := []) (List.Perm.of_eq (List.append_nil _).symm) O O O Js9 (Jal hbk (by have := Jau (l := l) i; omega)) oN fun x5 => G4 ?_; refine Np fun w1 hs1 => ?_
   (have hiM : i = l.length := by omega
    have h0 : W7 l = 0 := by omega
    rw [h0, if_neg mf, hiM]; rfl)
  ·exact absurd h10 (m7)
structure FrE where
  id : BS
  num : Nat
  data : BS
  last : Bool
def FrE.cells (f : FrE) : List Value := [Jk f.id, .int .i64 (f.num : Int), Jk f.data, .bool f.last]
def FrE.val (f : FrE) : Value := .agg f.cells.toArray
theorem FrE.len (f : FrE) : f.cells.length = 4 := rfl
def WU (l : List FrE) : List Value := l.flatMap FrE.cells
def Ww (f : FrE) : Int := if f.id.length ≠ 16 ∨ 65535 < f.num then 2 else if 4096 < f.data.length then 5 else 0
theorem Jd2 (f : FrE) : Pure prog 70 [f.val].toArray (.int .i64 (Ww f)) := by
  refine JA Tryz.func70 O O fun w => MZ ?_; refine JR (cs := List.toArray (f.cells)) O O O O fun r0 => g8 ?_
  refine N5 ?_; refine H1 ?_
  refine J8 8 O (fun gb => ?_) (fun gb => ?_) <;> (try simp only [ZZ] at gb) <;> first | (refine LR O (Ja O O m0) ?_) | (refine LK O ?_)
  all_goals refine Nh ?_
  all_goals refine GZ ?_
  all_goals refine G9 ?_
  all_goals refine Nh ?_
  all_goals refine MQ ?_
  all_goals (
   refine kW ?_; refine Jl O (fun g => ?_) (fun g => ?_)
   try simp only [ZZ] at g
   refine EK fun w1 hs1 => ?_; rw [show Ww f = 2 from by unfold Ww; exact if_pos m3]; rfl
   · try exact Bool.noConfusion g
     all_goals try simp only [ZZ] at g
     all_goals (
      refine F0 ?_; refine Eh ?_; refine cD (fun g => ?_) fun g => ?_
      refine EK fun w1 hs1 => ?_; rw [show Ww f = 5 from by unfold Ww; rw [if_neg m3, if_pos m3]]; rfl
      refine KF 9 O (MW fun w1 hs1 => ?_); rw [show Ww f = 0 from by unfold Ww; rw [if_neg m3, if_neg m3]]; rfl
      skip)
   skip)
theorem Jk4 {l : List Nat} {w : Nat} (hi : i < w) : ((List.replicate (w - i) (0 : UInt8) ++ QB l i).map bV).set (w - 1 - i) (bV (UInt8.ofNat (dg l i))) = (List.replicate (w - (i + 1)) 0 ++ QB l (i + 1)).map bV := by
 rw [← List.map_set, show w - i = (w - 1 - i) + 1 from by omega, Jhj, show w - (i + 1) = w - 1 - i from by omega]
 rfl
theorem jN {n w : Nat} (hw : w ≤ 8) (hn : n ≤ 1000000000) : Pure prog 176 [.int .i64 (n : Int), .int .i64 (w : Int)].toArray (Jk (QB [n, 0, 0, 0] w)) := by
 refine JA Tryz.func176 O O fun w1 => G7 ?_; refine Y1 (n := w) (b := 1) O O O O O O O O O m3 m3 fun r2 => g8 ?_; refine EQ ?_; refine JQ (σ := Nat) (fun i => i ≤ w) (fun i => [(0, .int .i64 (n : Int)), (1, .int .i64 (w : Int)), (5, .slice (some ⟨r2, 0, none⟩) w w), (10, .int .i64 (w : Int)), (11, .int .i64 (i : Int))]) (fun i => [(r2, .cells ((List.replicate (w - i) (0 : UInt8) ++ QB [n, 0, 0, 0] i).map bV).toArray 5 (0, 0))]) (fun _ _ _ => True) (fun i => w - i) 0 (Z') (lK O) (by simp [QB, bV]) (fun _ _ h => h) ?_; intro i hi; refine gv ?_; refine cD (fun g => ?_) fun g => ?_
 ·refine Jv 14 O ?_; refine J4 (show _ = Value.int .i64 ((w - 1 : Nat) : Int) from by rw [wrap_i64 m3 m3]; congr 1 <;> omega) ?_; refine gu ?_; refine J4 (show _ = Value.int .i64 ((w - 1 - i : Nat) : Int) from by rw [wrap_i64 m3 m3]; congr 1 <;> omega) ?_; refine J5 3 O ?_; refine JT m3 m3 ?_; refine LR O (Jb9 (n := 8 * i) O O m3 M6 m3 (xH _ _)) ?_; refine GV ?_; refine J4 (show _ = bV (UInt8.ofNat (dg [n, 0, 0, 0] i)) from by rw [dgN m3, show n / 256 ^ i = n / 2 ^ (8 * i) from congrArg (n / ·) (Nat.pow_mul 2 8 i).symm]; exact j3 _) ?_; refine LR O (Qn (j := w - 1 - i) (m := 1) (off' := w - 1 - i) O O O O m3 m3 m3) ?_; refine Xh (k := 0) (off := w - 1 - i) (xs := (List.replicate (w - i) (0 : UInt8) ++ QB [n, 0, 0, 0] i).map bV) (ys := (List.replicate (w - (i + 1)) 0 ++ QB [n, 0, 0, 0] (i + 1)).map bV) O O O O O O Mg (Jk4 m3) O ?_; refine kB ?_; refine gK ?_; exact Gh
 ·refine Jv 8 O ?_
  have hiM : i = w := by omega
  subst hiM; rw [Nat.sub_self, List.replicate_zero, List.nil_append]; refine LR O (VB (b := QB [n, 0, 0, 0] i) (row := some (r2, i, [])) (e := 5) (by rw [Q7]; rfl) ⟨by simp [Q7], by simp [Q7]⟩ (fun p hp => .inl (by rw [U'.1 hp, List.append_nil]; exact N')) O O O) ?_; exact GP
theorem jO {l : List BS} {p : Pl} (hs : Seg R l.length (Qu l) p) (hl : l.flatten.length ≤ 1000000000) (hn : l.length ≤ 1000000000) : PureR prog 85 [Km l.length p].toArray (Jk l.flatten) R := by
 refine J1 Tryz.func85 O O fun w => ?_; exact EF
def lastE (b : Bool) : BS := [if b then 1 else 0]
def VW (f : FrE) : BS := f.id ++ (QB [f.num, 0, 0, 0] 2 ++ (QB [f.data.length, 0, 0, 0] 4 ++ (f.data ++ lastE f.last)))
theorem J1a (f : FrE) (hv : Ww f = 0) : Pure prog 84 [f.val].toArray (.tuple #[Jk (VW f), .int .i64 0]) := by
 have hchk := Jd2 f
 rw [hv] at hchk
 have hb : f.id.length = 16 ∧ f.num ≤ 65535 ∧ f.data.length ≤ 4096 := by
  unfold Ww at hv
  split at hv
  cases hv
  split at hv
  cases hv
  omega
 obtain ⟨hb1, hb2, hb3⟩ := hb
 refine JA Tryz.func84 O O fun w => MZ ?_; refine JR (cs := List.toArray (f.cells)) O O O O fun r0 => g8 ?_; refine LR O (Ji (xs := f.cells) (n := 4) O (kn 0 O) O O O) (JC O O O (enters_of Tryz.func70 m4 O) hchk (JP 9 O (Jl O (fun h5 => ?_) (fun h5 => ?_))))
 exact HK
 ·try simp only [ZZ] at h5
  refine gx ?_; refine J4 (show _ = Jk [0] from rfl) (kB ?_)
  refine N5 ?_; refine Dt ?_; refine cD (fun g => ?_) fun g => ?_
  refine NG ?_; refine J4 (show _ = Jk [1] from rfl) (NQ ?_); refine gC ?_
  first | (refine Vb (k := 12) (dv := [_, _, _, _, _]) (n := 5) (sz := 1) (vs := [_, _, _, _, _]) (zs := [_, _, _, _, _]) (r := Qu [f.id, QB [f.num, 0, 0, 0] 2, QB [f.data.length, 0, 0, 0] 4, f.data, [0]]) O O O O O O O O O O O O O me m4 fun qa => ?_) | (refine Vb (k := 12) (dv := [_, _, _, _, _]) (n := 5) (sz := 1) (vs := [_, _, _, _, _]) (zs := [_, _, _, _, _]) (r := Qu [f.id, QB [f.num, 0, 0, 0] 2, QB [f.data.length, 0, 0, 0] 4, f.data, [1]]) O O O O O O O O O O O O O me m4 fun qa => ?_)
  first | (refine KH (k := 13) (T0 := []) (L0 := [(qa, Obj.cells (Qu [f.id, QB [f.num, 0, 0, 0] 2, QB [f.data.length, 0, 0, 0] 4, f.data, [0]]).toArray 9 (0, 0)), (r0, .cells (List.toArray f.cells) 72 (0, 0))]) (E' := fun _ => [(qa, Obj.cells (Qu [f.id, QB [f.num, 0, 0, 0] 2, QB [f.data.length, 0, 0, 0] 4, f.data, [0]]).toArray 9 (0, 0)), (r0, .cells (List.toArray f.cells) 72 (0, 0))]) (O') (fun _ => O') O O O O O Jnj (jO (R := [(qa, Obj.cells (Qu [f.id, QB [f.num, 0, 0, 0] 2, QB [f.data.length, 0, 0, 0] 4, f.data, [0]]).toArray 9 (0, 0))]) (l := [f.id, QB [f.num, 0, 0, 0] 2, QB [f.data.length, 0, 0, 0] 4, f.data, [0]]) (p := some (⟨qa, 0, none⟩, 5)) (Ks (row := some (qa, 5, [])) (e := 9) (cs := Qu [f.id, QB [f.num, 0, 0, 0] 2, QB [f.data.length, 0, 0, 0] 4, f.data, [0]]) (n := 5) (sz := 1) ⟨rfl, rfl⟩ m7) Mg mf).toT (fun q hq => .inl mB) (fun x q hq => M' hq) fun y => ?_) | (refine KH (k := 13) (T0 := []) (L0 := [(qa, Obj.cells (Qu [f.id, QB [f.num, 0, 0, 0] 2, QB [f.data.length, 0, 0, 0] 4, f.data, [1]]).toArray 9 (0, 0)), (r0, .cells (List.toArray f.cells) 72 (0, 0))]) (E' := fun _ => [(qa, Obj.cells (Qu [f.id, QB [f.num, 0, 0, 0] 2, QB [f.data.length, 0, 0, 0] 4, f.data, [1]]).toArray 9 (0, 0)), (r0, .cells (List.toArray f.cells) 72 (0, 0))]) (O') (fun _ => O') O O O O O Jnj (jO (R := [(qa, Obj.cells (Qu [f.id, QB [f.num, 0, 0, 0] 2, QB [f.data.length, 0, 0, 0] 4, f.data, [1]]).toArray 9 (0, 0))]) (l := [f.id, QB [f.num, 0, 0, 0] 2, QB [f.data.length, 0, 0, 0] 4, f.data, [1]]) (p := some (⟨qa, 0, none⟩, 5)) (Ks (row := some (qa, 5, [])) (e := 9) (cs := Qu [f.id, QB [f.num, 0, 0, 0] 2, QB [f.data.length, 0, 0, 0] 4, f.data, [1]]) (n := 5) (sz := 1) ⟨rfl, rfl⟩ m7) Mg mf).toT (fun q hq => .inl mB) (fun x q hq => M' hq) fun y => ?_)
  refine Em ?_; exact gQ
  ·refine D5 ?_; refine gC ?_
   first | (refine Vb (k := 12) (dv := [_, _, _, _, _]) (n := 5) (sz := 1) (vs := [_, _, _, _, _]) (zs := [_, _, _, _, _]) (r := Qu [f.id, QB [f.num, 0, 0, 0] 2, QB [f.data.length, 0, 0, 0] 4, f.data, [0]]) O O O O O O O O O O O O O me m4 fun qa => ?_) | (refine Vb (k := 12) (dv := [_, _, _, _, _]) (n := 5) (sz := 1) (vs := [_, _, _, _, _]) (zs := [_, _, _, _, _]) (r := Qu [f.id, QB [f.num, 0, 0, 0] 2, QB [f.data.length, 0, 0, 0] 4, f.data, [1]]) O O O O O O O O O O O O O me m4 fun qa => ?_)
   first | (refine KH (k := 13) (T0 := []) (L0 := [(qa, Obj.cells (Qu [f.id, QB [f.num, 0, 0, 0] 2, QB [f.data.length, 0, 0, 0] 4, f.data, [0]]).toArray 9 (0, 0)), (r0, .cells (List.toArray f.cells) 72 (0, 0))]) (E' := fun _ => [(qa, Obj.cells (Qu [f.id, QB [f.num, 0, 0, 0] 2, QB [f.data.length, 0, 0, 0] 4, f.data, [0]]).toArray 9 (0, 0)), (r0, .cells (List.toArray f.cells) 72 (0, 0))]) (O') (fun _ => O') O O O O O Jnj (jO (R := [(qa, Obj.cells (Qu [f.id, QB [f.num, 0, 0, 0] 2, QB [f.data.length, 0, 0, 0] 4, f.data, [0]]).toArray 9 (0, 0))]) (l := [f.id, QB [f.num, 0, 0, 0] 2, QB [f.data.length, 0, 0, 0] 4, f.data, [0]]) (p := some (⟨qa, 0, none⟩, 5)) (Ks (row := some (qa, 5, [])) (e := 9) (cs := Qu [f.id, QB [f.num, 0, 0, 0] 2, QB [f.data.length, 0, 0, 0] 4, f.data, [0]]) (n := 5) (sz := 1) ⟨rfl, rfl⟩ m7) Mg mf).toT (fun q hq => .inl mB) (fun x q hq => M' hq) fun y => ?_) | (refine KH (k := 13) (T0 := []) (L0 := [(qa, Obj.cells (Qu [f.id, QB [f.num, 0, 0, 0] 2, QB [f.data.length, 0, 0, 0] 4, f.data, [1]]).toArray 9 (0, 0)), (r0, .cells (List.toArray f.cells) 72 (0, 0))]) (E' := fun _ => [(qa, Obj.cells (Qu [f.id, QB [f.num, 0, 0, 0] 2, QB [f.data.length, 0, 0, 0] 4, f.data, [1]]).toArray 9 (0, 0)), (r0, .cells (List.toArray f.cells) 72 (0, 0))]) (O') (fun _ => O') O O O O O Jnj (jO (R := [(qa, Obj.cells (Qu [f.id, QB [f.num, 0, 0, 0] 2, QB [f.data.length, 0, 0, 0] 4, f.data, [1]]).toArray 9 (0, 0))]) (l := [f.id, QB [f.num, 0, 0, 0] 2, QB [f.data.length, 0, 0, 0] 4, f.data, [1]]) (p := some (⟨qa, 0, none⟩, 5)) (Ks (row := some (qa, 5, [])) (e := 9) (cs := Qu [f.id, QB [f.num, 0, 0, 0] 2, QB [f.data.length, 0, 0, 0] 4, f.data, [1]]) (n := 5) (sz := 1) ⟨rfl, rfl⟩ m7) Mg mf).toT (fun q hq => .inl mB) (fun x q hq => M' hq) fun y => ?_)
   refine Em ?_; exact gQ
def ptx (l : List FrE) (i : Nat) : List BS := [0] :: (l.take i).map VW
theorem Jav {l : List FrE} (h : i ≤ l.length) : (ptx l i).length = i + 1 := by simp [ptx, Nat.min_eq_left h]
theorem Jd3 {l : List FrE} {f : FrE} (h : l[i]? = some f) : Qu (ptx l i) ++ [Jk (VW f)] = Qu (ptx l (i + 1)) := by
 unfold ptx Qu
 rw [List.take_add_one, h, Option.toList_some]; simp
def Wj (l : List FrE) : BS := 0 :: l.flatMap VW
theorem Jd4 (l : List FrE) : (ptx l l.length).flatten = Wj l := by
 unfold ptx Wj
 rw [List.take_length, List.flatten_cons, List.flatMap_def]; rfl
theorem Jd5 {f : FrE} (hv : Ww f = 0) : (VW f).length ≤ 5000 ∧ f.id.length = 16 ∧ f.num ≤ 65535 ∧ f.data.length ≤ 4096 := by
 unfold Ww at hv
 split at hv
 ·cases hv
 ·split at hv
  ·cases hv
  ·refine ⟨?_, by omega, by omega, by omega⟩
   unfold VW lastE
   simp [Q7]; omega
theorem Jiw {l : List FrE} (h : ∀ f ∈ l, Ww f = 0) : (l.flatMap VW).length ≤ l.length * 5000 := by
 induction l with
 | nil => simp
 | cons a r ih =>
  rw [List.flatMap_cons, C', List.length_cons, Nat.succ_mul]
  have h1 := (Jd5 (h a N')).1
  have h2 := ih fun x hx => h x (M' hx)
  omega
theorem Jyn {l : List FrE} {p : Pl} (hs : Seg R l.length (WU l) p) (hv : ∀ f ∈ l, Ww f = 0) (h1 : 1 ≤ l.length) (h32 : l.length ≤ 32) :
  PureR prog 24 [Km l.length p].toArray (.tuple #[Jk (Wj l), .int .i64 0]) R := by
 have hfl := Jiw hv
 refine J1 Tryz.func24 O O fun w => Kl (Jv 11 O (No ?_)); refine Jl O (fun h4 => ?_) (fun h4 => ?_)
 exact absurd h4 (nR)
 ·try simp only [ZZ] at h4
  refine gz ?_; refine No ?_; refine Jl O (fun h6 => ?_) (fun h6 => ?_)
  exact absurd h6 (nI)
  ·try simp only [ZZ] at h6
   refine gx ?_; refine JO (n := 1) (sz := 1) (vs := [_]) (zs := [_]) (r := [bV 0]) O O O O O O O O O me O fun r0 => LR O (VB (row := some (r0, 1, [])) (b := [0]) O ⟨rfl, rfl⟩ (fun q hq => by rw [U'.1 hq]; exact WF (k := 0) O) O O O) (JO (n := 1) (sz := 1) (vs := [_]) (zs := [_]) (r := [Jk [0]]) O O O O O O O O O me O fun rt => g8 ?_); refine No ?_; refine JQ (σ := Nat × QZ) (fun z => z.1 ≤ l.length ∧ rowOk 1 (z.1 + 1) (Qu (ptx l z.1)) z.2) (fun z => [(4, JV (z.1 + 1) z.2), (20, Km l.length p), (21, .int .i64 (l.length : Int)), (22, .int .i64 (z.1 : Int))]) (fun z => J9 9 (Qu (ptx l z.1)) z.2) (fun _ _ _ => True) (fun z => l.length - z.1) (0, some (rt, 1, [])) ⟨Z', ⟨rfl, rfl⟩⟩ (lK O) (.cons_cons _ (S')) (fun _ _ h => h) ?_; rintro ⟨i, row⟩ hI
   obtain ⟨hi1, hrow⟩ := hI
   simp only at hi1 hrow; change HC _ _ _ (J9 9 (Qu (ptx l i)) row) _ _ _; refine gv ?_; refine cD (fun g => ?_) fun g => ?_
   ·refine Hu ?_
    obtain ⟨f, hf, hmf⟩ := Vh nU
    refine Dc fun rx => ?_; refine kV ?_; refine LR O (Ji (xs := f.cells) (n := 4) O (kn 0 O) O O O) (JC O O O (enters_of Tryz.func84 m4 O) (J1a f (hv f hmf)) (H4 ?_)); refine Jl O (fun h18 => ?_) (fun h18 => ?_)
    exact absurd h18 (m7)
    ·try simp only [ZZ] at h18
     refine gx ?_; refine Gs fun rb => ?_; refine Kw (L0 := [(rb, _), (rx, _)]) (xs := Qu (ptx l i)) (row := row) (n := i + 1) (sz := 1) (b := 16) (news := [Jk (VW f)]) (B' (l₁ := [_, _])) O O O O (kn 0 O) O O O O O m7 O O O m7 hrow m3 m3 fun ra cap sp hra => Dr ?_; rw [Jd3 hf] at hra; exact JL (i + 1, some (ra, cap, sp)) ⟨by simp only; omega, hra⟩ mj (lK rfl) (by rw [← Jd3 hf]; exact .cons_cons _ (S')) (fun _ _ h => h)
   ·refine DE ?_
    have hiM : i = l.length := by omega
    subst hiM; refine gl ?_; refine J4 (show _ = Km (ptx l l.length).length (Ke row) from by rw [Jav (Lc')]; exact KK hrow) ?_
    have hj := jO (R := J9 9 (Qu (ptx l l.length)) row) (l := ptx l l.length) (p := Ke row) (by rw [Jav (Lc')]; exact Ks hrow m7) (by rw [Jd4]; unfold Wj; rw [List.length_cons]; omega) (by rw [Jav (Lc')]; omega)
    rw [Jd4] at hj; refine Ju O O O Jnj hj (fun q hq => .inl hq) ?_; exact gk
theorem Jyo {m : Nat} (hm : m ≤ 4) : XX (s.take m) < 4294967296 := by
 have h1 := Jou (s.take m)
 have h2 : 256 ^ (s.take m).length ≤ 256 ^ 4 := Nat.pow_le_pow_right m7 n6
 omega
theorem Jk5 (h : i < s.length) : XX (s.take (i + 1)) = XX (s.take i) * 256 + (s.getD i 0).toNat := by
 have := Jdu (s := s) (p := 0) (i := i) m3
 simpa using this
theorem Jpj (hs : s.length ≤ 4) : Pure prog 227 [Jk s].toArray (.int .i64 (XX s : Int)) := by
 refine JA Tryz.func227 O O fun w => Kl (Jv 14 O (Eh ?_)); refine JQ (σ := Nat) (fun i => i ≤ s.length) (fun i => [(0, Jk s), (3, .int .i64 (XX (s.take i) : Int)), (6, .int .i64 (s.length : Int)), (7, .int .i64 (i : Int))]) (fun _ => []) (fun _ _ _ => True) (fun i => s.length - i) 0 (Z') (lK O) (S') (fun _ _ h => h) ?_; intro i hi; refine gv ?_; refine cD (fun g => ?_) fun g => ?_
 ·refine Jv 12 O (LR O (Jca (n := 8) (b := ((XX (s.take i) * 256 : Nat) : Int)) O O O (show 8 ≤ 64 from by decide) (by have := Jyo (s := s) (m := i) m3; rw [wrap_i64 m3 m3]; omega)) (gu ?_)); refine LR O (JW (j := i) O O O O m3 O) (GV ?_); refine J4 (show _ = Value.int .i64 ((s.getD i 0).toNat : Int) from by rw [wrap_i64 Mc Mc]) (LR rfl (Jwq (b := (XX (s.take (i + 1)) : Int)) rfl rfl (by have := Jyo (s := s) (m := i) m3; omega) Mc (by rw [Jk5 m3, Jwr (V6 _)])) (gp ?_)); refine J4 m9 ?_; exact kX
 ·refine KF 12 O (MW fun w1 hs1 => ?_); rw [show i = s.length by omega, List.take_length]; rfl
def fr0 : FrE := ⟨[], 0, [], false⟩
def ZL (t : BS) (a : Nat) : FrE × Nat × Int :=
 if t.length < 22 then (fr0, 0, 3) else if 4096 < XX ((t.drop 18).take 4) then (fr0, 0, 5) else if t.length ≤ 22 + XX ((t.drop 18).take 4) then (fr0, 0, 3) else
 if 1 < (t.getD (22 + XX ((t.drop 18).take 4)) 0).toNat then (fr0, 0, 2) else
 (⟨t.take 16, XX ((t.drop 16).take 2), (t.take (22 + XX ((t.drop 18).take 4))).drop 22, decide ((t.getD (22 + XX ((t.drop 18).take 4)) 0).toNat = 1)⟩, a + (22 + XX ((t.drop 18).take 4)) + 1, 0)
theorem Juc (hs : s.length ≤ 1000000) (ha : a ≤ s.length) : Pure prog 168 [Jk s, .int .i64 (a : Int)].toArray (.tuple #[(ZL (s.drop a) a).1.val, .int .i64 ((ZL (s.drop a) a).2.1 : Int), .int .i64 (ZL (s.drop a) a).2.2]) := by
 obtain ⟨t, ht⟩ : ∃ t, s.drop a = t := ⟨_, rfl⟩
 have htl : t.length ≤ 1000000 := by rw [← ht, List.length_drop]; omega
 rw [ht]
 obtain ⟨z, hz⟩ : ∃ z, XX ((t.drop 18).take 4) = z := ⟨_, rfl⟩
 have hzl : z < 4294967296 := by rw [← hz]; exact Jyo m7
 have hP4 : Pure prog 227 [Jk ((t.drop 18).take 4)].toArray (.int .i64 (z : Int)) := by rw [← hz]; exact Jpj n6
 refine JA Tryz.func168 O O fun w => MZ ?_; refine LN O fun r4 => J5 12 O (Nz ?_); refine KC O (LR O (Jy O O) (JP 2 O ?_)); refine cD (fun g => ?_) fun g => ?_
 refine NG ?_
 exfalso; omega
 ·refine Hq ?_; refine LR O (Kt (kl := some (.i64, (a : Int))) (kh := none) (m := a) (n := s.length) O O O O O O ha (Lc') (r := t) (by rw [List.take_length]; exact ht)) (g8 ?_); refine Nz ?_; refine NQ ?_; refine cD (fun g => ?_) fun g => ?_
  refine NG ?_; refine Nl ?_; refine JD 6 O ?_
  (refine Jh O O (.cons (Jj (vs := [_, _, _, _]) O (kn 0 O) O O) (.cons (Jg O) (.cons (Jg O) .nil))) (fun w1 hs1 => ?_)
   have hU : ZL t a = (fr0, 0, 3) := by unfold ZL; rw [hz]; rw [if_pos m3]
   rw [hU]
   exact ⟨rfl, hs1.keep⟩)
  ·refine gx ?_; refine LR O (Kt (kl := some (.i64, 18)) (kh := some (.i64, 22)) (m := 18) (n := 22) O O O O O O m7 m3 (r := (t.drop 18).take 4) (by rw [List.drop_take])) ?_; refine JC O O O (enters_of Tryz.func227 m4 O) hP4 ?_; refine g8 ?_; refine J4 (show _ = Value.int .i64 ((22 + z : Nat) : Int) from by rw [wrap_i64 m3 m3]; congr 1 <;> omega) ?_; refine JP 12 O ?_; refine cD (fun g => ?_) fun g => ?_
   refine NG ?_; refine Nl ?_; refine JD 7 O ?_
   (refine Jh O O (.cons (Jj (vs := [_, _, _, _]) O (kn 0 O) O O) (.cons (Jg O) (.cons (Jg O) .nil))) (fun w1 hs1 => ?_)
    have hU : ZL t a = (fr0, 0, 5) := by unfold ZL; rw [hz]; rw [if_neg m3, if_pos m3]
    rw [hU]
    exact ⟨rfl, hs1.keep⟩)
   ·refine gw ?_; refine Eh ?_; refine cD (fun g => ?_) fun g => ?_
    refine NG ?_; refine Nl ?_; refine JD 7 O ?_
    (refine Jh O O (.cons (Jj (vs := [_, _, _, _]) O (kn 0 O) O O) (.cons (Jg O) (.cons (Jg O) .nil))) (fun w1 hs1 => ?_)
     have hU : ZL t a = (fr0, 0, 3) := by unfold ZL; rw [hz]; rw [if_neg m3, if_neg m3, if_pos m3]
     rw [hU]
     exact ⟨rfl, hs1.keep⟩)
    ·refine gw ?_; refine LR O (JW (j := 22 + z) O O O O m3 O) (G5 ?_); refine cD (fun g => ?_) fun g => ?_
     refine NG ?_; refine Nl ?_; refine JD 7 O ?_
     (refine Jh O O (.cons (Jj (vs := [_, _, _, _]) O (kn 0 O) O O) (.cons (Jg O) (.cons (Jg O) .nil))) (fun w1 hs1 => ?_)
      have hU : ZL t a = (fr0, 0, 2) := by unfold ZL; rw [hz]; rw [if_neg m3, if_neg m3, if_neg m3, if_pos m3]
      rw [hU]
      exact ⟨rfl, hs1.keep⟩)
     ·refine Ku 4 O ?_
      refine Kk [] [(0, .pure), (1, .pure), (2, .pure), (3, .pure), (4, .pure), (5, .pure), (6, .pure), (7, .pure), (8, .pure), (9, .pure), (10, .pure), (11, .pure), (12, .pure), (13, .pure), (14, .pure), (15, .pure), (16, .pure), (17, .turn), (18, .pure), (19, .pure)] 20 [0, 1, 2, 3, 4, 5, 6, 7, 8, 9, 10, 11, 12, 13, 14, 15, 16, 17, 18, 19] m4 m4 mb (Ew ?_); refine Jr (k := 1) O O O O O (fun _ _ => Kt (kl := none) (kh := some (.i64, 16)) (m := 0) (n := 16) O O O O O O m7 m3 (r := t.take 16) O) (ku ?_); refine Jr (k := 3) O O O O O (fun _ _ => Kt (kl := some (.i64, 16)) (kh := some (.i64, 18)) (m := 16) (n := 18) O O O O O O m7 m3 (r := (t.drop 16).take 2) (by rw [List.drop_take])) (VD (k := 4) rfl rfl rfl rfl rfl (enters_of Tryz.func227 m4 rfl) (Jpj (s := (t.drop 16).take 2) n6) (DV ?_)); refine Jr (k := 7) O O O O O (fun _ _ => Kt (kl := some (.i64, 22)) (kh := some (.i64, ((22 + z : Nat) : Int))) (m := 22) (n := 22 + z) O O O O O O m3 m3 (r := (t.take (22 + z)).drop 22) O) (Ey ?_); refine Jr (k := 9) O O O O O (fun _ hS => (Jw O)) (Jr (k := 10) O O O O O (fun _ _ => JW (j := 22 + z) O O O O m3 O) (Jr (k := 11) O O O O O (fun _ _ => JH O O O) (Jmx (show _ = Value.bool (decide ((t.getD (22 + z) 0).toNat = 1)) from by rw [VZ]; exact congrArg Value.bool (decide_eq_decide.2 m3)) (Jr (k := 12) O O O O O (fun _ hS => (Jo (r := [_, _, _, _]) O O)) (Jr (k := 13) O O O O O (fun _ hS => (Jw O)) (Jr (k := 14) O O O O O (fun _ hS => (Jw O)) ?_))))))
      refine Jr (k := 15) O O O O O (fun _ _ => JH O O O) ?_; refine Jmx (show _ = Value.int .i64 ((a + (22 + z) : Nat) : Int) from by rw [wrap_i64 m3 m3]; congr 1 <;> omega) ?_
      refine Jr (k := 16) O O O O O (fun _ _ => JH O O O) ?_; refine Jmx (show _ = Value.int .i64 ((a + (22 + z) + 1 : Nat) : Int) from by rw [wrap_i64 m3 m3]; congr 1 <;> omega) ?_
      refine KV (k := 17) (q := 0) (n := 4) (ys := [_, _, _, _]) O O O O O O O O O O m5 mb (Jr (k := 18) O O O O O (fun _ hS => (J7 O)) (Jr (k := 19) O O O O O (fun _ hS => (J7 O)) (KJ (GN ?_))))
      (refine Jh O O (.cons (Jj (vs := [_, _, _, _]) O (kn 0 O) O O) (.cons (Jg O) (.cons (Jg O) .nil))) (fun w1 hs1 => ?_)
       have hU : ZL t a = (⟨t.take 16, XX ((t.drop 16).take 2), (t.take (22 + z)).drop 22, decide ((t.getD (22 + z) 0).toNat = 1)⟩, a + (22 + z) + 1, 0) := by unfold ZL; rw [hz]; rw [if_neg m3, if_neg m3, if_neg m3, if_neg m3]
       rw [hU]
       exact ⟨rfl, hs1.keep⟩)
theorem Jud {f : FrE} (hv : Ww f = 0) (post : BS) (a : Nat) : ZL (VW f ++ post) a = (f, a + (VW f).length, 0) := by
 obtain ⟨_, h1, h2, h3⟩ := Jd5 hv
 obtain ⟨id, num, data, last⟩ := f
 simp only at h1 h2 h3
 have e : VW ⟨id, num, data, last⟩ ++ post = id ++ (QB [num, 0, 0, 0] 2 ++ (QB [data.length, 0, 0, 0] 4 ++ (data ++ (lastE last ++ post)))) := by simp [VW]
 have hl : (VW ⟨id, num, data, last⟩).length = 22 + data.length + 1 := by simp [VW, lastE, Q7, h1]; omega
 obtain ⟨t, ht⟩ : ∃ t, VW ⟨id, num, data, last⟩ ++ post = t := ⟨_, rfl⟩
 rw [ht] at e
 have e16 : t.take 16 = id := by rw [e, List.take_left' h1]
 have d16 : t.drop 16 = QB [num, 0, 0, 0] 2 ++ (QB [data.length, 0, 0, 0] 4 ++ (data ++ (lastE last ++ post))) := by rw [e, List.drop_left' h1]
 have d18 : t.drop 18 = QB [data.length, 0, 0, 0] 4 ++ (data ++ (lastE last ++ post)) := by
  rw [show (18 : Nat) = 16 + 2 from rfl, ← List.drop_drop, d16, List.drop_left' (Q7 _ 2)]
 have d22 : t.drop 22 = data ++ (lastE last ++ post) := by
  rw [show (22 : Nat) = 18 + 4 from rfl, ← List.drop_drop, d18, List.drop_left' (Q7 _ 4)]
 have v2 : XX ((t.drop 16).take 2) = num := by rw [d16, List.take_left' (Q7 _ 2), Jic _ _ m7]; exact Nat.mod_eq_of_lt m3
 have v4 : XX ((t.drop 18).take 4) = data.length := by rw [d18, List.take_left' (Q7 _ 4), Jic _ _ m7]; exact Nat.mod_eq_of_lt m3
 have htl : t.length = 22 + data.length + 1 + post.length := by rw [← ht, C', hl]
 have dt : (t.take (22 + data.length)).drop 22 = data := by
  rw [List.drop_take, d22, Nat.add_sub_cancel_left, List.take_left]
 have gt : (t.getD (22 + data.length) 0).toNat = if last then 1 else 0 := by
  have h : t[22 + data.length]? = (t.drop 22)[data.length]? := by rw [List.getElem?_drop]
  rw [List.getD_eq_getElem?_getD, h, d22, List.getElem?_append_right (Lc'), Nat.sub_self]
  cases last <;> rfl
 rw [ht]
 unfold ZL
 rw [v4, if_neg m3, if_neg m3, if_neg m3, if_neg (by rw [gt]; split <;> omega), e16, v2, dt, gt, hl]
 cases last <;> simp <;> omega
def ji (l : List FrE) (i : Nat) : Nat := 1 + ((l.take i).flatMap VW).length
def frI (l : List FrE) (i : Nat) : FrE := l.getD i fr0
theorem vI {l : List FrE} (h : i < l.length) : l[i]? = some (frI l i) ∧ frI l i ∈ l := by
 unfold frI
 rw [List.getD_eq_getElem?_getD, List.getElem?_eq_getElem h]; exact ⟨rfl, List.getElem_mem h⟩
theorem Jk6 (l : List FrE) (i : Nat) : (Wj l).drop (ji l i) = (l.drop i).flatMap VW := by
 have e : l.flatMap VW = (l.take i).flatMap VW ++ (l.drop i).flatMap VW := by rw [← List.flatMap_append, List.take_append_drop]
 unfold Wj ji
 rw [Nat.add_comm, List.drop_succ_cons, e, List.drop_left]
theorem Jix (l : List FrE) (i : Nat) : ji l i + ((l.drop i).flatMap VW).length = (Wj l).length := by
 have e : l.flatMap VW = (l.take i).flatMap VW ++ (l.drop i).flatMap VW := by rw [← List.flatMap_append, List.take_append_drop]
 unfold Wj ji
 rw [List.length_cons, e, C']; omega
theorem Jk7 {l : List FrE} (h : i < l.length) : ji l (i + 1) = ji l i + (VW (frI l i)).length := by
 unfold ji
 rw [List.take_add_one, (vI h).1, Option.toList_some, List.flatMap_append, C']; simp; omega
theorem drop_one {l : List FrE} (h : i < l.length) : (l.drop i).flatMap VW = VW (frI l i) ++ (l.drop (i + 1)).flatMap VW := by
 have h1 := (vI h).1
 obtain ⟨h2, h3⟩ := La'.1 h1
 rw [List.drop_eq_getElem_cons h, h3, List.flatMap_cons]
theorem Jyp {l : List FrE} (hv : ∀ f ∈ l, Ww f = 0) (h : i < l.length) : ZL ((Wj l).drop (ji l i)) (ji l i) = (frI l i, ji l (i + 1), 0) := by
 rw [Jk6, drop_one h, Jud (hv _ (vI h).2), Jk7 h]
theorem Jiy (f : FrE) : 0 < (VW f).length := by unfold VW lastE; simp; omega
theorem Jue (s : BS) (a : Nat) : PureE (α := Nat × Nat) prog 68 [Jk s, .int .i64 (a : Int)].toArray (fun z => .func (.func 167) #[] #[Kj z.1, Kj z.2]) (fun z => [YN z.1 a, stB z.2 s]) := by
 refine Qm Tryz.func68 O O fun w => ?_; exact gV
def nxF (l : List FrE) : Nat → List Value → Nat → Prop := fun i v i' => i < l.length ∧ v = [(frI l i).val, .int .i64 0] ∧ i' = i + 1
theorem Juf {l : List FrE} (hv : ∀ f ∈ l, Ww f = 0) (hl : (Wj l).length ≤ 1000000) (ri rs : Nat) : Jio prog 167 [Kj ri, Kj rs] [YN ri (ji l 0)] [stB rs (Wj l)] (0 : Nat) (nxF l) (fun _ _ _ => False) (fun _ _ _ => False) (fun _ => False) (fun i => i = l.length) := by
  refine qT Tryz.func167 O O fun q xids w2 XI XF hdd hY hC => Kl (Dz ?_); refine JQ (σ := Nat) (fun i => i ≤ l.length) (fun _ => [(0, .func (.yield q) #[] #[]), (1, Kj ri), (2, Kj rs)]) (fun i => [YN ri (ji l i)]) (fun i => XI i) (fun i => l.length - i) 0 (Z') (lK O) (T') (fun _ _ h => h) ?_; intro i hi
  have hps := Jix l i
  refine gz ?_; refine MS ?_; refine NM ?_; refine Nz ?_; refine NQ ?_; refine cD (fun g => ?_) fun g => ?_
  · refine Ku 4 O ?_
    have hil : i < l.length := by
      rcases Nat.lt_or_ge i l.length with h | h
      exact h
      rw [List.drop_eq_nil_of_le h] at hps; simp at hps; omega
    have hN := Juc (s := Wj l) (a := ji l i) hl m3
    rw [Jyp hv hil] at hN; refine HI ?_; refine NM ?_; refine MS ?_; refine JC O O O (enters_of Tryz.func168 m4 O) hN (MR ?_); refine Fh ?_; refine LN O fun r4 => Je (k := 0) (n := 4) (ys := (frI l i).cells) O O O O O O O O O (J5 8 O (LR O (Ji (xs := (frI l i).cells) (n := 4) O (kn 0 O) O O O) (gl ?_))); refine QN (XT := XI (i + 1)) (XF := XF) O O O O (hY i [(frI l i).val, .int .i64 0] (i + 1) ⟨hil, rfl, rfl⟩) ?_ ?_
    all_goals refine gu ?_
    all_goals refine Ns ?_
    all_goals refine MQ ?_
    all_goals (
     refine kN ?_; refine Jl O (fun g => ?_) (fun g => ?_)
     · try exact Bool.noConfusion g
       all_goals try simp only [ZZ] at g
       all_goals (
        exact EI
        skip)
     · try exact Bool.noConfusion g
       all_goals try simp only [ZZ] at g
       all_goals (
        refine gw ?_
        refine kQ ?_; refine Nd ?_; exact JL (i + 1) m3 m3 (lK O) (.cons _ (T')) (fun _ _ h => h)
        skip)
     skip)
  · refine KF 4 O (Gy fun w1 hs1 => ?_)
    obtain ⟨xs1, hx1⟩ := hs1.now
    exact ⟨⟨_, rfl⟩, hs1.keep, .inl ⟨i, _, (by
      rcases Nat.lt_or_ge i l.length with h | h
      rw [drop_one h, C'] at hps; have := Jiy (frI l i); omega
      · omega), hx1⟩⟩
theorem Jd7 {l : List FrE} (h : i < l.length) : WU (l.take i) ++ (frI l i).cells = WU (l.take (i + 1)) := by
 rw [List.take_add_one, (vI h).1]
 simp [WU, List.flatMap_append]
theorem Jyq {l : List FrE} (hv : ∀ f ∈ l, Ww f = 0) (h1 : 1 ≤ l.length) (h32 : l.length ≤ 32) :
  PureT (α := { row : QZ // rowOk 4 l.length (WU l) row }) prog 18 [Jk (Wj l)].toArray (fun y => .tuple #[JV l.length y.1, .int .i64 0]) [] (fun y => J9 72 (WU l) y.1) [] := by
 have hfl := Jiw hv
 have hlen : (Wj l).length ≤ 1000000 := by unfold Wj; rw [List.length_cons]; omega
 have hp2 : 2 ≤ (Wj l).length := by
  have h := Jix l 0
  rw [drop_one (show 0 < l.length by omega), C'] at h
  have := Jiy (frI l 0)
  unfold ji at h; simp at h; omega
 refine Jq Tryz.func18 O O fun w => DI fun r2 => ?_; refine LN O fun r3 => g8 ?_; refine Hs ?_; refine NQ ?_; refine Jl O (fun h4 => ?_) (fun h4 => ?_)
 exact absurd h4 ((by intro h; exact absurd (of_decide_eq_true h) (by unfold Wj; simp)))
 ·try simp only [ZZ] at h4
  refine gz ?_; refine LR O (JW (j := 0) (n := 0) O O O O m3 O) (G5 ?_); refine Jl O (fun h6 => ?_) (fun h6 => ?_)
  exact absurd h6 (m7)
  ·try simp only [ZZ] at h6
   refine gz ?_; refine Eh ?_; refine Jl O (fun h8 => ?_) (fun h8 => ?_)
   exact absurd h8 (nR)
   ·try simp only [ZZ] at h8
    refine gx ?_; refine LN O fun r4 => gp ?_; refine KG O O O (enters_of Tryz.func68 m4 O) (Jue (Wj l) 1) fun y => ?_
    obtain ⟨ri, rs⟩ := y
    refine NQ ?_; refine Zc [2, 0, 1, 3, 4] m7 O (zY (σ := Nat × QZ) (τ := Unit) (T := [YN ri (ji l 0)]) (Rl := [stB rs (Wj l)]) (Rk := []) (p0 := (0 : Nat)) (nx := nxF l) (ca := fun _ _ _ => False) (re := fun _ _ _ => False) (dead := fun _ => False) (fi := fun i => i = l.length) (fun i z => i = z.1 ∧ i ≤ l.length ∧ rowOk 4 i (WU (l.take i)) z.2) (fun z => (r4, .cells #[JV z.1 z.2] 67 (0, 0)) :: J9 72 (WU (l.take z.1)) z.2) (fun _ _ => False) (fun _ => []) [stB rs (Wj l), _, _] (0, none) O O (enters_of Tryz.func167 m4 O) (Juf hv hlen ri rs) M0 O (fun z hz => .inl (by rw [U'.1 hz]; exact N')) (fun z hz => nomatch hz) O ⟨rfl, Z', ⟨rfl, rfl⟩⟩ (fun _ _ h => h.elim) (fun _ _ _ _ h => h.elim) ?_ ?_ ?_)
    rintro q9 Xr Xb w3 i _ _ ⟨_, row⟩ ⟨hii, rfl, rfl⟩ ⟨rfl, him, hrow⟩ Kr hKr; refine inR ?_
    simp only at hKr hrow ⊢; refine NG ?_; refine LN O fun r5 => Je (k := 0) (n := 4) (ys := (frI l i).cells) O O O O O O O O O (G4 ?_); refine EW ?_; clear hKr; refine gw ?_; refine MY ?_; refine LR O (jw O hrow.zero O) (NQ ?_); refine Jl O (fun h15 => ?_) (fun h15 => ?_)
    exact absurd h15 (nR)
    try simp only [ZZ] at h15
    refine Ku 9 O (Jl O (fun h18 => ?_) (fun h18 => ?_))
    exact absurd h18 (m7)
    try simp only [ZZ] at h18
    refine gz ?_; refine MY ?_; refine LR O (Ji (xs := (frI l i).cells) (n := 4) O (kn 0 O) O O O) (JO (n := 1) (sz := 4) (vs := [_]) (zs := [_, _, _, _]) (r := (frI l i).cells) O O O O O O O O O n5 O fun rb => Kw (L0 := [_, _, _]) (xs := WU (l.take i)) (row := row) (n := i) (sz := 4) (b := 48) (news := (frI l i).cells) (B' (l₁ := [_, _, _])) O O O O (kn 0 O) O O O O O m7 O O O m7 hrow m3 m3 fun ra cap sp hra => ?_)
    refine Jm (k := 3) O O O O O O O O m6 m5 (JD 2 O (QO [3, 0] (L' := [_, _]) m7 O (Xg (i + 1, some (ra, cap, sp)) ⟨rfl, by omega, by rw [Jd7 hii] at hra; exact hra⟩ ?_))); simp only [J9, JV, Jd7 hii]
    ·rintro D i ⟨_, row⟩ hfi ⟨rfl, him, hrow⟩
     simp only at hrow ⊢
     have hfi : i = l.length := hfi
     subst hfi; rw [List.take_length] at hrow ⊢; refine X6 (((B').cons _).cons _) ?_; change HQ _ _ _ ((D, _) :: (r4, _) :: (rs, _) :: (r3, _) :: (r2, _) :: J9 72 (WU l) row) _ _; refine wh 4 O (MY ?_)
     refine Jm (k := 4) (cs' := #[JV l.length row]) O O O O O Me O O O O (HH ?_); refine Wp (k := 0) O O (Jh O O (.cons (JX O (kn 4 O) O O) (.cons (JX O (kn 3 O) O O) .nil)) (fun w1 hs1 => ?_)); exact ⟨⟨row, hrow⟩, rfl, hs1.weakL (.cons _ (.cons _ (.cons _ (.cons _ (.cons _ (T'))))))⟩
    ·exact fun _ _ _ h => h.elim
structure HeardF (l : List FrE) : Prop where
  ok : ∀ f ∈ l, Ww f = 0
  id : ∀ f ∈ l, ∀ g, l[0]? = some g → g.id = f.id
  up : ∀ i f g, l[i]? = some f → 0 < i → l[i - 1]? = some g → g.last = false ∧ g.num < f.num
theorem Jug {l : List FrE} {p : Pl} (hl : l.length ≤ 1000000) (hs : Seg R l.length (WU l) p) (hh : HeardF l) : PureR prog 69 [Km l.length p].toArray (.bool true) R := by
 refine J1 Tryz.func69 O O fun w => Gm ?_; refine No ?_; refine JQ (σ := Nat) (fun i => i ≤ l.length) (fun i => [(0, Km l.length p), (5, Km l.length p), (6, .int .i64 (l.length : Int)), (7, .int .i64 (i : Int))]) (fun _ => []) (fun _ _ _ => True) (fun i => l.length - i) 0 (Z') (lK O) (S') (fun _ _ h => h) ?_; intro i hi1; refine gv ?_; refine cD (fun h6 => ?_) fun h6 => ?_
 ·refine Hu ?_
  obtain ⟨f, hf, hmf⟩ := Vh nU
  obtain ⟨f0, hf0, hmf0⟩ := Vh (show 0 < l.length by omega)
  obtain ⟨g, hg0, hmg⟩ := Vh (show i - 1 < l.length by omega)
  have hg : 0 < i → l[i - 1]? = some g ∧ g.last = false ∧ g.num < f.num := fun h => ⟨hg0, hh.up i f g hf h hg0⟩
  have hck := Jd2 f
  rw [hh.ok f hmf] at hck; refine NG ?_
  refine Nq ?_; refine LR O (Ky FrE.len oR O hs hf O O) (LN O fun rx => JI O (Je (k := 0) (n := 4) (ys := f.cells) O O O O O O O O O (JP 3 O ?_))); refine KB 35 m4 m4 (Jt O O O (Ji (xs := f.cells) (n := 4) O (kn 0 O) O O O) (Vu O O O (enters_of Tryz.func70 m4 O) hck (gP ?_))); refine kr ?_
  refine Nk ?_; refine kr ?_
  refine Jt O O O (JG (j := 0) O hs O O O mg m3) (Jt O O O (Ja (off' := plO p + (0 * 4 + 0)) O O (by show plO p + 0 * 4 + 0 = _; omega)) (Jt rfl rfl rfl (Zg FrE.len (k := 0) (v := Jk f.id) oR rfl hs hf0 (by show some (Jk f0.id) = _; rw [hh.id f hmf f0 hf0]) rfl) (Jt rfl rfl rfl (vw rfl rfl) (WK (show _ = Value.bool false from KT (congrArg (fun z => !z) (decide_eq_true rfl))) (Jt rfl rfl rfl (Jy rfl rfl) (kr ?_)))))); refine N0 ?_; refine kr ?_
  refine vr 27 O (fun gb => ?_) (fun gb => ?_) <;> (try simp only [ZZ] at gb) <;> first | (refine Jt O O O (Jw O) ?_) | (refine Kp O O O ?_)
  all_goals refine HO ?_
  all_goals first | (refine Jt O O O (JH O O O) ?_; refine WK nz ?_) | refine Kp O O O ?_
  all_goals first | (refine Jt O O O (JG (j := (i - 1)) O hs O O O mg m3) ?_) | refine Kp O O O ?_
  all_goals first | (refine Jt O O O (Ja (off' := plO p + ((i - 1) * 4 + 3)) O O (by show plO p + (i - 1) * 4 + 3 = _; omega)) ?_) | refine Kp O O O ?_
  all_goals first | (refine Jt O O O (Zg FrE.len (k := 3) (v := .bool false) oR O hs (hg m3).1 (by show some (Value.bool g.last) = _; rw [(hg m3).2.1]) rfl) ?_) | refine Kp O O O ?_
  all_goals refine HO ?_
  all_goals refine HO ?_
  all_goals refine HO ?_
  all_goals first | (refine Jt O O O (JH O O O) ?_; refine WK nz ?_) | refine Kp O O O ?_
  all_goals first | (refine Jt O O O (JG (j := (i - 1)) O hs O O O mg m3) ?_) | refine Kp O O O ?_
  all_goals first | (refine Jt O O O (Ja (off' := plO p + ((i - 1) * 4 + 1)) O O (by show plO p + (i - 1) * 4 + 1 = _; omega)) ?_) | refine Kp O O O ?_
  all_goals first | (refine Jt O O O (Zg FrE.len (k := 1) (v := .int .i64 (g.num : Int)) oR O hs (hg m3).1 O O) ?_) | refine Kp O O O ?_
  all_goals refine D7 ?_
  all_goals refine DC ?_
  all_goals first | (refine WK (show _ = Value.bool false from KT (decide_eq_false (by have := (hg m3).2.2; omega))) ?_) | skip
  all_goals first | refine Jt O O O (Jy O O) ?_ | refine Kp O O O ?_
  all_goals refine GQ ?_
  all_goals (refine Jt O O O (Jy O O) ?_)
  all_goals (
   refine KR (JD 1 O (V0 1 O ?_)); refine Jl O (fun h38 => ?_) (fun h38 => ?_)
   try exact Bool.noConfusion h38
   ·try simp only [ZZ] at h38
    refine gx ?_; refine J4 m9 ?_; exact kX
   skip)
 ·refine KF 11 O ?_; exact Ng
structure WholeF (l : List FrE) : Prop where
  pos : 0 < l.length
  end_ : ∀ f, l[l.length - 1]? = some f → f.last = true ∧ f.num = l.length - 1
theorem Juh {l : List FrE} {p : Pl} (hl : l.length ≤ 1000000) (hs : Seg R l.length (WU l) p) (hh : WholeF l) : PureR prog 76 [Km l.length p].toArray (.bool true) R := by
 have hp := hh.pos
 obtain ⟨f, hf, hmf⟩ := Vh (show l.length - 1 < l.length by omega)
 obtain ⟨h1, h2⟩ := hh.end_ f hf
 refine J1 Tryz.func76 O O fun w => G7 ?_; refine GO ?_; refine g8 ?_; refine J4 (show _ = Value.bool true from KT (decide_eq_true m3)) (kV ?_); refine J4 mP ?_
 refine LR O (JG (j := (l.length - 1)) O hs O O O mg m3) (LR O (Ja (off' := plO p + ((l.length - 1) * 4 + 3)) O O (by show plO p + (l.length - 1) * 4 + 3 = _; omega)) (LR rfl (Zg FrE.len (k := 3) (v := .bool true) oR rfl hs hf (by show some (Value.bool f.last) = _; rw [h1]) rfl) (kZ ?_))); refine kV ?_; refine J4 mP ?_
 refine LR O (JG (j := (l.length - 1)) O hs O O O mg m3) (LR O (Ja (off' := plO p + ((l.length - 1) * 4 + 1)) O O (by show plO p + (l.length - 1) * 4 + 1 = _; omega)) (LR rfl (Zg FrE.len (k := 1) (v := .int .i64 ((l.length - 1 : Nat) : Int)) oR rfl hs hf (by show some (Value.int .i64 (f.num : Int)) = _; rw [h2]) rfl) (gu ?_))); refine J4 mP (KC O (J4 (show _ = Value.bool true from KT (beq_self_eq_true _)) (LR rfl (Jp rfl rfl) ?_))); exact GP
section
variable {c : Cx} {l : KY} {L : J3} {X : XP} {d : List Deferred} {i : Nat} {ps : String} {af : Array Edge} {gd : Option (Nat × Bool)} {ty : TypeId}
theorem Jd8 {x : Operand} {b : List UInt8} {off n : Nat} {cs : Array Value} {e src dst : TypeId} {fr : Nat × Nat} (hx : KU l x = some (.slice (some ⟨r, off, none⟩) n cap)) (hk : known c L r (.cells cs e fr)) (hn : n = b.length) (ht : (cs.toList.drop off).take b.length = b.map bV)
  (hs : Q5 c.P src = some e) (he : c.P.underlying e = some (.int .u8)) (hd : yE c.P dst = true) :
  Kg c d l L X ⟨some i, .convert src dst x, ty, ps, af, gd⟩ (.string (bs b)) := fun a' w hf hst => by
 subst hn; simp only [execOp]; rw [hf.eval hx]
 have hget := hst.known hk
 have hl : (loadCells ⟨r, off, none⟩ (b.map bV).length).run c.P w = .ok (b.map bV).toArray w := run_loadCells_list w ⟨r, off, none⟩ (b.map bV) fun j v hj => by
  have hlt := (La'.1 hj).1
  rw [D'] at hlt
  have hj2 : cs[off + j]? = some v := by
   rw [← ht, List.getElem?_take, if_pos hlt, List.getElem?_drop] at hj
   simpa using hj
  rw [ju, VY hget]; exact hj2
 rw [D'] at hl; simp only [Sem.run_bind]; rw [run_convert_bytes_string w src dst e _ _ _ (Qg hs) he (V5 hd)]; rw [run_bytesToString w _ _ _ (b.map fun x => ((x.toNat : Nat) : Int)) (by rw [hl]; simp [bV, Function.comp_def])]
 have := qm b []
 rw [show (bs [] : ByteArray) = ByteArray.empty from rfl] at this; rw [this]
 rfl
end
def QH (s : BS) (i : Nat) : BS := (s.drop (30 * i)).take 30
theorem jj (s : BS) (i : Nat) : (QH s i).length = min 30 (s.length - 30 * i) := by unfold QH; rw [List.length_take, List.length_drop]
theorem Jpk (s : BS) (i : Nat) (sp : List Value) : ((s.map bV ++ sp).toArray.toList.drop (30 * i)).take (QH s i).length = (QH s i).map bV := by
 simp only [List.toList_toArray]; rw [jj]
 by_cases h : 30 * i ≤ s.length
 ·rw [List.drop_append_of_le_length (by rw [D']; exact h), List.take_append_of_le_length M2]
  unfold QH
  rw [List.map_take, List.map_drop]
  rcases Nat.le_total 30 (s.length - 30 * i) with h2 | h2
  ·rw [Nat.min_eq_left h2]
  ·rw [Nat.min_eq_right h2, List.take_of_length_le M2, List.take_of_length_le M2]
 ·unfold QH
  rw [show s.length - 30 * i = 0 by omega, Nat.min_zero, List.take_zero, List.drop_of_length_le m3]; rfl
def chM (rb n cap : Nat) (p : Nat × Nat) : J3 := [(p.2, .cells #[.int .i64 30] 3 (0, 0)), (p.1, .cells #[.slice (some ⟨rb, 0, none⟩) n cap] 76 (0, 0))]
theorem Jpl (rb n cap : Nat) : PureE (α := Nat × Nat) prog 83 [.slice (some ⟨rb, 0, none⟩) n cap, .int .i64 30].toArray (fun p => .func (.func 175) #[] #[Kj p.1, Kj p.2]) (chM rb n cap) := by
 refine Qm Tryz.func83 O O fun w => Hn fun r1 r2 => ?_; refine gp ?_; refine MS ?_; refine NQ ?_; refine Jl O (fun h4 => ?_) (fun h4 => ?_)
 exact absurd h4 m7
 ·try simp only [ZZ] at h4
  refine gw ?_; exact Eg
def Jgc (rb n j : Nat) : List Value := [.slice (some ⟨rb, 30 * j, none⟩) (min 30 (n - 30 * j)) (min 30 (n - 30 * j))]
theorem Jpm {rb n N : Nat} (hn : N = (n + 29) / 30) (hcap : n ≤ cap) (hlim : n ≤ 1000000) (p1 p2 : Nat) : vV prog 175 [Kj p1, Kj p2] (chM rb n cap (p1, p2)) 0 (nxN (Jgc rb n) N) (Jxc N) := by
  refine Xf Tryz.func175 O O fun q xids w2 XI XF hY => Kl (gv ?_); refine JQ (σ := Nat) (fun i => i ≤ N) (fun i => [(0, .func (.yield q) #[] #[]), (1, Kj p1), (2, Kj p2), (4, .int .i64 ((30 * i : Nat) : Int))]) (fun _ => []) (fun i => XI i) (fun i => N - i) 0 (Z') (lK O) (S') (fun _ _ h => h) ?_; intro i hi; refine gw ?_; refine Gp ?_; refine Fk ?_; refine cD (fun g => ?_) fun g => ?_
  · refine Hu ?_
    obtain ⟨M, hM⟩ : ∃ M, M = min 30 (n - 30 * i) := ⟨_, rfl⟩
    have hM1 : M ≤ 30 := by omega
    have hM2 : 0 < M := by omega
    refine KB 7 m4 m4 (Jt O O O (Jc O (Kn (k := 0) O) O O) (Jt O O O (Jc O (Kn (k := 1) O) O O) (kr ?_))); refine Jt O O O (zo (kl := some (30 * i)) (kh := none) (km := none) (sz := 1) (m := 30 * i) (q := n) (z := cap) O O O ⟨_, rfl⟩ trivial trivial O O O m3 hcap (Lc') (fun _ => rfl) O) (Jt O O O (Qh O O) ?_)
    refine Jt O O O (Jfd (r := ((M : Nat) : Int)) O O (by rw [hM]; split <;> omega)) ?_; refine Gk ?_; refine kB ?_; refine Gp ?_; refine kV ?_; refine J4 nr ?_; refine J5 3 O ?_; refine J4 nr ?_
    refine LR O (zo (kl := some (30 * i)) (kh := some (30 * i + M)) (km := some (30 * i + M)) (sz := 1) (m := 30 * i) (q := 30 * i + M) (z := 30 * i + M) (off' := 30 * i) O O O ⟨_, rfl⟩ ⟨_, rfl⟩ ⟨_, rfl⟩ O O O m3 (Lc') m3 (fun h => by cases h) (by rw [if_neg m3]; omega)) ?_; refine J4 (show _ = Value.slice (some ⟨rb, 30 * i, none⟩) (min 30 (n - 30 * i)) (min 30 (n - 30 * i)) from by congr 1 <;> omega) ?_; refine QN (XT := XI (i + 1)) (XF := XF) O O O O (hY i (Jgc rb n i) (i + 1) ⟨by omega, rfl, rfl⟩) ?_ ?_
    all_goals (
     refine kW ?_; refine Jl O (fun g => ?_) (fun g => ?_)
     · try exact Bool.noConfusion g
       all_goals try simp only [ZZ] at g
       all_goals (
        exact EI
        skip)
     · try exact Bool.noConfusion g
       all_goals try simp only [ZZ] at g
       all_goals (
        refine gx ?_; refine NM ?_
        refine GV ?_; refine J4 (show _ = Value.int .i64 ((30 * (i + 1) : Nat) : Int) from by rw [wrap_i64 m3 m3]; congr 1 <;> omega) ?_; exact kX
        skip)
     skip)
  · exact Hg
def Jgd (id s : BS) (i : Nat) : List FrE := (List.range i).map fun j => ⟨id, j, QH s j, false⟩
theorem xb (id s : BS) (i : Nat) : WU (Jgd id s i) ++ [Jk id, .int .i64 (i : Int), Jk (QH s i), .bool false] = WU (Jgd id s (i + 1)) := by
 unfold Jgd WU
 rw [List.range_succ, List.map_append, List.flatMap_append]; rfl
def Yr (id s : BS) : List FrE := [⟨id, 0, QH s 0, false⟩, ⟨id, 1, QH s 1, false⟩, ⟨id, 2, QH s 2, true⟩]
theorem row_some {n : Nat} {xs : List Value} (h : rowOk sz n xs row) (h0 : 0 < n) : ∃ r cap sp, row = some (r, cap, sp) := by
 cases row with
 | none => have := h.1; omega
 | some q => exact ⟨q.1, q.2.1, q.2.2, rfl⟩
theorem Jui (hid : id.length = 16) (hs1 : 60 < s.length) (hs2 : s.length ≤ 90) : PureT (α := { row : QZ // rowOk 4 3 (WU (Yr id s)) row }) prog 23 [Jk id, Jk s, .int .i64 30].toArray (fun y => .tuple #[JV 3 y.1, .int .i64 0]) [] (fun y => J9 72 (WU (Yr id s)) y.1) [] := by
 obtain ⟨N, hN⟩ : ∃ N, N = (s.length + 29) / 30 := ⟨_, rfl⟩
 have hN3 : N = 3 := by omega
 refine Jq Tryz.func23 O O fun w => MZ ?_; refine JR (cs := List.toArray ([Jk id])) O O O O fun r3 => J5 13 O (EB ?_); refine NQ ?_; refine Jl O (fun h6 => ?_) (fun h6 => ?_)
 exact absurd h6 (m7)
 ·try simp only [ZZ] at h6
  refine NG ?_; refine MS ?_; refine Eh ?_; refine Jl O (fun h8 => ?_) (fun h8 => ?_)
  exact absurd h8 ((by intro h; have := bne_iff_ne.1 h; omega))
  ·try simp only [ZZ] at h8
   refine gz ?_; refine H1 ?_; refine JT m3 m3 (G5 ?_); refine Jl O (fun h10 => ?_) (fun h10 => ?_)
   exact absurd h10 (nI)
   ·try simp only [ZZ] at h10
    refine gx ?_; refine LN O fun r8 => gp ?_; refine Jci O O O O O O fun rb kb => JI O (KG O O O (enters_of Tryz.func83 m4 O) (Jpl rb s.length (s.length + kb)) fun pp => ?_)
    obtain ⟨p1, p2⟩ := pp
    change HL _ _ _ [(p2, _), (p1, _), (rb, _), (r8, _), (r3, _)] _ _ _ _; refine NQ ?_; refine Zc [3, 0, 1, 2, 4] (L' := [_, _, _, _, _]) m7 O ?_
    refine Zr (τ := Unit) (fun i (q : Nat × QZ) => i ≤ N ∧ i = q.1 ∧ rowOk 4 q.1 (WU (Jgd id s q.1)) q.2) (fun q => (r8, .cells #[JV q.1 q.2] 67 (0, 0)) :: J9 72 (WU (Jgd id s q.1)) q.2) (fun _ _ => False) (fun _ => []) [(p2, _), (p1, _), (rb, _), (r3, _)] (0, none) O O (enters_of Tryz.func175 m4 O) (Jpm (rb := rb) (cap := s.length + kb) hN m3 m3 p1 p2) M0 O (fun q hq => .inl (by rcases F'.1 hq with rfl | hq; exact N'; rw [U'.1 hq]; exact M' N')) O ⟨Z', rfl, rfl, rfl⟩ ?_ ?_ ?_
    rintro q Xr Xb w3 i _ _ ⟨i2, row⟩ ⟨hii, rfl, rfl⟩ ⟨him, he, hrow⟩ Kr hKr; refine inR ?_
    simp only at he
    obtain rfl := he
    simp only at hrow
    unfold Jgc
    refine KF 3 O (EW ?_); clear hKr; refine NG ?_; refine LR O (Jc (v := JV i row) O (kn 0 O) O O) (LR O (Jc (v := Jk id) O (Kn (k := 3) O) O O) (LR O (Jc (v := JV i row) O (kn 0 O) O O) (LR O (jw O hrow.zero O) (JI O (LR O (Jd8 (b := QH s i) O (Kn (k := 2) O) (jj s i).symm (Jpk s i _) O O O) (LR O (Jo (r := [_, _, _, _]) O O) ?_)))))); refine JO (n := 1) (sz := 4) (vs := [_]) (zs := [_, _, _, _]) (r := [Jk id, .int .i64 (i : Int), Jk (QH s i), .bool false]) O O O O O O O O O n5 O fun rv => Kw (L0 := [_, _]) (xs := WU (Jgd id s i)) (row := row) (n := i) (sz := 4) (b := 48) (news := [Jk id, .int .i64 (i : Int), Jk (QH s i), .bool false]) (B' (l₁ := [_, _])) O O O O (kn 0 O) O O O O O m7 O O O m7 hrow m3 m3 fun ra cap sp hra => Jm (k := 2) (cs' := #[JV (i + 1) (some (ra, cap, sp))]) O O O O O O O O O O (JD 2 O (QO [2, 0] (L' := [_, _]) m7 O ?_)); exact Xg (i + 1, some (ra, cap, sp)) ⟨by omega, rfl, by simp only; rw [← xb]; exact hra⟩ (by simp only; rw [← xb]; rfl)
    rintro D i ⟨i2, row⟩ hfi ⟨him, he, hrow⟩
    simp only at he hrow
    obtain rfl : N = i := Eq.symm hfi
    obtain rfl := he
    subst hN3
    obtain ⟨ra, cap, sp, rfl⟩ := row_some hrow m7
    refine wh 5 O (MY ?_); refine Fk ?_; refine Jl O (fun h16 => ?_) (fun h16 => ?_)
    exact absurd h16 (mf)
    try simp only [ZZ] at h16
    refine gw ?_; refine MY ?_; refine MY ?_; refine Gq ?_; refine KC O (JT m3 m3 ?_)
    refine LR O (Qn (j := 2) (m := 4) (off' := 2 * 4) O O O O O (by show 2 < 3; decide) (by first | decide | simp)) ?_
    refine MP ?_; refine Xh (k := 2) (off := 11) (xs := WU (Jgd id s 3) ++ sp) (ys := WU (Yr id s) ++ sp) O O O O O O (by rw [C']; exact Nat.lt_add_right _ (show 11 < 12 from by decide)) rfl rfl (kV ?_); refine MY ?_; refine G4 ?_; refine Wp (k := 0) O O (MT fun w1 hs1 => ?_); exact ⟨⟨some (ra, cap, sp), hrow.same O⟩, rfl, hs1.weakL (.cons _ (.cons _ (.cons_cons _ (S'))))⟩
    ·exact fun _ _ _ h => h.elim
def jnE (l : List FrE) (i : Nat) : BS := (l.take i).flatMap FrE.data
theorem Jaw {l : List FrE} {f : FrE} (h : l[i]? = some f) : jnE l i ++ f.data = jnE l (i + 1) := by
 unfold jnE
 rw [List.take_add_one, h, Option.toList_some, List.flatMap_append]; simp
theorem Jwv (l : List FrE) (i : Nat) : (jnE l i).length ≤ (l.flatMap FrE.data).length := by
 have h : l.flatMap FrE.data = (l.take i).flatMap FrE.data ++ (l.drop i).flatMap FrE.data := by rw [← List.flatMap_append, List.take_append_drop]
 rw [h, C']; unfold jnE; omega
theorem Jpn {l : List FrE} {p : Pl} (hl : l.length ≤ 1000000) (hs : Seg R l.length (WU l) p) (hh : HeardF l) (hw : WholeF l) (hd : (l.flatMap FrE.data).length ≤ 1000000) :
  PureR prog 20 [Km l.length p].toArray (.tuple #[Jk (l.flatMap FrE.data), .int .i64 0]) R := by
 refine J1 Tryz.func20 O O fun w => Kl (Jv 11 O (Ju O O O (enters_of Tryz.func69 m4 O) (Jug hl hs hh) oR (G5 ?_))); refine Jl O (fun h4 => ?_) (fun h4 => ?_)
 exact absurd h4 (m7)
 ·try simp only [ZZ] at h4
  refine gz ?_; refine Ju O O O (enters_of Tryz.func76 m4 O) (Juh hl hs hw) oR (G5 ?_); refine Jl O (fun h6 => ?_) (fun h6 => ?_)
  exact absurd h6 (m7)
  ·try simp only [ZZ] at h6
   refine gx ?_; refine LN O fun rB => gp ?_; refine No ?_; refine JQ (σ := Nat × QZ × Bool) (fun z => z.1 ≤ l.length ∧ bOk (jnE l z.1) z.2.1) (fun z => [(4, Kj rB), (15, Km l.length p), (16, .int .i64 (l.length : Int)), (17, .int .i64 (z.1 : Int))]) (fun z => VF rB (jnE l z.1) z.2.1 z.2.2) (fun _ _ _ => True) (fun z => l.length - z.1) (0, none, false) ⟨Z', ⟨⟨rfl, rfl⟩, fun _ => rfl⟩⟩ (lK O) (T') (fun _ _ h => h) ?_; rintro ⟨i, row, own⟩ hI
   obtain ⟨hi1, hbk⟩ := hI
   simp only at hi1 hbk; change HC _ _ _ (VF rB (jnE l i) row own) _ _ _; refine gv ?_; refine cD (fun g => ?_) fun g => ?_
   ·refine Hu ?_
    obtain ⟨f, hf, hmf⟩ := Vh nU
    refine Dc fun rx => ?_; refine J5 3 O ?_
    refine N5 ?_; refine Jx (T := VF rB (jnE l i) row own) (L0 := [(rx, _)]) (Rl := []) (B' (l₁ := [_])) O O O Jfu (YC hbk (by have := Jwv l (i + 1); rw [← Jaw hf, C'] at this; omega)) oN fun x => ?_
    obtain ⟨row1, hrow1⟩ := x
    rw [Jaw hf] at hrow1; simp only [Jaw hf]; refine kB ?_; refine gK ?_; exact JL (i + 1, row1, true) ⟨by simp only; omega, hrow1⟩ mj (lK rfl) (List.sublist_append_left _ _) (fun _ _ h => h)
   ·refine DE ?_; refine Jx (T := VF rB (jnE l i) row own) (L0 := []) (Rl := []) (List.Perm.of_eq (List.append_nil _).symm) O O O Js9 (Jal hbk (by have := Jwv l i; omega)) oN fun x5 => G4 ?_; refine Np fun w1 hs1 => ?_
    have hiM : i = l.length := by omega
    rw [show jnE l i = l.flatMap FrE.data from by unfold jnE; rw [hiM, List.take_length]]; rfl
theorem Jk8 (hid : id.length = 16) : HeardF (Yr id s) where
 ok := by
  intro f hf
  have hp : ∀ i, (QH s i).length ≤ 30 := fun i => by rw [jj]; omega
  have h0 := hp 0
  have h1 := hp 1
  have h2 := hp 2
  simp only [Yr, F', List.not_mem_nil, or_false] at hf
  rcases hf with rfl | rfl | rfl <;> (unfold Ww; rw [if_neg mj, if_neg mj])
 id := by
  intro f hf g hg; simp only [Yr, F', List.not_mem_nil, or_false] at hf; simp only [Yr, List.getElem?_cons_zero, Option.some.injEq] at hg; subst hg
  rcases hf with rfl | rfl | rfl <;> rfl
 up := by
  intro i f g hf h0 hg
  match i, h0, hf, hg with
  | 1, _, hf, hg =>
   have hf : some (⟨id, 1, QH s 1, false⟩ : FrE) = some f := hf
   have hg : some (⟨id, 0, QH s 0, false⟩ : FrE) = some g := hg
   cases hf; cases hg; exact ⟨rfl, (show (0 : Nat) < 1 by decide)⟩
  | 2, _, hf, hg =>
   have hf : some (⟨id, 2, QH s 2, true⟩ : FrE) = some f := hf
   have hg : some (⟨id, 1, QH s 1, false⟩ : FrE) = some g := hg
   cases hf; cases hg; exact ⟨rfl, (show (1 : Nat) < 2 by decide)⟩
  | n + 3, _, hf, _ => simp [Yr] at hf
theorem Jk9 (id s : BS) : WholeF (Yr id s) where
 pos := (show 0 < 3 by decide)
 end_ := by
  intro f hf
  have hf : some (⟨id, 2, QH s 2, true⟩ : FrE) = some f := hf
  cases hf
  exact ⟨rfl, rfl⟩
theorem Jpo (hs : s.length ≤ 90) : (Yr id s).flatMap FrE.data = s := by
 have h : (Yr id s).flatMap FrE.data = QH s 0 ++ (QH s 1 ++ QH s 2) := by simp [Yr]
 rw [h]
 unfold QH
 rw [Nat.mul_zero, List.drop_zero, List.take_of_length_le (i := 30) (l := s.drop (30 * 2)) nX, show 30 * 2 = 30 * 1 + 30 from rfl, ← List.drop_drop, List.take_append_drop, List.take_append_drop]
structure WrapS (l : List BS) : Prop where
  pos : 0 < l.length
  le : l.length ≤ 64
  each : ∀ s ∈ l, QQ s.length = 0
  all : l.flatten.length ≤ 131072
theorem Jpp (s : BS) : PureE (α := Nat) prog 88 [Jk s].toArray (fun r => .func (.func 181) #[] #[Kj r]) (fun r => [stB r s]) := by
 refine Qm Tryz.func88 O O fun w => ?_; exact gF
def Jd9 (k v : Int) : Int × Int × Bool :=
 if k = 1 then (if v = 4 then (5, 5, true) else (0, 5, (v == 0 || v == 1 || v == 2 || v == 126)))
 else if k = 2 then (if v = 2 then (2, 5, true) else (v, v, (v == 0 || v == 1)))
 else if k = 3 then (IntKind.i64.wrap (3 * v), 5, (v == 0 || v == 1))
 else if k = 4 then (IntKind.i64.wrap (2 * v), 5, (v == 0 || v == 2))
 else if k = 5 then (IntKind.i64.wrap (5 * v), IntKind.i64.wrap (4 + v), (v == 0 || v == 1))
 else (0, 0, false)
end Go.Proofs.YtckoepmdmhdepaaGreatDoor
