import Derived.Test.YtckoepmdmhdepaaGreatDoorZtSpanse
import Derived.Test.YtckoepmdmhdepaaGreatDoorProg
set_option maxRecDepth 100000
namespace Go.Proofs.YtckoepmdmhdepaaGreatDoor
set_option linter.all false
open Go.SL Go.RowKit Go.Shelf
open Go.Proofs (Enters enters_of)
theorem Jgz {r : Nat} {s : BS} {v : UInt8} {row : QH} {own : Bool} (hb : bOk s row) (hl : s.length + 1 ≤ 1000000) :
  PureT (α := { x : QH // bOk (s ++ [v]) x }) Tryz.prog 81 [Kw r, bV v].toArray (fun _ => .nilIface) (QS r s row own) (fun x => QS r (s ++ [v]) x.1 true) [] := by
 have hrow := hb.1
 refine J1 Tryz.func81 rfl rfl fun w => ?_
 unfold QS
 refine sR fun _ hK1 => ?_; refine Jb rfl ?_; refine nK hK1 ?_; refine sR fun _ hK2 => ?_; refine Jb rfl (J9 (T := [vF r s row own]) (L0 := Kk 5 (s.map bV) row) (Rl := []) (List.Perm.refl _) rfl rfl rfl (enters_of Tryz.func172 (by kernel_rfl) rfl) (Y3 r s row own) oN fun u => ?_); change HL _ _ _ (vF r s row true :: Kk 5 (s.map bV) row) _ _ _ _; refine nK hK2 ?_; refine sR fun _ hK3 => ?_; refine Jb rfl (Jb rfl (J2 rfl ?_))
 refine LR rfl (Ja rfl rfl (by first | (simp only [Nat.zero_add, Nat.reduceAdd, Nat.reduceMul, Nat.zero_mul, Nat.mul_one, Nat.add_zero]; exact rfl) | exact rfl)) ?_; refine LR rfl (Jc (v := JO s.length row) rfl (kn 0 rfl) rfl rfl) ?_; refine Jb rfl ?_; refine JV (n := 1) (sz := 1) (vs := [_]) (zs := [_]) (r := [bV v]) rfl rfl rfl rfl rfl rfl rfl rfl rfl (by show (madeCells #[_] _).toList = _; rw [KA]; exact rfl) rfl fun rb => ?_; refine Kh (L0 := [(rb, _), (r, .cells #[pB true r, JO s.length row] 154 (0, 0))]) (xs := s.map bV) (row := row) (n := s.length) (sz := 1) (b := 1) (news := [bV v]) (List.perm_append_comm (l₁ := [_, _])) rfl rfl rfl rfl (kn 0 rfl) rfl rfl rfl rfl rfl (by decide) rfl rfl rfl (by decide) hrow (by omega) (by omega) fun ra cap sp hra => ?_; refine Kv (jC _ _ _ []) ?_; refine J2 rfl ?_
 refine LR rfl (Ja rfl rfl (by first | (simp only [Nat.zero_add, Nat.reduceAdd, Nat.reduceMul, Nat.zero_mul, Nat.mul_one, Nat.add_zero]; exact rfl) | exact rfl)) ?_; refine Ju (k := 0) (cs' := #[pB true r, JO (s ++ [v]).length (some (ra, cap, sp))]) rfl rfl rfl rfl rfl rfl rfl rfl (by rw [List.length_append]; rfl) rfl ?_; refine nK hK3 ?_; refine sR fun _ hK4 => ?_; refine Jb rfl ?_; refine nK hK4 ?_; refine Jd ?_; refine pT rfl rfl rfl fun w1 hs1 => ?_
 have e : s.map bV ++ [bV v] = (s ++ [v]).map bV := by rw [List.map_append]; rfl
 rw [e] at hs1 hra; exact ⟨⟨some (ra, cap, sp), (by rw [List.length_append]; exact hra), fun h => by simp at h⟩, rfl, hs1.weakL (.cons_cons _ (.cons_cons _ (List.nil_sublist _)))⟩
theorem Ja7 (a b : Int) : (a == b) = decide (a = b) := by
 by_cases h : a = b
 ·rw [h, beq_self_eq_true, decide_eq_true rfl]
 ·rw [decide_eq_false h]; exact beq_eq_false_iff_ne.2 h
def VE (n : Nat) : Int := if n < 2 then 2 else if n > 32768 then 5 else 0
theorem Ja8 {n : Nat} (hn : VG n) : Pure Tryz.prog 180 [uV n].toArray (.int .i64 (VE n)) := by
 refine JF Tryz.func180 rfl rfl fun w => ?_; refine sR fun _ hK1 => ?_; refine Jb rfl ?_; refine nK hK1 ?_; refine sB fun _ hK2 => ?_; refine sR fun _ hK3 => ?_; refine Jb rfl (J2 rfl (Jb rfl ?_)); refine nK hK3 ?_; refine cD (fun g => ?_) fun g => ?_
 refine sR fun _ hK5 => ?_; refine Jb rfl ?_; refine nK hK5 ?_; refine Jd (Jr (Ji ?_)); refine pT rfl rfl rfl fun w1 hs1 => ?_; refine ⟨congrArg (fun z => Ending.returned (Value.int .i64 z)) ?_, hs1.keep⟩
 unfold VE
 rw [if_pos (by omega)]
 ·refine sR fun _ hK6 => ?_; refine Jb rfl (J2 rfl (Jb rfl ?_)); refine nK hK6 ?_; refine cD (fun g => ?_) fun g => ?_
  refine sR fun _ hK8 => ?_; refine Jb rfl ?_; refine nK hK8 ?_; refine Jd (Jr (Ji ?_)); refine pT rfl rfl rfl fun w1 hs1 => ?_; refine ⟨congrArg (fun z => Ending.returned (Value.int .i64 z)) ?_, hs1.keep⟩
  unfold VE
  rw [if_neg (by omega), if_pos (by omega)]
  ·refine Jg (Jo (hK2 ?_)); refine sR fun _ hK9 => ?_; refine Jb rfl ?_; refine nK hK9 ?_; refine Jd ?_; refine pT rfl rfl rfl fun w1 hs1 => ?_; refine ⟨congrArg (fun z => Ending.returned (Value.int .i64 z)) ?_, hs1.keep⟩
   unfold VE
   rw [if_neg (by omega), if_neg (by omega)]
def isB (r : Nat) (e : Int) : Nat × Obj := (r, .cells #[.int .i64 e] 43 (0, 0))
theorem Joj (e : Int) : PureE (α := Nat) Tryz.prog 174 [.int .i64 e].toArray (fun r => .func (.func 230) #[] #[Kw r]) (fun r => [isB r e]) := by
 refine KZ Tryz.func174 rfl rfl fun w => ?_; refine sR fun _ hK1 => ?_; refine LN rfl fun r1 => ?_; refine Jb rfl ?_; refine nK hK1 ?_; refine sR fun _ hK2 => ?_; refine LR rfl (JQ rfl rfl) ?_; refine Jb rfl ?_; refine nK hK2 ?_; refine Jd ?_; refine pT rfl rfl rfl fun w1 hs1 => ?_; exact ⟨_, rfl, hs1⟩
theorem Jk3 {R : Jy} {s : BS} {r : Nat} {e : Int} (hl : s.length ≤ 1000000) (h : isB r e ∈ R) : PureR Tryz.prog 230 [Jq s, Kw r].toArray (.bool (decide (VE s.length = e))) R := by
 have hP := Ja8 (n := s.length) (show s.length < 18446744073709551616 by omega)
 refine Jz Tryz.func230 rfl rfl fun w => ?_; refine sR fun _ hK1 => ?_; refine Jb rfl ?_; refine nK hK1 ?_; refine sQ fun _ hK2 => ?_; refine Qs 7 (by kernel_rfl) (by kernel_rfl) ?_; refine JD rfl rfl rfl (JG rfl) ?_; refine JD rfl rfl rfl (JI rfl rfl) ?_; refine JD rfl rfl rfl (KC rfl rfl rfl) ?_; refine vZ (by omega) (by omega) ?_; refine VT rfl rfl rfl (enters_of Tryz.func180 (by kernel_rfl) rfl) hP ?_; refine JD rfl rfl rfl (Jc rfl (Or.inr h) rfl rfl) ?_; refine JD rfl rfl rfl (KC rfl rfl rfl) ?_; refine JD rfl rfl rfl (JY rfl) ?_; refine Q8 ?_; refine nK hK2 ?_; refine Jd ?_; refine pT rfl rfl rfl fun w1 hs1 => ?_; exact ⟨congrArg (fun b => Ending.returned (Value.bool b)) (Ja7 _ _), hs1.keep⟩
theorem Jg0 {R : Jy} {l : List BS} {p : Pl} (hs : Seg R l.length (KN l) p) (hl : l.flatten.length ≤ 1000000) (hn : l.length ≤ 1000000) : PureR Tryz.prog 89 [Ky l.length p].toArray (.bool (decide (l.flatten.length ≤ 131072))) R := by
 refine Jz Tryz.func89 rfl rfl fun w => ?_; refine sR fun _ hK1 => ?_; refine Jb rfl ?_; refine nK hK1 ?_; refine sR fun _ hK2 => ?_; refine Jb rfl (J4 rfl rfl rfl Jey (zC hs (by omega) (by omega)) oR (LR rfl (JI rfl rfl) ?_)); refine J2 rfl (Jb rfl ?_); refine nK hK2 ?_; refine Jd ?_; refine pT rfl rfl rfl fun w1 hs1 => ?_; exact ⟨congrArg (fun b => Ending.returned (Value.bool b)) (decide_eq_decide.2 (by omega)), hs1.keep⟩
def Vk (l : List BS) : Int := if l.length = 0 ∨ (l.any fun s => decide (VE s.length = 2)) = true then 2 else if 64 < l.length ∨ (l.any fun s => decide (VE s.length = 5)) = true ∨ ¬ l.flatten.length ≤ 131072 then 5 else 0
theorem Y9 {l : List BS} {s : BS} (h : s ∈ l) : s.length ≤ l.flatten.length := by
 induction l with
 | nil => cases h
 | cons a r ih =>
  rw [List.flatten_cons, List.length_append]
  rcases List.mem_cons.1 h with rfl | h
  ·omega
  ·have := ih h; omega
theorem Jg1 {R : Jy} {l : List BS} {p : Pl} (hs : Seg R l.length (KN l) p) (hl : l.flatten.length ≤ 1000000) (hn : l.length ≤ 1000000) : PureR Tryz.prog 80 [.int .i64 2, Ky l.length p].toArray (.int .i64 (Vk l)) R := by
  refine Jz Tryz.func80 rfl rfl fun w => ?_; refine sR fun _ hK1 => ?_; refine Jb rfl ?_; refine nK hK1 ?_; refine sB fun _ hK2 => ?_; refine sR fun _ hK3 => ?_; refine Jb rfl (J2 rfl ?_); refine Jb rfl (Jb rfl ?_); refine J2 rfl (LR rfl (Jx rfl rfl) (Jb rfl ?_)); refine nK hK3 ?_; refine Jl rfl (fun h6 => ?_) (fun h6 => ?_)
  exact absurd h6 ((by decide))
  · try simp only [ZZ] at h6
    refine sR fun _ hK7 => ?_; refine Jb rfl (LR rfl (JJ rfl hs rfl) ?_); refine J2 rfl (Jb rfl ?_)
    refine JM 16 rfl (fun gb => ?_) (fun gb => ?_) <;> (try simp only [ZZ] at gb) <;> first | (refine Jb rfl ?_) | (refine LK rfl ?_)
    all_goals first | (refine Qh rfl rfl rfl (enters_of Tryz.func174 (by kernel_rfl) rfl) (Joj 2) fun re2 => ?_) | refine LK rfl ?_
    all_goals first | (refine J4 rfl rfl rfl Jab (Wr (R := isB re2 2 :: R) (caps := [Kw re2]) (pr := fun s => decide (VE s.length = 2)) (by omega) (hs.mono fun q hq => List.mem_cons_of_mem _ hq) (enters_of Tryz.func230 (by kernel_rfl) rfl) (fun x hx => Jk3 (by have := Y9 hx; omega) List.mem_cons_self)) (fun q hq => (List.mem_cons.1 hq).elim (fun h => Or.inl (h ▸ List.mem_cons_self)) Or.inr) ?_) | refine LK rfl ?_
    all_goals first | refine LR rfl (Jx rfl rfl) ?_ | refine LR rfl (J5 rfl rfl) ?_
    all_goals (
     refine Jb rfl (Jt (hK7 ?_)); refine Jl rfl (fun g => ?_) (fun g => ?_)
     try simp only [ZZ] at g
     refine sR fun _ hK12 => ?_; refine Jb rfl ?_; refine nK hK12 ?_; refine Jd (Jr (Ji ?_)); refine pT rfl rfl rfl fun w1 hs1 => ?_; refine ⟨?_, hs1.keep⟩
     first | (rw [show Vk l = 2 from by unfold Vk; exact if_pos (.inl (by omega))]; rfl) | (rw [show Vk l = 2 from by unfold Vk; exact if_pos (.inr (by assumption))]; rfl)
     · try exact Bool.noConfusion g
       all_goals try simp only [ZZ] at g
       all_goals (
        refine sR fun _ hK13 => ?_; refine Jb rfl (LR rfl (JJ rfl hs rfl) ?_); refine J2 rfl (Jb rfl ?_)
        refine JM 25 rfl (fun gb => ?_) (fun gb => ?_) <;> (try simp only [ZZ] at gb) <;> first | (refine Jb rfl ?_) | (refine LK rfl ?_)
        all_goals first | (refine Qh rfl rfl rfl (enters_of Tryz.func174 (by kernel_rfl) rfl) (Joj 5) fun re5 => ?_) | refine LK rfl ?_
        all_goals first | (refine J4 rfl rfl rfl Jab (Wr (R := isB re5 5 :: R) (caps := [Kw re5]) (pr := fun s => decide (VE s.length = 5)) (by omega) (hs.mono fun q hq => List.mem_cons_of_mem _ hq) (enters_of Tryz.func230 (by kernel_rfl) rfl) (fun x hx => Jk3 (by have := Y9 hx; omega) List.mem_cons_self)) (fun q hq => (List.mem_cons.1 hq).elim (fun h => Or.inl (h ▸ List.mem_cons_self)) Or.inr) ?_) | refine LK rfl ?_
        all_goals first | refine LR rfl (Jx rfl rfl) ?_ | refine LR rfl (J5 rfl rfl) ?_
        all_goals refine Jb rfl ?_
        all_goals first | refine LK rfl ?_ | (refine JM 30 rfl (fun gb => ?_) (fun gb => ?_) <;> (try simp only [ZZ] at gb) <;> first | (refine Jb rfl ?_) | (refine LK rfl ?_))
        all_goals first | (refine J4 rfl rfl rfl (enters_of Tryz.func89 (by kernel_rfl) rfl) (Jg0 hs hl hn) oR ?_) | refine LK rfl ?_
        all_goals first | refine J2 rfl ?_ | refine LK rfl ?_
        all_goals first | refine LR rfl (Jx rfl rfl) ?_ | refine LR rfl (J5 rfl rfl) ?_
        all_goals (
         refine Jb rfl (Jt (hK13 ?_)); refine Jl rfl (fun g => ?_) (fun g => ?_)
         · try simp only [ZZ] at g
           refine sR fun _ hK21 => ?_; refine Jb rfl ?_; refine nK hK21 ?_; refine Jd (Jr (Ji ?_)); refine pT rfl rfl rfl fun w1 hs1 => ?_; refine ⟨?_, hs1.keep⟩
           first | (rw [show Vk l = 5 from by unfold Vk; rw [if_neg (by rintro (h | h) <;> first | omega | exact absurd (h.symm.trans (show _ = false by assumption)) (by decide)), if_pos (.inl (by omega))]]; rfl) | (rw [show Vk l = 5 from by unfold Vk; rw [if_neg (by rintro (h | h) <;> first | omega | exact absurd (h.symm.trans (show _ = false by assumption)) (by decide)), if_pos (.inr (.inl (by assumption)))]]; rfl) | (rw [show Vk l = 5 from by unfold Vk; rw [if_neg (by rintro (h | h) <;> first | omega | exact absurd (h.symm.trans (show _ = false by assumption)) (by decide)), if_pos (.inr (.inr (by omega)))]]; rfl)
         · try exact Bool.noConfusion g
           all_goals try simp only [ZZ] at g
           all_goals (
            refine Jg (Jo (hK2 ?_)); refine sR fun _ hK22 => ?_; refine Jb rfl ?_; refine nK hK22 ?_; refine Jd ?_; refine pT rfl rfl rfl fun w1 hs1 => ?_; refine ⟨?_, hs1.keep⟩
            rw [show Vk l = 0 from by unfold Vk; rw [if_neg (by rintro (h | h) <;> first | omega | exact absurd (h.symm.trans (show _ = false by assumption)) (by decide)), if_neg (by rintro (h | h | h) <;> first | omega | exact absurd (h.symm.trans (show _ = false by assumption)) (by decide))]]; rfl
            skip)
         skip)
        skip)
     skip)
def QO (l : List BS) (i : Nat) : BS := 2 :: (Vn l.length ++ (l.take i).flatMap fun s => Vn s.length ++ s)
def VO (l : List BS) : BS := QO l l.length
theorem V5 {l : List BS} {i : Nat} {s : BS} (h : l[i]? = some s) : QO l i ++ Vn s.length ++ s = QO l (i + 1) := by
 unfold QO
 rw [List.take_add_one, h, Option.toList_some, List.flatMap_append]; simp
theorem ZQ {l : List BS} (i : Nat) : (QO l i).length ≤ (VO l).length := by
 have h : (l.flatMap fun s => Vn s.length ++ s) = ((l.take i).flatMap fun s => Vn s.length ++ s) ++ (l.drop i).flatMap fun s => Vn s.length ++ s := by rw [← List.flatMap_append, List.take_append_drop]
 unfold VO QO
 rw [List.take_length, h]; simp
theorem Jmv {R : Jy} {l : List BS} {p : Pl} (hs : Seg R l.length (KN l) p) (hl : l.flatten.length ≤ 1000000) (hn : l.length ≤ 1000000) (hw : (VO l).length ≤ 1000000) :
  PureR Tryz.prog 22 [.int .i64 2, Ky l.length p].toArray (.tuple #[Jq (if Vk l ≠ 0 then [] else VO l), .int .i64 (Vk l)]) R := by
 have h0 := ZQ (l := l) 0
 have hv0 : (Vn l.length).length + 1 ≤ 1000000 := by unfold QO at h0; simp at h0; omega
 refine Jz Tryz.func22 rfl rfl fun w => ?_; refine sR fun _ hK1 => ?_; refine Jb rfl (Jb rfl ?_); refine nK hK1 ?_; refine sQ fun _ hK2 => ?_; refine sR fun _ hK3 => ?_; refine Jb rfl (Jb rfl (J4 rfl rfl rfl (enters_of Tryz.func80 (by kernel_rfl) rfl) (Jg1 hs hl hn) oR ?_)); refine Jb rfl ?_; refine nK hK3 ?_; refine sR fun _ hK4 => ?_; refine Jb rfl (J2 rfl ?_); refine nK hK4 ?_; refine cD (fun g => ?_) fun g => ?_
 refine sR fun _ hK6 => ?_; refine Jb rfl (Jb rfl (Jb rfl ?_)); refine nK hK6 ?_; refine Jd (Ji ?_); refine Jp rfl rfl (.cons (Jk rfl) (.cons (Jk rfl) .nil)) (fun w1 hs1 => ?_); refine ⟨?_, hs1.keep⟩; rw [if_pos (by assumption)]; rfl
 ·refine Jg (hK2 ?_); refine sR fun _ hK7 => ?_; refine LN rfl fun rB => ?_; refine nK hK7 ?_; refine sQ fun _ hK8 => ?_; refine sR fun _ hK9 => ?_; refine Jb rfl (J2 rfl ?_); refine nK hK9 ?_; refine Jl rfl (fun h10 => ?_) (fun h10 => ?_)
  ·try simp only [ZZ] at h10
   refine sR fun _ hK11 => ?_; refine J9 (T := QS rB [] none false) (L0 := []) (Rl := []) (List.Perm.of_eq (List.append_nil _).symm) rfl rfl rfl (enters_of Tryz.func81 (by kernel_rfl) rfl) (Jgz (v := 2) ⟨⟨rfl, rfl⟩, fun _ => rfl⟩ (by simp)) oN fun x1 => ?_; rw [List.append_nil]; refine nK hK11 ?_; refine Je (Jb rfl (LR rfl (JJ rfl hs rfl) ?_)); refine J2 rfl (QQ (by omega) (by omega) (JC rfl rfl rfl (enters_of Tryz.func82 (by kernel_rfl) rfl) (qx (show l.length < 18446744073709551616 by omega)) ?_)); refine J9 (T := QS rB ([] ++ [2]) x1.1 true) (L0 := []) (Rl := []) (List.Perm.of_eq (List.append_nil _).symm) rfl rfl rfl zw (WY x1.2 (by simp; omega)) oN fun x2 => ?_
   obtain ⟨row0, hrow0⟩ := x2
   rw [List.append_nil]
   have hp0 : ([] ++ [2] ++ Vn l.length : BS) = QO l 0 := by simp [QO]
   rw [hp0] at hrow0; simp only [hp0]; refine nK hK8 ?_; refine sQ fun _ hK12 => ?_; refine sR fun _ hK13 => ?_; refine Jb rfl (LR rfl (JJ rfl hs rfl) (Jb rfl ?_)); refine nK hK13 ?_; refine J3 (JS (σ := Nat × QH × Bool) (fun z => z.1 ≤ l.length ∧ bOk (QO l z.1) z.2.1) (fun z => [(0, .int .i64 2), (7, Kw rB), (26, Ky l.length p), (27, .int .i64 (l.length : Int)), (28, .int .i64 (z.1 : Int))]) (fun z => QS rB (QO l z.1) z.2.1 z.2.2) (fun _ _ _ => True) (fun z => l.length - z.1) (0, row0, true) ⟨Nat.zero_le _, hrow0⟩ (lK rfl) (List.Sublist.refl _) (fun _ _ h => h) ?_); rintro ⟨i, row, own⟩ hI
   obtain ⟨hi1, hbk⟩ := hI
   simp only at hi1 hbk; change HC _ _ _ (QS rB (QO l i) row own) _ _ _; refine sR fun _ hK14 => ?_; refine J2 rfl ?_; refine nK hK14 ?_; refine sQ fun _ hK15 => ?_; refine cD (fun g => ?_) fun g => ?_
   ·refine Jg (hK15 ?_); refine sB fun _ hK17 => ?_; refine sQ fun _ hK18 => ?_
    obtain ⟨s, hsi, hms⟩ := QA (show i < l.length by omega)
    have hle := Nat.le_trans (ZQ (l := l) (i + 1)) hw
    have hsl := Y9 hms
    refine Je ?_
    refine LR rfl (JB (j := i) rfl hs rfl rfl rfl (by first | rfl | omega) (by omega)) ?_; refine LR rfl (Qy oR rfl hs (by omega) rfl (show (KN l)[i]? = some (Jq s) from by unfold KN; rw [List.getElem?_map, hsi]; rfl)) ?_; refine Jb rfl ?_; refine nK hK18 ?_; refine sQ fun _ hK19 => ?_; refine sR fun _ hK20 => ?_; refine Jb rfl (J2 rfl ?_); refine nK hK20 ?_; refine Jl rfl (fun h21 => ?_) (fun h21 => ?_)
    ·try simp only [ZZ] at h21
     refine sR fun _ hK22 => ?_; refine Jb rfl (LR rfl (JI rfl rfl) ?_); refine J2 rfl (QQ (by omega) (by omega) (JC rfl rfl rfl (enters_of Tryz.func82 (by kernel_rfl) rfl) (qx (show s.length < 18446744073709551616 by omega)) ?_)); refine J9 (T := QS rB (QO l i) row own) (L0 := []) (Rl := []) (List.Perm.of_eq (List.append_nil _).symm) rfl rfl rfl zw (WY hbk (by rw [← V5 hsi] at hle; simp at hle; omega)) oN fun x3 => ?_; rw [List.append_nil]; refine nK hK22 ?_; refine sR fun _ hK23 => ?_; refine Jb rfl ?_; refine J9 (T := QS rB (QO l i ++ Vn s.length) x3.1 true) (L0 := []) (Rl := []) (List.Perm.of_eq (List.append_nil _).symm) rfl rfl rfl zw (WY x3.2 (by rw [← V5 hsi] at hle; simp at hle ⊢; omega)) oN fun x4 => ?_
     obtain ⟨row4, hrow4⟩ := x4
     rw [List.append_nil]; rw [V5 hsi] at hrow4; simp only [V5 hsi]; refine nK hK23 ?_; refine JL (Jn ?_); refine J8 (hK17 ?_); refine Je ?_
     refine J2 rfl ?_; refine JA (show _ = Value.int .i64 ((i + 1 : Nat) : Int) from by rw [wrap_i64 (by omega) (by omega)]; congr 1 <;> omega) ?_; refine Jb rfl (Jt (JU ?_)); exact JN (i + 1, row4, true) ⟨by simp only; omega, hrow4⟩ (by simp only; omega) (lK rfl) (List.Sublist.refl _) (fun _ _ h => h)
    exact absurd h21 ((by decide))
   refine JL (Jn ?_); refine Jn (J8 (hK12 ?_)); refine sR fun _ hK24 => ?_; refine J9 (T := QS rB (QO l i) row own) (L0 := []) (Rl := []) (List.Perm.of_eq (List.append_nil _).symm) rfl rfl rfl Jid (vG hbk (by have := ZQ (l := l) i; omega)) oN fun x5 => ?_; refine Jb rfl (Jb rfl ?_); refine nK hK24 ?_; refine Jd ?_; refine Jp rfl rfl (.cons (Jk rfl) (.cons (Jk rfl) .nil)) (fun w1 hs1 => ?_); refine ⟨?_, hs1.keep⟩
   (have hiM : i = l.length := by omega
    have h0 : Vk l = 0 := by omega
    rw [h0, if_neg (by simp), hiM]; rfl)
  ·exact absurd h10 ((by decide))
structure FrE where
  id : BS
  num : Nat
  data : BS
  last : Bool
def FrE.cells (f : FrE) : List Value := [Jq f.id, .int .i64 (f.num : Int), Jq f.data, .bool f.last]
def FrE.val (f : FrE) : Value := .agg f.cells.toArray
theorem FrE.len (f : FrE) : f.cells.length = 4 := rfl
def VF (l : List FrE) : List Value := l.flatMap FrE.cells
def Vz (f : FrE) : Int := if f.id.length ≠ 16 ∨ 65535 < f.num then 2 else if 4096 < f.data.length then 5 else 0
theorem yG (f : FrE) : Pure Tryz.prog 70 [f.val].toArray (.int .i64 (Vz f)) := by
  refine JF Tryz.func70 rfl rfl fun w => ?_; refine sR fun _ hK1 => ?_; refine JX (cs := List.toArray (f.cells)) rfl rfl rfl rfl fun r0 => ?_; refine Jb rfl ?_; refine nK hK1 ?_; refine sB fun _ hK2 => ?_; refine sR fun _ hK3 => ?_
  refine LR rfl (Ja rfl rfl (by first | (simp only [Nat.zero_add, Nat.reduceAdd, Nat.reduceMul, Nat.zero_mul, Nat.mul_one, Nat.add_zero]; exact rfl) | exact rfl)) ?_; refine LR rfl (Jc rfl (kn 0 rfl) rfl rfl) ?_; refine LR rfl (JI rfl rfl) ?_; refine J2 rfl (Jb rfl ?_)
  refine JM 8 rfl (fun gb => ?_) (fun gb => ?_) <;> (try simp only [ZZ] at gb) <;> first | (refine LR rfl (Ja rfl rfl (by first | (simp only [Nat.zero_add, Nat.reduceAdd, Nat.reduceMul, Nat.zero_mul, Nat.mul_one, Nat.add_zero]; exact rfl) | exact rfl)) ?_) | (refine LK rfl ?_)
  all_goals first | refine LR rfl (Jc rfl (kn 0 rfl) rfl rfl) ?_ | refine LK rfl ?_
  all_goals first | refine J2 rfl ?_ | refine LK rfl ?_
  all_goals first | refine LR rfl (Jx rfl rfl) ?_ | refine LR rfl (J5 rfl rfl) ?_
  all_goals refine Jb rfl ?_
  all_goals first | (refine LR rfl (Ja rfl rfl (by first | (simp only [Nat.zero_add, Nat.reduceAdd, Nat.reduceMul, Nat.zero_mul, Nat.mul_one, Nat.add_zero]; exact rfl) | exact rfl)) ?_) | refine LK rfl ?_
  all_goals first | refine LR rfl (Jc rfl (kn 0 rfl) rfl rfl) ?_ | refine LK rfl ?_
  all_goals first | refine J2 rfl ?_ | refine LK rfl ?_
  all_goals first | refine LR rfl (Jx rfl rfl) ?_ | refine LR rfl (J5 rfl rfl) ?_
  all_goals (
   refine Jb rfl (Jt (hK3 ?_)); refine Jl rfl (fun g => ?_) (fun g => ?_)
   try simp only [ZZ] at g
   refine sR fun _ hK11 => ?_; refine Jb rfl ?_; refine nK hK11 ?_; refine Jd (Jr (Ji ?_)); refine pT rfl rfl rfl fun w1 hs1 => ?_; refine ⟨?_, hs1.keep⟩; rw [show Vz f = 2 from by unfold Vz; exact if_pos (by omega)]; rfl
   · try exact Bool.noConfusion g
     all_goals try simp only [ZZ] at g
     all_goals (
      refine sR fun _ hK12 => ?_
      refine LR rfl (Ja rfl rfl (by first | (simp only [Nat.zero_add, Nat.reduceAdd, Nat.reduceMul, Nat.zero_mul, Nat.mul_one, Nat.add_zero]; exact rfl) | exact rfl)) ?_; refine LR rfl (Jc rfl (kn 0 rfl) rfl rfl) ?_; refine LR rfl (JI rfl rfl) ?_; refine J2 rfl (Jb rfl ?_); refine nK hK12 ?_; refine cD (fun g => ?_) fun g => ?_
      refine sR fun _ hK14 => ?_; refine Jb rfl ?_; refine nK hK14 ?_; refine Jd (Jr (Ji ?_)); refine pT rfl rfl rfl fun w1 hs1 => ?_; refine ⟨?_, hs1.keep⟩; rw [show Vz f = 5 from by unfold Vz; rw [if_neg (by omega), if_pos (by omega)]]; rfl
      refine Jg (Jo (hK2 ?_)); refine sR fun _ hK15 => ?_; refine Jb rfl ?_; refine nK hK15 ?_; refine Jd ?_; refine pT rfl rfl rfl fun w1 hs1 => ?_; refine ⟨?_, hs1.keep⟩; rw [show Vz f = 0 from by unfold Vz; rw [if_neg (by omega), if_neg (by omega)]]; rfl
      skip)
   skip)
theorem Jct {l : List Nat} {w i : Nat} (hi : i < w) : ((List.replicate (w - i) (0 : UInt8) ++ Qn l i).map bV).set (w - 1 - i) (bV (UInt8.ofNat (dg l i))) = (List.replicate (w - (i + 1)) 0 ++ Qn l (i + 1)).map bV := by
 rw [← List.map_set, show w - i = (w - 1 - i) + 1 from by omega, xH, show w - (i + 1) = w - 1 - i from by omega]
 rfl
theorem YB {n w : Nat} (hw : w ≤ 8) (hn : n ≤ 1000000000) : Pure Tryz.prog 176 [.int .i64 (n : Int), .int .i64 (w : Int)].toArray (Jq (Qn [n, 0, 0, 0] w)) := by
 refine JF Tryz.func176 rfl rfl fun w1 => ?_; refine sR fun _ hK1 => ?_; refine Jb rfl ?_; refine nK hK1 ?_; refine sR fun _ hK2 => ?_; refine Jb rfl (qQ (n := w) (b := 1) rfl rfl rfl rfl rfl rfl rfl rfl rfl (by omega) (by omega) fun r2 => (Jb rfl ?_)); refine nK hK2 ?_; refine sQ fun _ hK3 => ?_; refine sR fun _ hK4 => ?_; refine Jb rfl (LR rfl (KD rfl rfl) (Jb rfl ?_)); refine nK hK4 ?_; refine J3 (JS (σ := Nat) (fun i => i ≤ w) (fun i => [(0, .int .i64 (n : Int)), (1, .int .i64 (w : Int)), (5, .slice (some ⟨r2, 0, none⟩) w w), (10, .int .i64 (w : Int)), (11, .int .i64 (i : Int))]) (fun i => [(r2, .cells ((List.replicate (w - i) (0 : UInt8) ++ Qn [n, 0, 0, 0] i).map bV).toArray 5 (0, 0))]) (fun _ _ _ => True) (fun i => w - i) 0 (Nat.zero_le _) (lK rfl) (by simp [Qn, bV]) (fun _ _ h => h) ?_); intro i hi; refine sR fun _ hK5 => ?_; refine J2 rfl ?_; refine nK hK5 ?_; refine sQ fun _ hK6 => ?_; refine cD (fun g => ?_) fun g => ?_
 ·refine Jg (hK6 ?_); refine sB fun _ hK8 => ?_; refine sR fun _ hK9 => ?_; refine Jb rfl (Jb rfl ?_); refine nK hK9 ?_; refine Je (Jb rfl (Jb rfl ?_))
  refine J2 rfl ?_; refine JA (show _ = Value.int .i64 ((w - 1 : Nat) : Int) from by rw [wrap_i64 (by omega) (by omega)]; congr 1 <;> omega) ?_; refine Jb rfl ?_
  refine J2 rfl ?_; refine JA (show _ = Value.int .i64 ((w - 1 - i : Nat) : Int) from by rw [wrap_i64 (by omega) (by omega)]; congr 1 <;> omega) ?_; refine Jb rfl (Jb rfl ?_); refine J2 rfl (Ke (by omega) (by omega) (LR rfl (xB (n := 8 * i) rfl rfl (by omega) (show _ ≤ 64 from by omega) (by omega) (vc _ _)) ?_)); refine J2 rfl ?_; refine JA (show _ = bV (UInt8.ofNat (dg [n, 0, 0, 0] i)) from by rw [dgN (by omega), show n / 256 ^ i = n / 2 ^ (8 * i) from congrArg (n / ·) (Nat.pow_mul 2 8 i).symm]; exact Yo _) ?_; refine LR rfl (QE (j := w - 1 - i) (m := 1) (off' := w - 1 - i) rfl rfl rfl rfl (by omega) (by omega) (by omega)) ?_; refine WS (k := 0) (off := w - 1 - i) (xs := (List.replicate (w - i) (0 : UInt8) ++ Qn [n, 0, 0, 0] i).map bV) (ys := (List.replicate (w - (i + 1)) 0 ++ Qn [n, 0, 0, 0] (i + 1)).map bV) rfl rfl rfl rfl rfl rfl (by simp [Qj]; omega) (Jct (by omega)) rfl ?_; refine Jt ?_; refine Jo (hK8 ?_); refine Je ?_
  refine J2 rfl ?_; refine JA (show _ = Value.int .i64 ((i + 1 : Nat) : Int) from by rw [wrap_i64 (by omega) (by omega)]; congr 1 <;> omega) ?_; refine Jb rfl (Jt (JU ?_)); exact JN (i + 1) (by omega) (by omega) (lK rfl) (List.Sublist.refl _) (fun _ _ h => h)
 ·refine JL (Jn ?_); refine Jn (J8 (hK3 ?_)); refine sR fun _ hK10 => ?_; refine Jb rfl ?_
  have hiM : i = w := by omega
  subst hiM; rw [Nat.sub_self, List.replicate_zero, List.nil_append]; refine LR rfl (Q9 (b := Qn [n, 0, 0, 0] i) (row := some (r2, i, [])) (e := 5) (by rw [Qj]; rfl) ⟨by simp [Qj], by simp [Qj]⟩ (fun p hp => .inl (by rw [List.mem_singleton.1 hp, List.append_nil]; exact List.mem_cons_self)) rfl rfl rfl) ?_; refine Jb rfl ?_; refine nK hK10 ?_; refine Jd ?_; refine pT rfl rfl rfl fun w1 hs1 => ?_; exact ⟨rfl, hs1.keep⟩
theorem YC {R : Jy} {l : List BS} {p : Pl} (hs : Seg R l.length (KN l) p) (hl : l.flatten.length ≤ 1000000000) (hn : l.length ≤ 1000000000) : PureR Tryz.prog 85 [Ky l.length p].toArray (Jq l.flatten) R := by
 refine Jz Tryz.func85 rfl rfl fun w => ?_; refine sR fun _ hK1 => ?_; refine Jb rfl ?_; refine nK hK1 ?_; refine sR fun _ hK2 => ?_; refine Jb rfl (J4 rfl rfl rfl Jey (zC hs hl hn) oR (Jb rfl ?_)); refine nK hK2 ?_; refine Jd ?_; refine pT rfl rfl rfl fun w1 hs1 => ?_; exact ⟨rfl, hs1.keep⟩
def lastE (b : Bool) : BS := [if b then 1 else 0]
def Vd (f : FrE) : BS := f.id ++ (Qn [f.num, 0, 0, 0] 2 ++ (Qn [f.data.length, 0, 0, 0] 4 ++ (f.data ++ lastE f.last)))
theorem Jok (f : FrE) (hv : Vz f = 0) : Pure Tryz.prog 84 [f.val].toArray (.tuple #[Jq (Vd f), .int .i64 0]) := by
 have hchk := yG f
 rw [hv] at hchk
 have hb : f.id.length = 16 ∧ f.num ≤ 65535 ∧ f.data.length ≤ 4096 := by
  unfold Vz at hv
  split at hv
  cases hv
  split at hv
  cases hv
  omega
 obtain ⟨hb1, hb2, hb3⟩ := hb
 refine JF Tryz.func84 rfl rfl fun w => ?_; refine sR fun _ hK1 => ?_; refine JX (cs := List.toArray (f.cells)) rfl rfl rfl rfl fun r0 => ?_; refine Jb rfl (Jb rfl ?_); refine nK hK1 ?_; refine sQ fun _ hK2 => ?_; refine sR fun _ hK3 => ?_; refine LR rfl (Jm (xs := f.cells) (n := 4) rfl (kn 0 rfl) rfl rfl rfl) ?_; refine JC rfl rfl rfl (enters_of Tryz.func70 (by kernel_rfl) rfl) hchk ?_; refine Jb rfl ?_; refine nK hK3 ?_; refine sR fun _ hK4 => ?_; refine Jb rfl (J2 rfl ?_); refine nK hK4 ?_; refine Jl rfl (fun h5 => ?_) (fun h5 => ?_)
 exact absurd h5 ((by decide))
 ·try simp only [ZZ] at h5
  refine Jg (hK2 ?_); refine sR fun _ hK6 => ?_; refine Jb rfl (JA (show _ = Jq [0] from rfl) ?_); refine nK hK6 ?_; refine sQ fun _ hK7 => ?_; refine sR fun _ hK8 => ?_
  refine LR rfl (Ja rfl rfl (by first | (simp only [Nat.zero_add, Nat.reduceAdd, Nat.reduceMul, Nat.zero_mul, Nat.mul_one, Nat.add_zero]; exact rfl) | exact rfl)) ?_; refine LR rfl (Jc rfl (kn 0 rfl) rfl rfl) ?_; refine nK hK8 ?_; refine cD (fun g => ?_) fun g => ?_
  refine Je (Jb rfl (JA (show _ = Jq [1] from rfl) ?_)); refine nK hK7 ?_; refine sQ fun _ hK10 => ?_; refine Km [(r0, .cells (List.toArray f.cells) 72 (0, 0))] [(0, .pure), (1, .pure), (2, .pure), (3, .pure), (4, .pure), (5, .pure), (6, .pure), (7, .pure), (8, .pure), (9, .pure), (10, .pure), (11, .pure), (12, .dep [14, 17, 21, 23, 24] (XL 5 9)), (13, .turn), (14, .pure), (15, .pure)] 16 [0, 1, 2, 3, 4, 5, 6, 7, 8, 9, 10, 11, 12, 13, 14, 15] (by kernel_rfl) (by kernel_rfl) (fun p hp => hp) ?_
  refine JH (k := 0) rfl rfl rfl rfl rfl (fun _ hS => (Ja rfl rfl (by first | (simp only [Nat.zero_add, Nat.reduceAdd, Nat.reduceMul, Nat.zero_mul, Nat.mul_one, Nat.add_zero]; exact rfl) | exact rfl))) ?_; refine JH (k := 1) rfl rfl rfl rfl rfl (fun _ hS => (Jc rfl (.inl (hS _ (Jw (n := 0) rfl))) rfl rfl)) ?_
  refine JH (k := 2) rfl rfl rfl rfl rfl (fun _ hS => (Ja rfl rfl (by first | (simp only [Nat.zero_add, Nat.reduceAdd, Nat.reduceMul, Nat.zero_mul, Nat.mul_one, Nat.add_zero]; exact rfl) | exact rfl))) ?_; refine JH (k := 3) rfl rfl rfl rfl rfl (fun _ hS => (Jc rfl (.inl (hS _ (Jw (n := 0) rfl))) rfl rfl)) ?_; refine Kf (k := 4) rfl rfl rfl rfl rfl Jac (YB (w := 2) (by decide) (by omega)) ?_
  refine JH (k := 5) rfl rfl rfl rfl rfl (fun _ hS => (Ja rfl rfl (by first | (simp only [Nat.zero_add, Nat.reduceAdd, Nat.reduceMul, Nat.zero_mul, Nat.mul_one, Nat.add_zero]; exact rfl) | exact rfl))) ?_; refine JH (k := 6) rfl rfl rfl rfl rfl (fun _ hS => (Jc rfl (.inl (hS _ (Jw (n := 0) rfl))) rfl rfl)) ?_; refine JH (k := 7) rfl rfl rfl rfl rfl (fun _ _ => JI rfl rfl) ?_; refine Kf (k := 8) rfl rfl rfl rfl rfl Jac (YB (w := 4) (by decide) (by omega)) ?_
  refine JH (k := 9) rfl rfl rfl rfl rfl (fun _ hS => (Ja rfl rfl (by first | (simp only [Nat.zero_add, Nat.reduceAdd, Nat.reduceMul, Nat.zero_mul, Nat.mul_one, Nat.add_zero]; exact rfl) | exact rfl))) ?_; refine JH (k := 10) rfl rfl rfl rfl rfl (fun _ hS => (Jc rfl (.inl (hS _ (Jw (n := 0) rfl))) rfl rfl)) ?_; refine JH (k := 11) rfl rfl rfl rfl rfl (fun _ hS => (JG rfl)) ?_
  first | (refine Ku (k := 12) (dv := [_, _, _, _, _]) (n := 5) (sz := 1) (vs := [_, _, _, _, _]) (zs := [_, _, _, _, _]) (r := KN [f.id, Qn [f.num, 0, 0, 0] 2, Qn [f.data.length, 0, 0, 0] 4, f.data, [0]]) rfl rfl rfl rfl rfl rfl rfl rfl rfl rfl rfl rfl rfl (by show (madeCells #[_] _).toList = _; rw [KA]; exact rfl) (by kernel_rfl) fun qa => ?_) | (refine Ku (k := 12) (dv := [_, _, _, _, _]) (n := 5) (sz := 1) (vs := [_, _, _, _, _]) (zs := [_, _, _, _, _]) (r := KN [f.id, Qn [f.num, 0, 0, 0] 2, Qn [f.data.length, 0, 0, 0] 4, f.data, [1]]) rfl rfl rfl rfl rfl rfl rfl rfl rfl rfl rfl rfl rfl (by show (madeCells #[_] _).toList = _; rw [KA]; exact rfl) (by kernel_rfl) fun qa => ?_)
  first | (refine V3 (k := 13) (T0 := []) (L0 := [(qa, Obj.cells (KN [f.id, Qn [f.num, 0, 0, 0] 2, Qn [f.data.length, 0, 0, 0] 4, f.data, [0]]).toArray 9 (0, 0)), (r0, .cells (List.toArray f.cells) 72 (0, 0))]) (E' := fun _ => [(qa, Obj.cells (KN [f.id, Qn [f.num, 0, 0, 0] 2, Qn [f.data.length, 0, 0, 0] 4, f.data, [0]]).toArray 9 (0, 0)), (r0, .cells (List.toArray f.cells) 72 (0, 0))]) (List.Perm.refl _) (fun _ => List.Perm.refl _) rfl rfl rfl rfl rfl Jev (YC (R := [(qa, Obj.cells (KN [f.id, Qn [f.num, 0, 0, 0] 2, Qn [f.data.length, 0, 0, 0] 4, f.data, [0]]).toArray 9 (0, 0))]) (l := [f.id, Qn [f.num, 0, 0, 0] 2, Qn [f.data.length, 0, 0, 0] 4, f.data, [0]]) (p := some (⟨qa, 0, none⟩, 5)) (Qg (row := some (qa, 5, [])) (e := 9) (cs := KN [f.id, Qn [f.num, 0, 0, 0] 2, Qn [f.data.length, 0, 0, 0] 4, f.data, [0]]) (n := 5) (sz := 1) ⟨rfl, rfl⟩ (by decide)) (by simp [Qj]; omega) (by simp)).toT (fun q hq => .inl (by rw [List.mem_singleton.1 hq]; exact List.mem_cons_self)) (fun x q hq => List.mem_cons_of_mem _ hq) fun y => ?_) | (refine V3 (k := 13) (T0 := []) (L0 := [(qa, Obj.cells (KN [f.id, Qn [f.num, 0, 0, 0] 2, Qn [f.data.length, 0, 0, 0] 4, f.data, [1]]).toArray 9 (0, 0)), (r0, .cells (List.toArray f.cells) 72 (0, 0))]) (E' := fun _ => [(qa, Obj.cells (KN [f.id, Qn [f.num, 0, 0, 0] 2, Qn [f.data.length, 0, 0, 0] 4, f.data, [1]]).toArray 9 (0, 0)), (r0, .cells (List.toArray f.cells) 72 (0, 0))]) (List.Perm.refl _) (fun _ => List.Perm.refl _) rfl rfl rfl rfl rfl Jev (YC (R := [(qa, Obj.cells (KN [f.id, Qn [f.num, 0, 0, 0] 2, Qn [f.data.length, 0, 0, 0] 4, f.data, [1]]).toArray 9 (0, 0))]) (l := [f.id, Qn [f.num, 0, 0, 0] 2, Qn [f.data.length, 0, 0, 0] 4, f.data, [1]]) (p := some (⟨qa, 0, none⟩, 5)) (Qg (row := some (qa, 5, [])) (e := 9) (cs := KN [f.id, Qn [f.num, 0, 0, 0] 2, Qn [f.data.length, 0, 0, 0] 4, f.data, [1]]) (n := 5) (sz := 1) ⟨rfl, rfl⟩ (by decide)) (by simp [Qj]; omega) (by simp)).toT (fun q hq => .inl (by rw [List.mem_singleton.1 hq]; exact List.mem_cons_self)) (fun x q hq => List.mem_cons_of_mem _ hq) fun y => ?_)
  refine JH (k := 14) rfl rfl rfl rfl rfl (fun _ hS => (JY rfl)) ?_; refine JH (k := 15) rfl rfl rfl rfl rfl (fun _ hS => (JY rfl)) ?_; refine Qc ?_; refine nK hK10 ?_; refine Jd ?_; refine Jp rfl rfl (.cons (Jk rfl) (.cons (Jk rfl) .nil)) (fun w1 hs1 => ?_); refine ⟨congrArg (fun z => Ending.returned (Value.tuple #[Jq z, .int .i64 0])) ?_, hs1.keep⟩
  unfold Vd lastE
  simp only [List.flatten_cons, List.flatten_nil, List.append_nil, *]
  rfl
  ·refine Jg (hK7 ?_); refine sQ fun _ hK11 => ?_; refine Km [(r0, .cells (List.toArray f.cells) 72 (0, 0))] [(0, .pure), (1, .pure), (2, .pure), (3, .pure), (4, .pure), (5, .pure), (6, .pure), (7, .pure), (8, .pure), (9, .pure), (10, .pure), (11, .pure), (12, .dep [14, 17, 21, 23, 24] (XL 5 9)), (13, .turn), (14, .pure), (15, .pure)] 16 [0, 1, 2, 3, 4, 5, 6, 7, 8, 9, 10, 11, 12, 13, 14, 15] (by kernel_rfl) (by kernel_rfl) (fun p hp => hp) ?_
   refine JH (k := 0) rfl rfl rfl rfl rfl (fun _ hS => (Ja rfl rfl (by first | (simp only [Nat.zero_add, Nat.reduceAdd, Nat.reduceMul, Nat.zero_mul, Nat.mul_one, Nat.add_zero]; exact rfl) | exact rfl))) ?_; refine JH (k := 1) rfl rfl rfl rfl rfl (fun _ hS => (Jc rfl (.inl (hS _ (Jw (n := 0) rfl))) rfl rfl)) ?_
   refine JH (k := 2) rfl rfl rfl rfl rfl (fun _ hS => (Ja rfl rfl (by first | (simp only [Nat.zero_add, Nat.reduceAdd, Nat.reduceMul, Nat.zero_mul, Nat.mul_one, Nat.add_zero]; exact rfl) | exact rfl))) ?_; refine JH (k := 3) rfl rfl rfl rfl rfl (fun _ hS => (Jc rfl (.inl (hS _ (Jw (n := 0) rfl))) rfl rfl)) ?_; refine Kf (k := 4) rfl rfl rfl rfl rfl Jac (YB (w := 2) (by decide) (by omega)) ?_
   refine JH (k := 5) rfl rfl rfl rfl rfl (fun _ hS => (Ja rfl rfl (by first | (simp only [Nat.zero_add, Nat.reduceAdd, Nat.reduceMul, Nat.zero_mul, Nat.mul_one, Nat.add_zero]; exact rfl) | exact rfl))) ?_; refine JH (k := 6) rfl rfl rfl rfl rfl (fun _ hS => (Jc rfl (.inl (hS _ (Jw (n := 0) rfl))) rfl rfl)) ?_; refine JH (k := 7) rfl rfl rfl rfl rfl (fun _ _ => JI rfl rfl) ?_; refine Kf (k := 8) rfl rfl rfl rfl rfl Jac (YB (w := 4) (by decide) (by omega)) ?_
   refine JH (k := 9) rfl rfl rfl rfl rfl (fun _ hS => (Ja rfl rfl (by first | (simp only [Nat.zero_add, Nat.reduceAdd, Nat.reduceMul, Nat.zero_mul, Nat.mul_one, Nat.add_zero]; exact rfl) | exact rfl))) ?_; refine JH (k := 10) rfl rfl rfl rfl rfl (fun _ hS => (Jc rfl (.inl (hS _ (Jw (n := 0) rfl))) rfl rfl)) ?_; refine JH (k := 11) rfl rfl rfl rfl rfl (fun _ hS => (JG rfl)) ?_
   first | (refine Ku (k := 12) (dv := [_, _, _, _, _]) (n := 5) (sz := 1) (vs := [_, _, _, _, _]) (zs := [_, _, _, _, _]) (r := KN [f.id, Qn [f.num, 0, 0, 0] 2, Qn [f.data.length, 0, 0, 0] 4, f.data, [0]]) rfl rfl rfl rfl rfl rfl rfl rfl rfl rfl rfl rfl rfl (by show (madeCells #[_] _).toList = _; rw [KA]; exact rfl) (by kernel_rfl) fun qa => ?_) | (refine Ku (k := 12) (dv := [_, _, _, _, _]) (n := 5) (sz := 1) (vs := [_, _, _, _, _]) (zs := [_, _, _, _, _]) (r := KN [f.id, Qn [f.num, 0, 0, 0] 2, Qn [f.data.length, 0, 0, 0] 4, f.data, [1]]) rfl rfl rfl rfl rfl rfl rfl rfl rfl rfl rfl rfl rfl (by show (madeCells #[_] _).toList = _; rw [KA]; exact rfl) (by kernel_rfl) fun qa => ?_)
   first | (refine V3 (k := 13) (T0 := []) (L0 := [(qa, Obj.cells (KN [f.id, Qn [f.num, 0, 0, 0] 2, Qn [f.data.length, 0, 0, 0] 4, f.data, [0]]).toArray 9 (0, 0)), (r0, .cells (List.toArray f.cells) 72 (0, 0))]) (E' := fun _ => [(qa, Obj.cells (KN [f.id, Qn [f.num, 0, 0, 0] 2, Qn [f.data.length, 0, 0, 0] 4, f.data, [0]]).toArray 9 (0, 0)), (r0, .cells (List.toArray f.cells) 72 (0, 0))]) (List.Perm.refl _) (fun _ => List.Perm.refl _) rfl rfl rfl rfl rfl Jev (YC (R := [(qa, Obj.cells (KN [f.id, Qn [f.num, 0, 0, 0] 2, Qn [f.data.length, 0, 0, 0] 4, f.data, [0]]).toArray 9 (0, 0))]) (l := [f.id, Qn [f.num, 0, 0, 0] 2, Qn [f.data.length, 0, 0, 0] 4, f.data, [0]]) (p := some (⟨qa, 0, none⟩, 5)) (Qg (row := some (qa, 5, [])) (e := 9) (cs := KN [f.id, Qn [f.num, 0, 0, 0] 2, Qn [f.data.length, 0, 0, 0] 4, f.data, [0]]) (n := 5) (sz := 1) ⟨rfl, rfl⟩ (by decide)) (by simp [Qj]; omega) (by simp)).toT (fun q hq => .inl (by rw [List.mem_singleton.1 hq]; exact List.mem_cons_self)) (fun x q hq => List.mem_cons_of_mem _ hq) fun y => ?_) | (refine V3 (k := 13) (T0 := []) (L0 := [(qa, Obj.cells (KN [f.id, Qn [f.num, 0, 0, 0] 2, Qn [f.data.length, 0, 0, 0] 4, f.data, [1]]).toArray 9 (0, 0)), (r0, .cells (List.toArray f.cells) 72 (0, 0))]) (E' := fun _ => [(qa, Obj.cells (KN [f.id, Qn [f.num, 0, 0, 0] 2, Qn [f.data.length, 0, 0, 0] 4, f.data, [1]]).toArray 9 (0, 0)), (r0, .cells (List.toArray f.cells) 72 (0, 0))]) (List.Perm.refl _) (fun _ => List.Perm.refl _) rfl rfl rfl rfl rfl Jev (YC (R := [(qa, Obj.cells (KN [f.id, Qn [f.num, 0, 0, 0] 2, Qn [f.data.length, 0, 0, 0] 4, f.data, [1]]).toArray 9 (0, 0))]) (l := [f.id, Qn [f.num, 0, 0, 0] 2, Qn [f.data.length, 0, 0, 0] 4, f.data, [1]]) (p := some (⟨qa, 0, none⟩, 5)) (Qg (row := some (qa, 5, [])) (e := 9) (cs := KN [f.id, Qn [f.num, 0, 0, 0] 2, Qn [f.data.length, 0, 0, 0] 4, f.data, [1]]) (n := 5) (sz := 1) ⟨rfl, rfl⟩ (by decide)) (by simp [Qj]; omega) (by simp)).toT (fun q hq => .inl (by rw [List.mem_singleton.1 hq]; exact List.mem_cons_self)) (fun x q hq => List.mem_cons_of_mem _ hq) fun y => ?_)
   refine JH (k := 14) rfl rfl rfl rfl rfl (fun _ hS => (JY rfl)) ?_; refine JH (k := 15) rfl rfl rfl rfl rfl (fun _ hS => (JY rfl)) ?_; refine Qc ?_; refine nK hK11 ?_; refine Jd ?_; refine Jp rfl rfl (.cons (Jk rfl) (.cons (Jk rfl) .nil)) (fun w1 hs1 => ?_); refine ⟨congrArg (fun z => Ending.returned (Value.tuple #[Jq z, .int .i64 0])) ?_, hs1.keep⟩
   unfold Vd lastE
   simp only [List.flatten_cons, List.flatten_nil, List.append_nil, *]
   rfl
def ptx (l : List FrE) (i : Nat) : List BS := [0] :: (l.take i).map Vd
theorem vN {l : List FrE} {i : Nat} (h : i ≤ l.length) : (ptx l i).length = i + 1 := by simp [ptx, Nat.min_eq_left h]
theorem yH {l : List FrE} {i : Nat} {f : FrE} (h : l[i]? = some f) : KN (ptx l i) ++ [Jq (Vd f)] = KN (ptx l (i + 1)) := by
 unfold ptx KN
 rw [List.take_add_one, h, Option.toList_some]; simp
def Vm (l : List FrE) : BS := 0 :: l.flatMap Vd
theorem yI (l : List FrE) : (ptx l l.length).flatten = Vm l := by
 unfold ptx Vm
 rw [List.take_length, List.flatten_cons, List.flatMap_def]; rfl
theorem yJ {f : FrE} (hv : Vz f = 0) : (Vd f).length ≤ 5000 ∧ f.id.length = 16 ∧ f.num ≤ 65535 ∧ f.data.length ≤ 4096 := by
 unfold Vz at hv
 split at hv
 ·cases hv
 ·split at hv
  ·cases hv
  ·refine ⟨?_, by omega, by omega, by omega⟩
   unfold Vd lastE
   simp [Qj]; omega
theorem Jba {l : List FrE} (h : ∀ f ∈ l, Vz f = 0) : (l.flatMap Vd).length ≤ l.length * 5000 := by
 induction l with
 | nil => simp
 | cons a r ih =>
  rw [List.flatMap_cons, List.length_append, List.length_cons, Nat.succ_mul]
  have h1 := (yJ (h a List.mem_cons_self)).1
  have h2 := ih fun x hx => h x (List.mem_cons_of_mem _ hx)
  omega
theorem Jmw {R : Jy} {l : List FrE} {p : Pl} (hs : Seg R l.length (VF l) p) (hv : ∀ f ∈ l, Vz f = 0) (h1 : 1 ≤ l.length) (h32 : l.length ≤ 32) :
  PureR Tryz.prog 24 [Ky l.length p].toArray (.tuple #[Jq (Vm l), .int .i64 0]) R := by
 have hfl := Jba hv
 refine Jz Tryz.func24 rfl rfl fun w => ?_; refine sR fun _ hK1 => ?_; refine Jb rfl (Jb rfl ?_); refine nK hK1 ?_; refine sB fun _ hK2 => ?_; refine sR fun _ hK3 => ?_; refine Jb rfl (LR rfl (JJ rfl hs rfl) ?_); refine J2 rfl (Jb rfl ?_); refine nK hK3 ?_; refine Jl rfl (fun h4 => ?_) (fun h4 => ?_)
 exact absurd h4 ((by intro h; have := beq_iff_eq.1 h; omega))
 ·try simp only [ZZ] at h4
  refine sR fun _ hK5 => ?_; refine Jb rfl (LR rfl (JJ rfl hs rfl) ?_); refine J2 rfl (Jb rfl ?_); refine nK hK5 ?_; refine Jl rfl (fun h6 => ?_) (fun h6 => ?_)
  exact absurd h6 ((by intro h; have := of_decide_eq_true h; omega))
  ·try simp only [ZZ] at h6
   refine Jg (Jo (hK2 ?_)); refine sR fun _ hK7 => ?_; refine JV (n := 1) (sz := 1) (vs := [_]) (zs := [_]) (r := [bV 0]) rfl rfl rfl rfl rfl rfl rfl rfl rfl (by show (madeCells #[_] _).toList = _; rw [KA]; exact rfl) rfl fun r0 => ?_; refine LR rfl (Q9 (row := some (r0, 1, [])) (b := [0]) rfl ⟨rfl, rfl⟩ (fun q hq => by rw [List.mem_singleton.1 hq]; exact Vf (k := 0) rfl) rfl rfl rfl) ?_; refine JV (n := 1) (sz := 1) (vs := [_]) (zs := [_]) (r := [Jq [0]]) rfl rfl rfl rfl rfl rfl rfl rfl rfl (by show (madeCells #[_] _).toList = _; rw [KA]; exact rfl) rfl fun rt => ?_; refine Jb rfl ?_; refine nK hK7 ?_; refine sQ fun _ hK8 => ?_; refine sR fun _ hK9 => ?_; refine Jb rfl (LR rfl (JJ rfl hs rfl) (Jb rfl ?_)); refine nK hK9 ?_; refine J3 (JS (σ := Nat × QH) (fun z => z.1 ≤ l.length ∧ rowOk 1 (z.1 + 1) (KN (ptx l z.1)) z.2) (fun z => [(4, JO (z.1 + 1) z.2), (20, Ky l.length p), (21, .int .i64 (l.length : Int)), (22, .int .i64 (z.1 : Int))]) (fun z => Kk 9 (KN (ptx l z.1)) z.2) (fun _ _ _ => True) (fun z => l.length - z.1) (0, some (rt, 1, [])) ⟨Nat.zero_le _, ⟨rfl, rfl⟩⟩ (lK rfl) (.cons_cons _ (List.nil_sublist _)) (fun _ _ h => h) ?_); rintro ⟨i, row⟩ hI
   obtain ⟨hi1, hrow⟩ := hI
   simp only at hi1 hrow; change HC _ _ _ (Kk 9 (KN (ptx l i)) row) _ _ _; refine sR fun _ hK10 => ?_; refine J2 rfl ?_; refine nK hK10 ?_; refine sQ fun _ hK11 => ?_; refine cD (fun g => ?_) fun g => ?_
   ·refine Jg (hK11 ?_); refine sB fun _ hK13 => ?_; refine sQ fun _ hK14 => ?_
    obtain ⟨f, hf, hmf⟩ := QA (show i < l.length by omega)
    refine Je ?_
    refine LR rfl (JB (j := i) rfl hs rfl rfl rfl (by first | rfl | omega) (by omega)) ?_; refine LR rfl (Kt FrE.len oR rfl hs hf rfl rfl) ?_; refine LN rfl fun rx => ?_; refine Js (k := 0) (n := 4) (ys := f.cells) rfl rfl rfl rfl rfl rfl rfl rfl rfl ?_; refine nK hK14 ?_; refine sR fun _ hK15 => ?_; refine LR rfl (Jm (xs := f.cells) (n := 4) rfl (kn 0 rfl) rfl rfl rfl) ?_; refine JC rfl rfl rfl (enters_of Tryz.func84 (by kernel_rfl) rfl) (Jok f (hv f hmf)) ?_; refine Jb rfl (LR rfl (Jf rfl rfl) (LR rfl (Jf rfl rfl) ?_)); refine Jb rfl (Jb rfl ?_); refine nK hK15 ?_; refine sQ fun _ hK16 => ?_; refine sR fun _ hK17 => ?_; refine Jb rfl (J2 rfl ?_); refine nK hK17 ?_; refine Jl rfl (fun h18 => ?_) (fun h18 => ?_)
    exact absurd h18 ((by decide))
    ·try simp only [ZZ] at h18
     refine Jg (hK16 ?_); refine Je (Jb rfl (Jb rfl ?_)); refine JV (n := 1) (sz := 1) (vs := [_]) (zs := [_]) (r := [_]) rfl rfl rfl rfl rfl rfl rfl rfl rfl (by show (madeCells #[_] _).toList = _; rw [KA]; exact rfl) rfl fun rb => ?_; refine Kh (L0 := [(rb, _), (rx, _)]) (xs := KN (ptx l i)) (row := row) (n := i + 1) (sz := 1) (b := 16) (news := [Jq (Vd f)]) (List.perm_append_comm (l₁ := [_, _])) rfl rfl rfl rfl (kn 0 rfl) rfl rfl rfl rfl rfl (by decide) rfl rfl rfl (by decide) hrow (by omega) (by omega) fun ra cap sp hra => ?_; refine Jb rfl (Jt ?_); refine Jo (hK13 ?_); refine Je ?_
     refine J2 rfl ?_; refine JA (show _ = Value.int .i64 ((i + 1 : Nat) : Int) from by rw [wrap_i64 (by omega) (by omega)]; congr 1 <;> omega) ?_; refine Jb rfl (Jt (JU ?_)); rw [yH hf] at hra; exact JN (i + 1, some (ra, cap, sp)) ⟨by simp only; omega, hra⟩ (by simp only; omega) (lK rfl) (by rw [← yH hf]; exact .cons_cons _ (List.nil_sublist _)) (fun _ _ h => h)
   ·refine JL (Jn ?_); refine Jn (J8 (hK8 ?_)); refine sR fun _ hK19 => ?_
    have hiM : i = l.length := by omega
    subst hiM; refine Jb rfl ?_; refine JA (show _ = Ky (ptx l l.length).length (Qm row) from by rw [vN (Nat.le_refl _)]; exact Ql hrow) ?_
    have hj := YC (R := Kk 9 (KN (ptx l l.length)) row) (l := ptx l l.length) (p := Qm row) (by rw [vN (Nat.le_refl _)]; exact Qg hrow (by decide)) (by rw [yI]; unfold Vm; rw [List.length_cons]; omega) (by rw [vN (Nat.le_refl _)]; omega)
    rw [yI] at hj; refine J4 rfl rfl rfl Jev hj (fun q hq => .inl hq) ?_; refine Jb rfl (Jb rfl ?_); refine nK hK19 ?_; refine Jd ?_; refine Jp rfl rfl (.cons (Jk rfl) (.cons (Jk rfl) .nil)) (fun w1 hs1 => ?_); exact ⟨rfl, hs1.keep⟩
theorem Jmx {s : BS} {m : Nat} (hm : m ≤ 4) : W7 (s.take m) < 4294967296 := by
 have h1 := Jf4 (s.take m)
 have h2 : 256 ^ (s.take m).length ≤ 256 ^ 4 := Nat.pow_le_pow_right (by decide) (by rw [List.length_take]; omega)
 omega
theorem Jcu {s : BS} {i : Nat} (h : i < s.length) : W7 (s.take (i + 1)) = W7 (s.take i) * 256 + (s.getD i 0).toNat := by
 have := yu (s := s) (p := 0) (i := i) (by omega)
 simpa using this
theorem Jg2 {s : BS} (hs : s.length ≤ 4) : Pure Tryz.prog 227 [Jq s].toArray (.int .i64 (W7 s : Int)) := by
 refine JF Tryz.func227 rfl rfl fun w => ?_; refine sR fun _ hK1 => ?_; refine Jb rfl ?_; refine nK hK1 ?_; refine sR fun _ hK2 => ?_; refine Jb rfl ?_; refine nK hK2 ?_; refine sQ fun _ hK3 => ?_; refine sR fun _ hK4 => ?_; refine Jb rfl (LR rfl (JI rfl rfl) (Jb rfl ?_)); refine nK hK4 ?_; refine J3 (JS (σ := Nat) (fun i => i ≤ s.length) (fun i => [(0, Jq s), (3, .int .i64 (W7 (s.take i) : Int)), (6, .int .i64 (s.length : Int)), (7, .int .i64 (i : Int))]) (fun _ => []) (fun _ _ _ => True) (fun i => s.length - i) 0 (Nat.zero_le _) (lK rfl) (List.nil_sublist _) (fun _ _ h => h) ?_); intro i hi; refine sR fun _ hK5 => ?_; refine J2 rfl ?_; refine nK hK5 ?_; refine sQ fun _ hK6 => ?_; refine cD (fun g => ?_) fun g => ?_
 ·refine Jg (hK6 ?_); refine sB fun _ hK8 => ?_; refine sR fun _ hK9 => ?_; refine Jb rfl (Jb rfl ?_); refine nK hK9 ?_; refine Je (Jb rfl ?_); refine LR rfl (xC (n := 8) (b := ((W7 (s.take i) * 256 : Nat) : Int)) rfl rfl rfl (show 8 ≤ 64 from by decide) (by have := Jmx (s := s) (m := i) (by omega); rw [wrap_i64 (by omega) (by omega)]; omega)) ?_; refine Jb rfl (Jb rfl (LR rfl (Kp (j := i) rfl rfl rfl rfl (by omega) rfl) ?_)); refine J2 rfl ?_; refine JA (show _ = Value.int .i64 ((s.getD i 0).toNat : Int) from by rw [wrap_i64 (by have := WA (s.getD i 0); omega) (by have := WA (s.getD i 0); omega)]) ?_; refine LR rfl (Jky (b := (W7 (s.take (i + 1)) : Int)) rfl rfl (by have := Jmx (s := s) (m := i) (by omega); omega) (by have := WA (s.getD i 0); omega) (by rw [Jcu (by omega), Jkz (WA _)])) ?_; refine Jb rfl (Jt ?_); refine Jo (hK8 ?_); refine Je ?_
  refine J2 rfl ?_; refine JA (show _ = Value.int .i64 ((i + 1 : Nat) : Int) from by rw [wrap_i64 (by omega) (by omega)]; congr 1 <;> omega) ?_; refine Jb rfl (Jt (JU ?_)); exact JN (i + 1) (by omega) (by omega) (lK rfl) (List.nil_sublist _) (fun _ _ h => h)
 ·refine JL (Jn ?_); refine Jn (J8 (hK3 ?_)); refine sR fun _ hK10 => ?_; refine Jb rfl (Jb rfl ?_); refine nK hK10 ?_; refine Jd ?_; refine pT rfl rfl rfl fun w1 hs1 => ?_; refine ⟨?_, hs1.keep⟩; rw [show i = s.length by omega, List.take_length]; rfl
def fr0 : FrE := ⟨[], 0, [], false⟩
def XJ (t : BS) (a : Nat) : FrE × Nat × Int :=
 if t.length < 22 then (fr0, 0, 3) else if 4096 < W7 ((t.drop 18).take 4) then (fr0, 0, 5) else if t.length ≤ 22 + W7 ((t.drop 18).take 4) then (fr0, 0, 3) else
 if 1 < (t.getD (22 + W7 ((t.drop 18).take 4)) 0).toNat then (fr0, 0, 2) else
 (⟨t.take 16, W7 ((t.drop 16).take 2), (t.take (22 + W7 ((t.drop 18).take 4))).drop 22, decide ((t.getD (22 + W7 ((t.drop 18).take 4)) 0).toNat = 1)⟩, a + (22 + W7 ((t.drop 18).take 4)) + 1, 0)
theorem Jjz {s : BS} {a : Nat} (hs : s.length ≤ 1000000) (ha : a ≤ s.length) : Pure Tryz.prog 168 [Jq s, .int .i64 (a : Int)].toArray (.tuple #[(XJ (s.drop a) a).1.val, .int .i64 ((XJ (s.drop a) a).2.1 : Int), .int .i64 (XJ (s.drop a) a).2.2]) := by
 obtain ⟨t, ht⟩ : ∃ t, s.drop a = t := ⟨_, rfl⟩
 have htl : t.length ≤ 1000000 := by rw [← ht, List.length_drop]; omega
 rw [ht]
 obtain ⟨z, hz⟩ : ∃ z, W7 ((t.drop 18).take 4) = z := ⟨_, rfl⟩
 have hzl : z < 4294967296 := by rw [← hz]; exact Jmx (by decide)
 have hP4 : Pure Tryz.prog 227 [Jq ((t.drop 18).take 4)].toArray (.int .i64 (z : Int)) := by rw [← hz]; exact Jg2 (by rw [List.length_take]; omega)
 refine JF Tryz.func168 rfl rfl fun w => ?_; refine sR fun _ hK1 => ?_; refine LN rfl fun r4 => ?_; refine Jb rfl (Jb rfl ?_); refine nK hK1 ?_; refine sQ fun _ hK2 => ?_; refine sR fun _ hK3 => ?_; refine Jb rfl (J2 rfl ?_); refine Jb rfl (Jb rfl ?_); refine Jb rfl (LR rfl (JI rfl rfl) ?_); refine J2 rfl (LR rfl (J5 rfl rfl) ?_); refine nK hK3 ?_; refine cD (fun g => ?_) fun g => ?_
 refine sR fun _ hK9 => ?_
 exfalso; omega
 ·refine Jg (hK2 ?_); refine sR fun _ hK10 => ?_; refine Jb rfl (Jb rfl ?_); refine LR rfl (Qx (kl := some (.i64, (a : Int))) (kh := none) (m := a) (n := s.length) rfl rfl rfl rfl rfl rfl ha (Nat.le_refl _) (r := t) (by rw [List.take_length]; exact ht)) ?_; refine Jb rfl ?_; refine nK hK10 ?_; refine sQ fun _ hK11 => ?_; refine sR fun _ hK12 => ?_; refine Jb rfl (LR rfl (JI rfl rfl) (J2 rfl ?_)); refine nK hK12 ?_; refine cD (fun g => ?_) fun g => ?_
  refine sR fun _ hK14 => ?_; refine LR rfl (J7 (r := [_, _, _, _]) rfl rfl) ?_
  refine Jv (k := 0) (n := 4) (cs' := #[_, _, _, _]) (vs := #[_, _, _, _]) rfl rfl rfl rfl rfl rfl rfl (by exact Nat.le_of_ble_eq_true rfl) rfl (by first | (simp only [List.set_cons_zero, List.set_cons_succ]; exact rfl) | exact rfl) ?_; refine Jb rfl (Jb rfl ?_); refine nK hK14 ?_; refine Jd (Ji ?_)
  (refine Jp rfl rfl (.cons (J0 (vs := [_, _, _, _]) rfl (kn 0 rfl) rfl rfl) (.cons (Jk rfl) (.cons (Jk rfl) .nil))) (fun w1 hs1 => ?_)
   have hU : XJ t a = (fr0, 0, 3) := by unfold XJ; rw [hz]; rw [if_pos (by omega)]
   rw [hU]
   exact ⟨rfl, hs1.keep⟩)
  ·refine Jg (hK11 ?_); refine sR fun _ hK15 => ?_; refine Jb rfl (LR rfl (Qx (kl := some (.i64, 18)) (kh := some (.i64, 22)) (m := 18) (n := 22) rfl rfl rfl rfl rfl rfl (by decide) (by omega) (r := (t.drop 18).take 4) (by rw [List.drop_take])) (JC rfl rfl rfl (enters_of Tryz.func227 (by kernel_rfl) rfl) hP4 ?_)); refine Jb rfl ?_; refine nK hK15 ?_; refine sR fun _ hK16 => ?_; refine Jb rfl ?_
   refine J2 rfl ?_; refine JA (show _ = Value.int .i64 ((22 + z : Nat) : Int) from by rw [wrap_i64 (by omega) (by omega)]; congr 1 <;> omega) ?_; refine Jb rfl ?_; refine nK hK16 ?_; refine sB fun _ hK17 => ?_; refine sR fun _ hK18 => ?_; refine Jb rfl (J2 rfl (Jb rfl ?_)); refine nK hK18 ?_; refine cD (fun g => ?_) fun g => ?_
   refine sR fun _ hK20 => ?_; refine LR rfl (J7 (r := [_, _, _, _]) rfl rfl) ?_
   refine Jv (k := 0) (n := 4) (cs' := #[_, _, _, _]) (vs := #[_, _, _, _]) rfl rfl rfl rfl rfl rfl rfl (by exact Nat.le_of_ble_eq_true rfl) rfl (by first | (simp only [List.set_cons_zero, List.set_cons_succ]; exact rfl) | exact rfl) ?_; refine Jb rfl (Jb rfl ?_); refine nK hK20 ?_; refine Jd (Jr (Ji ?_))
   (refine Jp rfl rfl (.cons (J0 (vs := [_, _, _, _]) rfl (kn 0 rfl) rfl rfl) (.cons (Jk rfl) (.cons (Jk rfl) .nil))) (fun w1 hs1 => ?_)
    have hU : XJ t a = (fr0, 0, 5) := by unfold XJ; rw [hz]; rw [if_neg (by omega), if_pos (by omega)]
    rw [hU]
    exact ⟨rfl, hs1.keep⟩)
   ·refine sR fun _ hK21 => ?_; refine Jb rfl (Jb rfl (LR rfl (JI rfl rfl) ?_)); refine J2 rfl (Jb rfl ?_); refine nK hK21 ?_; refine cD (fun g => ?_) fun g => ?_
    refine sR fun _ hK23 => ?_; refine LR rfl (J7 (r := [_, _, _, _]) rfl rfl) ?_
    refine Jv (k := 0) (n := 4) (cs' := #[_, _, _, _]) (vs := #[_, _, _, _]) rfl rfl rfl rfl rfl rfl rfl (by exact Nat.le_of_ble_eq_true rfl) rfl (by first | (simp only [List.set_cons_zero, List.set_cons_succ]; exact rfl) | exact rfl) ?_; refine Jb rfl (Jb rfl ?_); refine nK hK23 ?_; refine Jd (Jr (Ji ?_))
    (refine Jp rfl rfl (.cons (J0 (vs := [_, _, _, _]) rfl (kn 0 rfl) rfl rfl) (.cons (Jk rfl) (.cons (Jk rfl) .nil))) (fun w1 hs1 => ?_)
     have hU : XJ t a = (fr0, 0, 3) := by unfold XJ; rw [hz]; rw [if_neg (by omega), if_neg (by omega), if_pos (by omega)]
     rw [hU]
     exact ⟨rfl, hs1.keep⟩)
    ·refine sR fun _ hK24 => ?_; refine Jb rfl (Jb rfl (LR rfl (Kp (j := 22 + z) rfl rfl rfl rfl (by omega) rfl) ?_)); refine J2 rfl (Jb rfl ?_); refine nK hK24 ?_; refine cD (fun g => ?_) fun g => ?_
     refine sR fun _ hK26 => ?_; refine LR rfl (J7 (r := [_, _, _, _]) rfl rfl) ?_
     refine Jv (k := 0) (n := 4) (cs' := #[_, _, _, _]) (vs := #[_, _, _, _]) rfl rfl rfl rfl rfl rfl rfl (by exact Nat.le_of_ble_eq_true rfl) rfl (by first | (simp only [List.set_cons_zero, List.set_cons_succ]; exact rfl) | exact rfl) ?_; refine Jb rfl (Jb rfl ?_); refine nK hK26 ?_; refine Jd (Jr (Ji ?_))
     (refine Jp rfl rfl (.cons (J0 (vs := [_, _, _, _]) rfl (kn 0 rfl) rfl rfl) (.cons (Jk rfl) (.cons (Jk rfl) .nil))) (fun w1 hs1 => ?_)
      have hU : XJ t a = (fr0, 0, 2) := by unfold XJ; rw [hz]; rw [if_neg (by omega), if_neg (by omega), if_neg (by omega), if_pos (by omega)]
      rw [hU]
      exact ⟨rfl, hs1.keep⟩)
     ·refine Jg (Jo (hK17 ?_)); refine sQ fun _ hK27 => ?_
      refine Km [] [(0, .pure), (1, .pure), (2, .pure), (3, .pure), (4, .pure), (5, .pure), (6, .pure), (7, .pure), (8, .pure), (9, .pure), (10, .pure), (11, .pure), (12, .pure), (13, .pure), (14, .pure), (15, .pure), (16, .pure), (17, .turn), (18, .pure), (19, .pure)] 20 [0, 1, 2, 3, 4, 5, 6, 7, 8, 9, 10, 11, 12, 13, 14, 15, 16, 17, 18, 19] (by kernel_rfl) (by kernel_rfl) (by first | exact (fun _ h => absurd h List.not_mem_nil) | simp [SubS] | (intro p hp; simp [hp])) ?_; refine JH (k := 0) rfl rfl rfl rfl rfl (fun _ hS => (JG rfl)) ?_; refine JH (k := 1) rfl rfl rfl rfl rfl (fun _ _ => Qx (kl := none) (kh := some (.i64, 16)) (m := 0) (n := 16) rfl rfl rfl rfl rfl rfl (by decide) (by omega) (r := t.take 16) rfl) ?_; refine JH (k := 2) rfl rfl rfl rfl rfl (fun _ hS => (JG rfl)) ?_; refine JH (k := 3) rfl rfl rfl rfl rfl (fun _ _ => Qx (kl := some (.i64, 16)) (kh := some (.i64, 18)) (m := 16) (n := 18) rfl rfl rfl rfl rfl rfl (by decide) (by omega) (r := (t.drop 16).take 2) (by rw [List.drop_take])) ?_; refine Kf (k := 4) rfl rfl rfl rfl rfl (enters_of Tryz.func227 (by kernel_rfl) rfl) (Jg2 (s := (t.drop 16).take 2) (by rw [List.length_take]; omega)) ?_; refine JH (k := 5) rfl rfl rfl rfl rfl (fun _ hS => (JG rfl)) ?_; refine JH (k := 6) rfl rfl rfl rfl rfl (fun _ hS => (JG rfl)) ?_; refine JH (k := 7) rfl rfl rfl rfl rfl (fun _ _ => Qx (kl := some (.i64, 22)) (kh := some (.i64, ((22 + z : Nat) : Int))) (m := 22) (n := 22 + z) rfl rfl rfl rfl rfl rfl (by omega) (by omega) (r := (t.take (22 + z)).drop 22) rfl) ?_; refine JH (k := 8) rfl rfl rfl rfl rfl (fun _ hS => (JG rfl)) ?_; refine JH (k := 9) rfl rfl rfl rfl rfl (fun _ hS => (JG rfl)) ?_; refine JH (k := 10) rfl rfl rfl rfl rfl (fun _ _ => Kp (j := 22 + z) rfl rfl rfl rfl (by omega) rfl) ?_; refine JH (k := 11) rfl rfl rfl rfl rfl (fun _ _ => KC rfl rfl rfl) ?_; refine Jd5 (show _ = Value.bool (decide ((t.getD (22 + z) 0).toNat = 1)) from by rw [Ja7]; exact congrArg Value.bool (decide_eq_decide.2 (by omega))) ?_; refine JH (k := 12) rfl rfl rfl rfl rfl (fun _ hS => (J7 (r := [_, _, _, _]) rfl rfl)) ?_; refine JH (k := 13) rfl rfl rfl rfl rfl (fun _ hS => (JG rfl)) ?_; refine JH (k := 14) rfl rfl rfl rfl rfl (fun _ hS => (JG rfl)) ?_
      refine JH (k := 15) rfl rfl rfl rfl rfl (fun _ _ => KC rfl rfl rfl) ?_; refine Jd5 (show _ = Value.int .i64 ((a + (22 + z) : Nat) : Int) from by rw [wrap_i64 (by omega) (by omega)]; congr 1 <;> omega) ?_
      refine JH (k := 16) rfl rfl rfl rfl rfl (fun _ _ => KC rfl rfl rfl) ?_; refine Jd5 (show _ = Value.int .i64 ((a + (22 + z) + 1 : Nat) : Int) from by rw [wrap_i64 (by omega) (by omega)]; congr 1 <;> omega) ?_
      refine Kl (k := 17) (q := 0) (n := 4) (ys := [_, _, _, _]) rfl rfl rfl rfl rfl rfl rfl rfl rfl rfl (by first | (simp only [List.set_cons_zero, List.set_cons_succ]; exact rfl) | exact rfl) (by first | exact (fun _ h => absurd h List.not_mem_nil) | simp [SubS] | (intro p hp; simp [hp])) ?_; refine JH (k := 18) rfl rfl rfl rfl rfl (fun _ hS => (JY rfl)) ?_; refine JH (k := 19) rfl rfl rfl rfl rfl (fun _ hS => (JY rfl)) ?_; refine Qc ?_; refine nK hK27 ?_; refine Jd ?_
      (refine Jp rfl rfl (.cons (J0 (vs := [_, _, _, _]) rfl (kn 0 rfl) rfl rfl) (.cons (Jk rfl) (.cons (Jk rfl) .nil))) (fun w1 hs1 => ?_)
       have hU : XJ t a = (⟨t.take 16, W7 ((t.drop 16).take 2), (t.take (22 + z)).drop 22, decide ((t.getD (22 + z) 0).toNat = 1)⟩, a + (22 + z) + 1, 0) := by unfold XJ; rw [hz]; rw [if_neg (by omega), if_neg (by omega), if_neg (by omega), if_neg (by omega)]
       rw [hU]
       exact ⟨rfl, hs1.keep⟩)
theorem Jj0 {f : FrE} (hv : Vz f = 0) (post : BS) (a : Nat) : XJ (Vd f ++ post) a = (f, a + (Vd f).length, 0) := by
 obtain ⟨_, h1, h2, h3⟩ := yJ hv
 obtain ⟨id, num, data, last⟩ := f
 simp only at h1 h2 h3
 have e : Vd ⟨id, num, data, last⟩ ++ post = id ++ (Qn [num, 0, 0, 0] 2 ++ (Qn [data.length, 0, 0, 0] 4 ++ (data ++ (lastE last ++ post)))) := by simp [Vd]
 have hl : (Vd ⟨id, num, data, last⟩).length = 22 + data.length + 1 := by simp [Vd, lastE, Qj, h1]; omega
 obtain ⟨t, ht⟩ : ∃ t, Vd ⟨id, num, data, last⟩ ++ post = t := ⟨_, rfl⟩
 rw [ht] at e
 have e16 : t.take 16 = id := by rw [e, List.take_left' h1]
 have d16 : t.drop 16 = Qn [num, 0, 0, 0] 2 ++ (Qn [data.length, 0, 0, 0] 4 ++ (data ++ (lastE last ++ post))) := by rw [e, List.drop_left' h1]
 have d18 : t.drop 18 = Qn [data.length, 0, 0, 0] 4 ++ (data ++ (lastE last ++ post)) := by
  rw [show (18 : Nat) = 16 + 2 from rfl, ← List.drop_drop, d16, List.drop_left' (Qj _ 2)]
 have d22 : t.drop 22 = data ++ (lastE last ++ post) := by
  rw [show (22 : Nat) = 18 + 4 from rfl, ← List.drop_drop, d18, List.drop_left' (Qj _ 4)]
 have v2 : W7 ((t.drop 16).take 2) = num := by rw [d16, List.take_left' (Qj _ 2), Jaj _ _ (by decide)]; exact Nat.mod_eq_of_lt (by omega)
 have v4 : W7 ((t.drop 18).take 4) = data.length := by rw [d18, List.take_left' (Qj _ 4), Jaj _ _ (by decide)]; exact Nat.mod_eq_of_lt (by omega)
 have htl : t.length = 22 + data.length + 1 + post.length := by rw [← ht, List.length_append, hl]
 have dt : (t.take (22 + data.length)).drop 22 = data := by
  rw [List.drop_take, d22, Nat.add_sub_cancel_left, List.take_left]
 have gt : (t.getD (22 + data.length) 0).toNat = if last then 1 else 0 := by
  have h : t[22 + data.length]? = (t.drop 22)[data.length]? := by rw [List.getElem?_drop]
  rw [List.getD_eq_getElem?_getD, h, d22, List.getElem?_append_right (Nat.le_refl _), Nat.sub_self]
  cases last <;> rfl
 rw [ht]
 unfold XJ
 rw [v4, if_neg (by omega), if_neg (by omega), if_neg (by omega), if_neg (by rw [gt]; split <;> omega), e16, v2, dt, gt, hl]
 cases last <;> simp <;> omega
def Yc (l : List FrE) (i : Nat) : Nat := 1 + ((l.take i).flatMap Vd).length
def yK (l : List FrE) (i : Nat) : FrE := l.getD i fr0
theorem ZR {l : List FrE} {i : Nat} (h : i < l.length) : l[i]? = some (yK l i) ∧ yK l i ∈ l := by
 unfold yK
 rw [List.getD_eq_getElem?_getD, List.getElem?_eq_getElem h]; exact ⟨rfl, List.getElem_mem h⟩
theorem Jcv (l : List FrE) (i : Nat) : (Vm l).drop (Yc l i) = (l.drop i).flatMap Vd := by
 have e : l.flatMap Vd = (l.take i).flatMap Vd ++ (l.drop i).flatMap Vd := by rw [← List.flatMap_append, List.take_append_drop]
 unfold Vm Yc
 rw [Nat.add_comm, List.drop_succ_cons, e, List.drop_left]
theorem Jbb (l : List FrE) (i : Nat) : Yc l i + ((l.drop i).flatMap Vd).length = (Vm l).length := by
 have e : l.flatMap Vd = (l.take i).flatMap Vd ++ (l.drop i).flatMap Vd := by rw [← List.flatMap_append, List.take_append_drop]
 unfold Vm Yc
 rw [List.length_cons, e, List.length_append]; omega
theorem Jcw {l : List FrE} {i : Nat} (h : i < l.length) : Yc l (i + 1) = Yc l i + (Vd (yK l i)).length := by
 unfold Yc
 rw [List.take_add_one, (ZR h).1, Option.toList_some, List.flatMap_append, List.length_append]; simp; omega
theorem drop_one {l : List FrE} {i : Nat} (h : i < l.length) : (l.drop i).flatMap Vd = Vd (yK l i) ++ (l.drop (i + 1)).flatMap Vd := by
 have h1 := (ZR h).1
 obtain ⟨h2, h3⟩ := List.getElem?_eq_some_iff.1 h1
 rw [List.drop_eq_getElem_cons h, h3, List.flatMap_cons]
theorem Jmy {l : List FrE} {i : Nat} (hv : ∀ f ∈ l, Vz f = 0) (h : i < l.length) : XJ ((Vm l).drop (Yc l i)) (Yc l i) = (yK l i, Yc l (i + 1), 0) := by
 rw [Jcv, drop_one h, Jj0 (hv _ (ZR h).2), Jcw h]
theorem Jbc (f : FrE) : 0 < (Vd f).length := by unfold Vd lastE; simp; omega
theorem Jj1 (s : BS) (a : Nat) : PureE (α := Nat × Nat) Tryz.prog 68 [Jq s, .int .i64 (a : Int)].toArray (fun z => .func (.func 167) #[] #[Kw z.1, Kw z.2]) (fun z => [Xh z.1 a, stB z.2 s]) := by
 refine KZ Tryz.func68 rfl rfl fun w => ?_; refine sR fun _ hK1 => ?_; refine LN rfl fun r1 => ?_; refine LN rfl fun r2 => ?_; refine Jb rfl ?_; refine nK hK1 ?_; refine sR fun _ hK2 => ?_; refine LR rfl (JQ rfl rfl) ?_; refine Jb rfl ?_; refine nK hK2 ?_; refine Jd ?_; refine pT rfl rfl rfl fun w1 hs1 => ?_; exact ⟨(_, _), rfl, hs1⟩
def nxF (l : List FrE) : Nat → List Value → Nat → Prop := fun i v i' => i < l.length ∧ v = [(yK l i).val, .int .i64 0] ∧ i' = i + 1
theorem Jj2 {l : List FrE} (hv : ∀ f ∈ l, Vz f = 0) (hl : (Vm l).length ≤ 1000000) (ri rs : Nat) : Jav Tryz.prog 167 [Kw ri, Kw rs] [Xh ri (Yc l 0)] [stB rs (Vm l)] (0 : Nat) (nxF l) (fun _ _ _ => False) (fun _ _ _ => False) (fun _ => False) (fun i => i = l.length) := by
  refine Zv Tryz.func167 rfl rfl fun q xids w2 XI XF hdd hY hC => ?_; refine J3 (JS (σ := Nat) (fun i => i ≤ l.length) (fun _ => [(0, .func (.yield q) #[] #[]), (1, Kw ri), (2, Kw rs)]) (fun i => [Xh ri (Yc l i)]) (fun i => XI i) (fun i => l.length - i) 0 (Nat.zero_le _) (lK rfl) (List.Sublist.refl _) (fun _ _ h => h) ?_); intro i hi
  have hps := Jbb l i
  refine sQ fun _ hK1 => ?_; refine sR fun _ hK2 => ?_; refine LR rfl (Jc rfl (kn 0 rfl) rfl rfl) ?_; refine LR rfl (Jc rfl (Kg (k := 0) rfl) rfl rfl) ?_; refine LR rfl (JI rfl rfl) ?_; refine J2 rfl ?_; refine nK hK2 ?_; refine cD (fun g => ?_) fun g => ?_
  · refine Jg (hK1 ?_); refine J3 (sQ fun _ hK4 => ?_)
    have hil : i < l.length := by
      rcases Nat.lt_or_ge i l.length with h | h
      exact h
      rw [List.drop_eq_nil_of_le h] at hps; simp at hps; omega
    have hN := Jjz (s := Vm l) (a := Yc l i) hl (by omega)
    rw [Jmy hv hil] at hN; refine Je (LR rfl (Jc rfl (Kg (k := 0) rfl) rfl rfl) (LR rfl (Jc rfl (kn 0 rfl) rfl rfl) ?_)); refine JC rfl rfl rfl (enters_of Tryz.func168 (by kernel_rfl) rfl) hN ?_; refine Jb rfl (LR rfl (Jf rfl rfl) (LR rfl (Jf rfl rfl) ?_)); refine LR rfl (Jf rfl rfl) ?_; refine LN rfl fun r4 => ?_; refine Js (k := 0) (n := 4) (ys := (yK l i).cells) rfl rfl rfl rfl rfl rfl rfl rfl rfl ?_; refine Jb rfl (Jb rfl ?_); refine nK hK4 ?_; refine sQ fun _ hK5 => ?_; refine sR fun _ hK6 => ?_; refine Jb rfl (LR rfl (Jm (xs := (yK l i).cells) (n := 4) rfl (kn 0 rfl) rfl rfl rfl) (Jb rfl ?_)); refine VV (XT := XI (i + 1)) (XF := XF) rfl rfl rfl rfl (hY i [(yK l i).val, .int .i64 0] (i + 1) ⟨hil, rfl, rfl⟩) ?_ ?_
    all_goals refine J2 rfl (Jb rfl ?_)
    all_goals first | refine Jb rfl ?_ | refine LK rfl ?_
    all_goals first | refine J2 rfl ?_ | refine LK rfl ?_
    all_goals first | refine LR rfl (Jx rfl rfl) ?_ | refine LR rfl (J5 rfl rfl) ?_
    all_goals (
     refine Jt (hK6 ?_); refine Jl rfl (fun g => ?_) (fun g => ?_)
     · try exact Bool.noConfusion g
       all_goals try simp only [ZZ] at g
       all_goals (
        refine Jd (Ji ?_); refine Jr (Ji (Jr ?_)); refine Jp rfl rfl .nil (fun w1 hs1 => ?_)
        obtain ⟨xs1, hx1⟩ := hs1.now
        exact ⟨⟨_, rfl⟩, hs1.keep, .inr ⟨_, hx1⟩⟩
        skip)
     · try exact Bool.noConfusion g
       all_goals try simp only [ZZ] at g
       all_goals (
        refine Jg (hK5 ?_); refine Je (Jb rfl ?_)
        refine Ju (k := 1) rfl rfl rfl rfl rfl rfl rfl rfl (by first | (simp only [List.setIfInBounds_toArray, List.set_cons_zero, List.set_cons_succ]; exact rfl) | exact rfl) (by first | (simp only [List.set_cons_zero, List.set_cons_succ]; exact rfl) | exact rfl) ?_; refine Jt ?_; refine Jo (JU ?_); exact JN (i + 1) (by omega) (by omega) (lK rfl) (.cons _ (List.Sublist.refl _)) (fun _ _ h => h)
        skip)
     skip)
  · refine JL (Jn ?_); refine Jn (J8 ?_); refine Qf rfl rfl .nil (fun w1 hs1 => ?_)
    obtain ⟨xs1, hx1⟩ := hs1.now
    exact ⟨⟨_, rfl⟩, hs1.keep, .inl ⟨i, _, (by
      rcases Nat.lt_or_ge i l.length with h | h
      rw [drop_one h, List.length_append] at hps; have := Jbc (yK l i); omega
      · omega), hx1⟩⟩
theorem yM {l : List FrE} {i : Nat} (h : i < l.length) : VF (l.take i) ++ (yK l i).cells = VF (l.take (i + 1)) := by
 rw [List.take_add_one, (ZR h).1]
 simp [VF, List.flatMap_append]
theorem Jmz {l : List FrE} (hv : ∀ f ∈ l, Vz f = 0) (h1 : 1 ≤ l.length) (h32 : l.length ≤ 32) :
  PureT (α := { row : QH // rowOk 4 l.length (VF l) row }) Tryz.prog 18 [Jq (Vm l)].toArray (fun y => .tuple #[JO l.length y.1, .int .i64 0]) [] (fun y => Kk 72 (VF l) y.1) [] := by
 have hfl := Jba hv
 have hlen : (Vm l).length ≤ 1000000 := by unfold Vm; rw [List.length_cons]; omega
 have hp2 : 2 ≤ (Vm l).length := by
  have h := Jbb l 0
  rw [drop_one (show 0 < l.length by omega), List.length_append] at h
  have := Jbc (yK l 0)
  unfold Yc at h; simp at h; omega
 refine J1 Tryz.func18 rfl rfl fun w => ?_; refine sR fun _ hK1 => ?_; refine LN rfl fun r2 => ?_; refine LN rfl fun r3 => ?_; refine nK hK1 ?_; refine sB fun _ hK2 => ?_; refine sR fun _ hK3 => ?_; refine Jb rfl (LR rfl (Q3 rfl rfl) (Jb rfl ?_)); refine nK hK3 ?_; refine Jl rfl (fun h4 => ?_) (fun h4 => ?_)
 exact absurd h4 ((by intro h; exact absurd (of_decide_eq_true h) (by unfold Vm; simp)))
 ·try simp only [ZZ] at h4
  refine sR fun _ hK5 => ?_; refine Jb rfl (LR rfl (Kp (j := 0) (n := 0) rfl rfl rfl rfl (by omega) rfl) ?_); refine J2 rfl (Jb rfl ?_); refine nK hK5 ?_; refine Jl rfl (fun h6 => ?_) (fun h6 => ?_)
  exact absurd h6 ((by decide))
  ·try simp only [ZZ] at h6
   refine sR fun _ hK7 => ?_; refine Jb rfl (LR rfl (JI rfl rfl) ?_); refine J2 rfl (Jb rfl ?_); refine nK hK7 ?_; refine Jl rfl (fun h8 => ?_) (fun h8 => ?_)
   exact absurd h8 ((by intro h; have := beq_iff_eq.1 h; omega))
   ·try simp only [ZZ] at h8
    refine Jg (Jo (hK2 ?_)); refine sR fun _ hK9 => ?_; refine LN rfl fun r4 => ?_; refine nK hK9 ?_; refine sQ fun _ hK10 => ?_; refine sR fun _ hK11 => ?_; refine Jb rfl (Qh rfl rfl rfl (enters_of Tryz.func68 (by kernel_rfl) rfl) (Jj1 (Vm l) 1) fun y => ?_)
    obtain ⟨ri, rs⟩ := y
    refine nK hK11 ?_; refine J3 (ZU [2, 0, 1, 3, 4] (by decide) rfl ?_); refine qF (σ := Nat × QH) (τ := Unit) (T := [Xh ri (Yc l 0)]) (Rl := [stB rs (Vm l)]) (Rk := []) (p0 := (0 : Nat)) (nx := nxF l) (ca := fun _ _ _ => False) (re := fun _ _ _ => False) (dead := fun _ => False) (fi := fun i => i = l.length) (fun i z => i = z.1 ∧ i ≤ l.length ∧ rowOk 4 i (VF (l.take i)) z.2) (fun z => (r4, .cells #[JO z.1 z.2] 67 (0, 0)) :: Kk 72 (VF (l.take z.1)) z.2) (fun _ _ => False) (fun _ => []) [stB rs (Vm l), _, _] (0, none) rfl rfl (enters_of Tryz.func167 (by kernel_rfl) rfl) (Jj2 hv hlen ri rs) (by rintro _ _ _ ⟨_, rfl, _⟩; rfl) rfl (fun z hz => .inl (by rw [List.mem_singleton.1 hz]; exact List.mem_cons_self)) (fun z hz => nomatch hz) rfl ⟨rfl, Nat.zero_le _, ⟨rfl, rfl⟩⟩ (fun _ _ h => h.elim) (fun _ _ _ _ h => h.elim) ?_ ?_ ?_
    rintro q9 Xr Xb w3 i _ _ ⟨_, row⟩ ⟨hii, rfl, rfl⟩ ⟨rfl, him, hrow⟩ Kr hKr
    simp only at hKr hrow ⊢; refine sR fun _ hK12 => ?_; refine LN rfl fun r5 => ?_; refine Js (k := 0) (n := 4) (ys := (yK l i).cells) rfl rfl rfl rfl rfl rfl rfl rfl rfl ?_; refine nK hK12 ?_; refine Je (Jb rfl (Jt ?_)); refine hKr _ _ ?_; clear hKr; refine J3 (sQ fun _ hK13 => (sR fun _ hK14 => ?_)); refine LR rfl (Jc rfl (kn 1 rfl) rfl rfl) ?_; refine LR rfl (VY rfl hrow.zero rfl) ?_; refine J2 rfl ?_; refine nK hK14 ?_; refine Jl rfl (fun h15 => ?_) (fun h15 => ?_)
    exact absurd h15 ((by intro h; have := beq_iff_eq.1 h; omega))
    try simp only [ZZ] at h15
    refine Jg (hK13 ?_); refine sQ fun _ hK16 => ?_; refine sR fun _ hK17 => ?_; refine Jb rfl (J2 rfl ?_); refine nK hK17 ?_; refine Jl rfl (fun h18 => ?_) (fun h18 => ?_)
    exact absurd h18 ((by decide))
    try simp only [ZZ] at h18
    refine Jg (hK16 ?_); refine Je (LR rfl (Jc rfl (kn 1 rfl) rfl rfl) (LR rfl (Jm (xs := (yK l i).cells) (n := 4) rfl (kn 0 rfl) rfl rfl rfl) ?_)); refine JV (n := 1) (sz := 4) (vs := [_]) (zs := [_, _, _, _]) (r := (yK l i).cells) rfl rfl rfl rfl rfl rfl rfl rfl rfl (by rw [Qo]; exact rfl) rfl fun rb => ?_; refine Kh (L0 := [_, _, _]) (xs := VF (l.take i)) (row := row) (n := i) (sz := 4) (b := 48) (news := (yK l i).cells) (List.perm_append_comm (l₁ := [_, _, _])) rfl rfl rfl rfl (kn 0 rfl) rfl rfl rfl rfl rfl (by decide) rfl rfl rfl (by decide) hrow (by omega) (by omega) fun ra cap sp hra => ?_
    refine Ju (k := 3) rfl rfl rfl rfl rfl rfl rfl rfl (by first | (simp only [List.setIfInBounds_toArray, List.set_cons_zero, List.set_cons_succ]; exact rfl) | exact rfl) (by first | (simp only [List.set_cons_zero, List.set_cons_succ]; exact rfl) | exact rfl) ?_; refine Jt ?_; refine Jo (VW [3, 0] (L' := [_, _]) (by decide) rfl ?_); refine VZ (i + 1, some (ra, cap, sp)) ⟨rfl, by omega, by rw [yM hii] at hra; exact hra⟩ ?_; simp only [Kk, JO, yM hii]
    ·rintro D i ⟨_, row⟩ hfi ⟨rfl, him, hrow⟩
     simp only at hrow ⊢
     have hfi : i = l.length := hfi
     subst hfi; rw [List.take_length] at hrow ⊢; refine Wm (((List.perm_append_comm).cons _).cons _) ?_; change HQ _ _ _ ((D, _) :: (r4, _) :: (rs, _) :: (r3, _) :: (r2, _) :: Kk 72 (VF l) row) _ _; refine Jo (hK10 ?_); refine sR fun _ hK19 => ?_; refine LR rfl (Jc rfl (kn 1 rfl) rfl rfl) ?_
     refine Ju (k := 4) (cs' := #[JO l.length row]) rfl rfl rfl rfl rfl (by cases row <;> rfl) rfl rfl rfl rfl ?_; refine Ju (k := 3) (cs' := #[.int .i64 0]) rfl rfl rfl rfl rfl rfl rfl rfl rfl rfl ?_; refine nK hK19 ?_; refine Jd (V8 (k := 0) rfl rfl ?_); refine Jp rfl rfl (.cons (KW rfl (kn 4 rfl) rfl rfl) (.cons (KW rfl (kn 3 rfl) rfl rfl) .nil)) (fun w1 hs1 => ?_); exact ⟨⟨row, hrow⟩, rfl, hs1.weakL (.cons _ (.cons _ (.cons _ (.cons _ (.cons _ (List.Sublist.refl _))))))⟩
    ·exact fun _ _ _ h => h.elim
structure HeardF (l : List FrE) : Prop where
  ok : ∀ f ∈ l, Vz f = 0
  id : ∀ f ∈ l, ∀ g, l[0]? = some g → g.id = f.id
  up : ∀ i f g, l[i]? = some f → 0 < i → l[i - 1]? = some g → g.last = false ∧ g.num < f.num
theorem Jj3 {R : Jy} {l : List FrE} {p : Pl} (hl : l.length ≤ 1000000) (hs : Seg R l.length (VF l) p) (hh : HeardF l) : PureR Tryz.prog 69 [Ky l.length p].toArray (.bool true) R := by
 refine Jz Tryz.func69 rfl rfl fun w => ?_; refine sR fun _ hK1 => ?_; refine Jb rfl ?_; refine nK hK1 ?_; refine sQ fun _ hK2 => ?_; refine sR fun _ hK3 => ?_; refine Jb rfl (LR rfl (JJ rfl hs rfl) (Jb rfl ?_)); refine nK hK3 ?_; refine J3 (JS (σ := Nat) (fun i => i ≤ l.length) (fun i => [(0, Ky l.length p), (5, Ky l.length p), (6, .int .i64 (l.length : Int)), (7, .int .i64 (i : Int))]) (fun _ => []) (fun _ _ _ => True) (fun i => l.length - i) 0 (Nat.zero_le _) (lK rfl) (List.nil_sublist _) (fun _ _ h => h) ?_); intro i hi1; refine sR fun _ hK4 => ?_; refine J2 rfl ?_; refine nK hK4 ?_; refine sQ fun _ hK5 => ?_; refine cD (fun h6 => ?_) fun h6 => ?_
 ·refine Jg (hK5 ?_); refine sB fun _ hK7 => ?_; refine sQ fun _ hK8 => ?_
  obtain ⟨f, hf, hmf⟩ := QA (show i < l.length by omega)
  obtain ⟨f0, hf0, hmf0⟩ := QA (show 0 < l.length by omega)
  obtain ⟨g, hg0, hmg⟩ := QA (show i - 1 < l.length by omega)
  have hg : 0 < i → l[i - 1]? = some g ∧ g.last = false ∧ g.num < f.num := fun h => ⟨hg0, hh.up i f g hf h hg0⟩
  have hck := yG f
  rw [hh.ok f hmf] at hck; refine Je (Jb rfl ?_)
  refine LR rfl (JB (j := i) rfl hs rfl rfl rfl (by first | rfl | omega) (by omega)) ?_; refine LR rfl (Kt FrE.len oR rfl hs hf rfl rfl) ?_; refine LN rfl fun rx => ?_; refine Jb rfl (Js (k := 0) (n := 4) (ys := f.cells) rfl rfl rfl rfl rfl rfl rfl rfl rfl ?_); refine nK hK8 ?_; refine sQ fun _ hK9 => ?_; refine Qs 35 (by kernel_rfl) (by kernel_rfl) ?_; refine JD rfl rfl rfl (Jm (xs := f.cells) (n := 4) rfl (kn 0 rfl) rfl rfl rfl) ?_; refine VT rfl rfl rfl (enters_of Tryz.func70 (by kernel_rfl) rfl) hck ?_; refine JD rfl rfl rfl (KC rfl rfl rfl) ?_; refine JD rfl rfl rfl (JG rfl) ?_
  refine JD rfl rfl rfl (Ja rfl rfl (by first | (simp only [Nat.zero_add, Nat.reduceAdd, Nat.reduceMul, Nat.zero_mul, Nat.mul_one, Nat.add_zero]; exact rfl) | exact rfl)) ?_; refine JD rfl rfl rfl (Jc rfl (kn 0 rfl) rfl rfl) ?_; refine JD rfl rfl rfl (JG rfl) ?_
  refine JD rfl rfl rfl (JB (j := 0) rfl hs rfl rfl rfl (by first | rfl | omega) (by omega)) ?_; refine JD rfl rfl rfl (Ja (off' := Wj p + (0 * 4 + 0)) rfl rfl (by show Wj p + 0 * 4 + 0 = _; omega)) ?_; refine JD rfl rfl rfl (KR FrE.len (k := 0) (v := Jq f.id) oR rfl hs hf0 (by show some (Jq f0.id) = _; rw [hh.id f hmf f0 hf0]) rfl) ?_; refine JD rfl rfl rfl (ZH rfl rfl) ?_; refine Wl (show _ = Value.bool false from Kn (congrArg (fun z => !z) (decide_eq_true rfl))) ?_; refine JD rfl rfl rfl (J5 rfl rfl) ?_; refine JD rfl rfl rfl (JG rfl) ?_; refine JD rfl rfl rfl (JG rfl) ?_; refine JD rfl rfl rfl (KC rfl rfl rfl) ?_; refine JD rfl rfl rfl (JG rfl) ?_
  refine Jhq 27 rfl (fun gb => ?_) (fun gb => ?_) <;> (try simp only [ZZ] at gb) <;> first | (refine JD rfl rfl rfl (JG rfl) ?_) | (refine Q1 rfl rfl rfl ?_)
  all_goals first | refine JD rfl rfl rfl (JG rfl) ?_ | refine Q1 rfl rfl rfl ?_
  all_goals first | (refine JD rfl rfl rfl (KC rfl rfl rfl) ?_; refine Wl (show _ = Value.int .i64 ((i - 1 : Nat) : Int) from by rw [wrap_i64 (by omega) (by omega)]; congr 1 <;> omega) ?_) | refine Q1 rfl rfl rfl ?_
  all_goals first | (refine JD rfl rfl rfl (JB (j := (i - 1)) rfl hs rfl rfl rfl (by first | rfl | omega) (by omega)) ?_) | refine Q1 rfl rfl rfl ?_
  all_goals first | (refine JD rfl rfl rfl (Ja (off' := Wj p + ((i - 1) * 4 + 3)) rfl rfl (by show Wj p + (i - 1) * 4 + 3 = _; omega)) ?_) | refine Q1 rfl rfl rfl ?_
  all_goals first | (refine JD rfl rfl rfl (KR FrE.len (k := 3) (v := .bool false) oR rfl hs (hg (by omega)).1 (by show some (Value.bool g.last) = _; rw [(hg (by omega)).2.1]) rfl) ?_) | refine Q1 rfl rfl rfl ?_
  all_goals first | refine JD rfl rfl rfl (JG rfl) ?_ | refine Q1 rfl rfl rfl ?_
  all_goals first | refine JD rfl rfl rfl (JG rfl) ?_ | refine Q1 rfl rfl rfl ?_
  all_goals first | refine JD rfl rfl rfl (JG rfl) ?_ | refine Q1 rfl rfl rfl ?_
  all_goals first | (refine JD rfl rfl rfl (KC rfl rfl rfl) ?_; refine Wl (show _ = Value.int .i64 ((i - 1 : Nat) : Int) from by rw [wrap_i64 (by omega) (by omega)]; congr 1 <;> omega) ?_) | refine Q1 rfl rfl rfl ?_
  all_goals first | (refine JD rfl rfl rfl (JB (j := (i - 1)) rfl hs rfl rfl rfl (by first | rfl | omega) (by omega)) ?_) | refine Q1 rfl rfl rfl ?_
  all_goals first | (refine JD rfl rfl rfl (Ja (off' := Wj p + ((i - 1) * 4 + 1)) rfl rfl (by show Wj p + (i - 1) * 4 + 1 = _; omega)) ?_) | refine Q1 rfl rfl rfl ?_
  all_goals first | (refine JD rfl rfl rfl (KR FrE.len (k := 1) (v := .int .i64 (g.num : Int)) oR rfl hs (hg (by omega)).1 rfl rfl) ?_) | refine Q1 rfl rfl rfl ?_
  all_goals first | (refine JD rfl rfl rfl (Ja rfl rfl (by first | (simp only [Nat.zero_add, Nat.reduceAdd, Nat.reduceMul, Nat.zero_mul, Nat.mul_one, Nat.add_zero]; exact rfl) | exact rfl)) ?_) | refine Q1 rfl rfl rfl ?_
  all_goals first | refine JD rfl rfl rfl (Jc rfl (kn 0 rfl) rfl rfl) ?_ | refine Q1 rfl rfl rfl ?_
  all_goals first | refine JD rfl rfl rfl (KC rfl rfl rfl) ?_ | refine Q1 rfl rfl rfl ?_
  all_goals first | (refine Wl (show _ = Value.bool false from Kn (decide_eq_false (by have := (hg (by omega)).2.2; omega))) ?_) | skip
  all_goals first | refine JD rfl rfl rfl (J5 rfl rfl) ?_ | refine Q1 rfl rfl rfl ?_
  all_goals first | refine JD rfl rfl rfl (Jx rfl rfl) ?_ | refine JD rfl rfl rfl (J5 rfl rfl) ?_
  all_goals (refine JD rfl rfl rfl (J5 rfl rfl) ?_)
  all_goals (
   refine Q8 (Jt (hK9 ?_)); refine Jl rfl (fun h38 => ?_) (fun h38 => ?_)
   try exact Bool.noConfusion h38
   ·try simp only [ZZ] at h38
    refine Jg (Jo (hK7 ?_)); refine Je ?_
    refine J2 rfl ?_; refine JA (show _ = Value.int .i64 ((i + 1 : Nat) : Int) from by rw [wrap_i64 (by omega) (by omega)]; congr 1 <;> omega) ?_; refine Jb rfl (Jt (JU ?_)); exact JN (i + 1) (by omega) (by omega) (lK rfl) (List.nil_sublist _) (fun _ _ h => h)
   skip)
 ·refine JL (Jn ?_); refine Jn (J8 (hK2 ?_)); refine sR fun _ hK40 => ?_; refine Jb rfl ?_; refine nK hK40 ?_; refine Jd ?_; refine pT rfl rfl rfl fun w1 hs1 => ?_; exact ⟨rfl, hs1.keep⟩
structure WholeF (l : List FrE) : Prop where
  pos : 0 < l.length
  end_ : ∀ f, l[l.length - 1]? = some f → f.last = true ∧ f.num = l.length - 1
theorem Jj4 {R : Jy} {l : List FrE} {p : Pl} (hl : l.length ≤ 1000000) (hs : Seg R l.length (VF l) p) (hh : WholeF l) : PureR Tryz.prog 76 [Ky l.length p].toArray (.bool true) R := by
 have hp := hh.pos
 obtain ⟨f, hf, hmf⟩ := QA (show l.length - 1 < l.length by omega)
 obtain ⟨h1, h2⟩ := hh.end_ f hf
 refine Jz Tryz.func76 rfl rfl fun w => ?_; refine sR fun _ hK1 => ?_; refine Jb rfl ?_; refine nK hK1 ?_; refine sR fun _ hK2 => ?_; refine Jb rfl (LR rfl (JJ rfl hs rfl) (Jb rfl ?_)); refine nK hK2 ?_; refine sR fun _ hK3 => ?_; refine Jb rfl (J2 rfl (JA (show _ = Value.bool true from Kn (decide_eq_true (by omega))) ?_)); refine Jb rfl (Jb rfl (Jb rfl ?_))
 refine J2 rfl ?_; refine JA (show _ = Value.int .i64 ((l.length - 1 : Nat) : Int) from by rw [wrap_i64 (by omega) (by omega)]; congr 1 <;> omega) ?_
 refine LR rfl (JB (j := (l.length - 1)) rfl hs rfl rfl rfl (by first | rfl | omega) (by omega)) ?_; refine LR rfl (Ja (off' := Wj p + ((l.length - 1) * 4 + 3)) rfl rfl (by show Wj p + (l.length - 1) * 4 + 3 = _; omega)) ?_; refine LR rfl (KR FrE.len (k := 3) (v := .bool true) oR rfl hs hf (by show some (Value.bool f.last) = _; rw [h1]) rfl) ?_; refine LR rfl (Jx rfl rfl) ?_; refine Jb rfl (Jb rfl (Jb rfl ?_))
 refine J2 rfl ?_; refine JA (show _ = Value.int .i64 ((l.length - 1 : Nat) : Int) from by rw [wrap_i64 (by omega) (by omega)]; congr 1 <;> omega) ?_
 refine LR rfl (JB (j := (l.length - 1)) rfl hs rfl rfl rfl (by first | rfl | omega) (by omega)) ?_; refine LR rfl (Ja (off' := Wj p + ((l.length - 1) * 4 + 1)) rfl rfl (by show Wj p + (l.length - 1) * 4 + 1 = _; omega)) ?_; refine LR rfl (KR FrE.len (k := 1) (v := .int .i64 ((l.length - 1 : Nat) : Int)) oR rfl hs hf (by show some (Value.int .i64 (f.num : Int)) = _; rw [h2]) rfl) ?_; refine Jb rfl ?_
 refine J2 rfl ?_; refine JA (show _ = Value.int .i64 ((l.length - 1 : Nat) : Int) from by rw [wrap_i64 (by omega) (by omega)]; congr 1 <;> omega) ?_; refine J2 rfl (JA (show _ = Value.bool true from Kn (beq_self_eq_true _)) (LR rfl (Jx rfl rfl) ?_)); refine Jb rfl ?_; refine nK hK3 ?_; refine Jd ?_; refine pT rfl rfl rfl fun w1 hs1 => ?_; exact ⟨rfl, hs1.keep⟩
section
variable {c : Cx} {l : KK} {L : Jy} {X : XP} {d : List Deferred} {i : Nat} {ps : String} {af : Array Edge} {gd : Option (Nat × Bool)} {ty : TypeId}
theorem yN {x : Operand} {b : List UInt8} {r off n cap : Nat} {cs : Array Value} {e src dst : TypeId} {fr : Nat × Nat} (hx : Kz l x = some (.slice (some ⟨r, off, none⟩) n cap)) (hk : known c L r (.cells cs e fr)) (hn : n = b.length) (ht : (cs.toList.drop off).take b.length = b.map bV)
  (hs : KI c.P src = some e) (he : c.P.underlying e = some (.int .u8)) (hd : jK c.P dst = true) :
  JP c d l L X ⟨some i, .convert src dst x, ty, ps, af, gd⟩ (.string (bs b)) := fun a' w hf hst => by
 subst hn; simp only [execOp]; rw [hf.eval hx]
 have hget := hst.known hk
 have hl : (loadCells ⟨r, off, none⟩ (b.map bV).length).run c.P w = .ok (b.map bV).toArray w := run_loadCells_list w ⟨r, off, none⟩ (b.map bV) fun j v hj => by
  have hlt := (List.getElem?_eq_some_iff.1 hj).1
  rw [List.length_map] at hlt
  have hj2 : cs[off + j]? = some v := by
   rw [← ht, List.getElem?_take, if_pos hlt, List.getElem?_drop] at hj
   simpa using hj
  rw [Yj, Ve hget]; exact hj2
 rw [List.length_map] at hl; simp only [Sem.run_bind]; rw [run_convert_bytes_string w src dst e _ _ _ (Kj hs) he (QJ hd)]; rw [run_bytesToString w _ _ _ (b.map fun x => ((x.toNat : Nat) : Int)) (by rw [hl]; simp [bV, Function.comp_def])]
 have := YN b []
 rw [show (bs [] : ByteArray) = ByteArray.empty from rfl] at this; rw [this]
 rfl
end
def Qt (s : BS) (i : Nat) : BS := (s.drop (30 * i)).take 30
theorem Yd (s : BS) (i : Nat) : (Qt s i).length = min 30 (s.length - 30 * i) := by unfold Qt; rw [List.length_take, List.length_drop]
theorem Jg3 (s : BS) (i : Nat) (sp : List Value) : ((s.map bV ++ sp).toArray.toList.drop (30 * i)).take (Qt s i).length = (Qt s i).map bV := by
 simp only [List.toList_toArray]; rw [Yd]
 by_cases h : 30 * i ≤ s.length
 ·rw [List.drop_append_of_le_length (by rw [List.length_map]; exact h), List.take_append_of_le_length (by rw [List.length_drop, List.length_map]; omega)]
  unfold Qt
  rw [List.map_take, List.map_drop]
  rcases Nat.le_total 30 (s.length - 30 * i) with h2 | h2
  ·rw [Nat.min_eq_left h2]
  ·rw [Nat.min_eq_right h2, List.take_of_length_le (by rw [List.length_drop, List.length_map]; omega), List.take_of_length_le (by rw [List.length_drop, List.length_map]; omega)]
 ·unfold Qt
  rw [show s.length - 30 * i = 0 by omega, Nat.min_zero, List.take_zero, List.drop_of_length_le (by omega)]; rfl
def chM (rb n cap : Nat) (p : Nat × Nat) : Jy := [(p.2, .cells #[.int .i64 30] 3 (0, 0)), (p.1, .cells #[.slice (some ⟨rb, 0, none⟩) n cap] 76 (0, 0))]
theorem Jg4 (rb n cap : Nat) : PureE (α := Nat × Nat) Tryz.prog 83 [.slice (some ⟨rb, 0, none⟩) n cap, .int .i64 30].toArray (fun p => .func (.func 175) #[] #[Kw p.1, Kw p.2]) (chM rb n cap) := by
 refine KZ Tryz.func83 rfl rfl fun w => ?_; refine sR fun _ hK1 => ?_; refine LN rfl fun r1 => ?_; refine LN rfl fun r2 => ?_; refine Jb rfl ?_; refine nK hK1 ?_; refine sQ fun _ hK2 => ?_; refine sR fun _ hK3 => ?_; refine LR rfl (Jc rfl (kn 0 rfl) rfl rfl) ?_; refine J2 rfl ?_; refine nK hK3 ?_; refine Jl rfl (fun h4 => ?_) (fun h4 => ?_)
 exact absurd h4 (by decide)
 ·try simp only [ZZ] at h4
  refine Jg (hK2 ?_); refine sR fun _ hK5 => ?_; refine LR rfl (JQ rfl rfl) ?_; refine Jb rfl ?_; refine nK hK5 ?_; refine Jd ?_; refine pT rfl rfl rfl fun w1 hs1 => ?_; exact ⟨(r1, r2), rfl, hs1⟩
def xb (rb n j : Nat) : List Value := [.slice (some ⟨rb, 30 * j, none⟩) (min 30 (n - 30 * j)) (min 30 (n - 30 * j))]
theorem Jg5 {rb n cap N : Nat} (hn : N = (n + 29) / 30) (hcap : n ≤ cap) (hlim : n ≤ 1000000) (p1 p2 : Nat) : jJ Tryz.prog 175 [Kw p1, Kw p2] (chM rb n cap (p1, p2)) 0 (nxN (xb rb n) N) (yX N) := by
  refine VX Tryz.func175 rfl rfl fun q xids w2 XI XF hY => ?_; refine sR fun _ hK1 => ?_; refine Jb rfl ?_; refine nK hK1 ?_; refine J3 (JS (σ := Nat) (fun i => i ≤ N) (fun i => [(0, .func (.yield q) #[] #[]), (1, Kw p1), (2, Kw p2), (4, .int .i64 ((30 * i : Nat) : Int))]) (fun _ => []) (fun i => XI i) (fun i => N - i) 0 (Nat.zero_le _) (lK rfl) (List.nil_sublist _) (fun _ _ h => h) ?_); intro i hi; refine sQ fun _ hK2 => ?_; refine sR fun _ hK3 => ?_; refine Jb rfl (LR rfl (Jc rfl (Kg (k := 1) rfl) rfl rfl) (LR rfl (KD rfl rfl) ?_)); refine J2 rfl ?_; refine nK hK3 ?_; refine cD (fun g => ?_) fun g => ?_
  · refine Jg (hK2 ?_); refine sB fun _ hK5 => ?_; refine sQ fun _ hK6 => ?_
    obtain ⟨M, hM⟩ : ∃ M, M = min 30 (n - 30 * i) := ⟨_, rfl⟩
    have hM1 : M ≤ 30 := by omega
    have hM2 : 0 < M := by omega
    refine Qs 7 (by kernel_rfl) (by kernel_rfl) ?_; refine JD rfl rfl rfl (Jc rfl (Kg (k := 0) rfl) rfl rfl) ?_; refine JD rfl rfl rfl (Jc rfl (Kg (k := 1) rfl) rfl rfl) ?_; refine JD rfl rfl rfl (JG rfl) ?_; refine JD rfl rfl rfl (V2 (kl := some (30 * i)) (kh := none) (km := none) (sz := 1) (m := 30 * i) (q := n) (z := cap) rfl rfl rfl ⟨_, rfl⟩ trivial trivial rfl rfl rfl (by omega) hcap (Nat.le_refl _) (fun _ => rfl) rfl) ?_; refine JD rfl rfl rfl (KD rfl rfl) ?_
    refine JD rfl rfl rfl (Jdw (r := ((M : Nat) : Int)) rfl rfl (by rw [hM]; split <;> omega)) ?_; refine JD rfl rfl rfl (JY rfl) ?_; refine Q8 ?_; refine nK hK6 ?_; refine sR fun _ hK7 => ?_; refine Jb rfl (LR rfl (Jc rfl (Kg (k := 1) rfl) rfl rfl) ?_); refine Jb rfl (Jb rfl (Jb rfl ?_))
    refine J2 rfl ?_; refine JA (show _ = Value.int .i64 ((30 * i + M : Nat) : Int) from by rw [wrap_i64 (by omega) (by omega)]; congr 1 <;> omega) ?_; refine Jb rfl (Jb rfl ?_)
    refine J2 rfl ?_; refine JA (show _ = Value.int .i64 ((30 * i + M : Nat) : Int) from by rw [wrap_i64 (by omega) (by omega)]; congr 1 <;> omega) ?_
    refine LR rfl (V2 (kl := some (30 * i)) (kh := some (30 * i + M)) (km := some (30 * i + M)) (sz := 1) (m := 30 * i) (q := 30 * i + M) (z := 30 * i + M) (off' := 30 * i) rfl rfl rfl ⟨_, rfl⟩ ⟨_, rfl⟩ ⟨_, rfl⟩ rfl rfl rfl (by omega) (Nat.le_refl _) (by omega) (fun h => by cases h) (by rw [if_neg (by omega)]; omega)) ?_; refine JA (show _ = Value.slice (some ⟨rb, 30 * i, none⟩) (min 30 (n - 30 * i)) (min 30 (n - 30 * i)) from by congr 1 <;> omega) ?_; refine VV (XT := XI (i + 1)) (XF := XF) rfl rfl rfl rfl (hY i (xb rb n i) (i + 1) ⟨by omega, rfl, rfl⟩) ?_ ?_
    all_goals (
     refine J2 rfl (Jt (hK7 ?_)); refine Jl rfl (fun g => ?_) (fun g => ?_)
     · try exact Bool.noConfusion g
       all_goals try simp only [ZZ] at g
       all_goals (
        refine Jd (Jr (Ji ?_)); refine Ji (Jr ?_); refine Jp rfl rfl .nil (fun w1 hs1 => ?_)
        obtain ⟨xs1, hx1⟩ := hs1.now
        exact ⟨⟨_, rfl⟩, hs1.keep, .inr ⟨_, hx1⟩⟩
        skip)
     · try exact Bool.noConfusion g
       all_goals try simp only [ZZ] at g
       all_goals (
        refine Jg (Jo (hK5 ?_)); refine Je (Jb rfl (LR rfl (Jc rfl (Kg (k := 0) rfl) rfl rfl) ?_))
        refine J2 rfl ?_; refine JA (show _ = Value.int .i64 ((30 * (i + 1) : Nat) : Int) from by rw [wrap_i64 (by omega) (by omega)]; congr 1 <;> omega) ?_; refine Jb rfl (Jt (JU ?_)); exact JN (i + 1) (by omega) (by omega) (lK rfl) (List.nil_sublist _) (fun _ _ h => h)
        skip)
     skip)
  · refine JL (Jn ?_); refine Jn (J8 ?_); refine Qf rfl rfl .nil (fun w1 hs1 => ?_)
    obtain ⟨xs1, hx1⟩ := hs1.now
    exact ⟨⟨_, rfl⟩, hs1.keep, .inl ⟨i, _, (by show i = N; omega), hx1⟩⟩
def xc (id s : BS) (i : Nat) : List FrE := (List.range i).map fun j => ⟨id, j, Qt s j, false⟩
theorem qJ (id s : BS) (i : Nat) : VF (xc id s i) ++ [Jq id, .int .i64 (i : Int), Jq (Qt s i), .bool false] = VF (xc id s (i + 1)) := by
 unfold xc VF
 rw [List.range_succ, List.map_append, List.flatMap_append]; rfl
def WK (id s : BS) : List FrE := [⟨id, 0, Qt s 0, false⟩, ⟨id, 1, Qt s 1, false⟩, ⟨id, 2, Qt s 2, true⟩]
theorem row_some {sz n : Nat} {xs : List Value} {row : QH} (h : rowOk sz n xs row) (h0 : 0 < n) : ∃ r cap sp, row = some (r, cap, sp) := by
 cases row with
 | none => have := h.1; omega
 | some q => exact ⟨q.1, q.2.1, q.2.2, rfl⟩
theorem Jj5 {id s : BS} (hid : id.length = 16) (hs1 : 60 < s.length) (hs2 : s.length ≤ 90) : PureT (α := { row : QH // rowOk 4 3 (VF (WK id s)) row }) Tryz.prog 23 [Jq id, Jq s, .int .i64 30].toArray (fun y => .tuple #[JO 3 y.1, .int .i64 0]) [] (fun y => Kk 72 (VF (WK id s)) y.1) [] := by
 obtain ⟨N, hN⟩ : ∃ N, N = (s.length + 29) / 30 := ⟨_, rfl⟩
 have hN3 : N = 3 := by omega
 refine J1 Tryz.func23 rfl rfl fun w => ?_; refine sR fun _ hK1 => ?_; refine JX (cs := List.toArray ([Jq id])) rfl rfl rfl rfl fun r3 => ?_; refine Jb rfl (Jb rfl ?_); refine nK hK1 ?_; refine sB fun _ hK2 => ?_; refine sR fun _ hK3 => ?_; refine Jb rfl (J2 rfl ?_); refine Jb rfl (Jb rfl ?_); refine J2 rfl (LR rfl (J5 rfl rfl) (Jb rfl ?_)); refine nK hK3 ?_; refine Jl rfl (fun h6 => ?_) (fun h6 => ?_)
 exact absurd h6 ((by decide))
 ·try simp only [ZZ] at h6
  refine sR fun _ hK7 => ?_; refine LR rfl (Jc rfl (kn 0 rfl) rfl rfl) ?_; refine LR rfl (JI rfl rfl) ?_; refine J2 rfl (Jb rfl ?_); refine nK hK7 ?_; refine Jl rfl (fun h8 => ?_) (fun h8 => ?_)
  exact absurd h8 ((by intro h; have := bne_iff_ne.1 h; omega))
  ·try simp only [ZZ] at h8
   refine sR fun _ hK9 => ?_; refine Jb rfl (LR rfl (JI rfl rfl) ?_); refine Jb rfl (J2 rfl (Ke (by omega) (by omega) ?_)); refine J2 rfl (Jb rfl ?_); refine nK hK9 ?_; refine Jl rfl (fun h10 => ?_) (fun h10 => ?_)
   exact absurd h10 ((by intro h; have := of_decide_eq_true h; omega))
   ·try simp only [ZZ] at h10
    refine Jg (Jo (hK2 ?_)); refine sR fun _ hK11 => ?_; refine LN rfl fun r8 => ?_; refine nK hK11 ?_; refine sQ fun _ hK12 => ?_; refine sR fun _ hK13 => ?_; refine Jb rfl (wo rfl rfl rfl rfl rfl rfl fun rb kb => ?_); refine Jb rfl (Qh rfl rfl rfl (enters_of Tryz.func83 (by kernel_rfl) rfl) (Jg4 rb s.length (s.length + kb)) fun pp => ?_)
    obtain ⟨p1, p2⟩ := pp
    change HL _ _ _ [(p2, _), (p1, _), (rb, _), (r8, _), (r3, _)] _ _ _ _; refine nK hK13 ?_; refine J3 (ZU [3, 0, 1, 2, 4] (L' := [_, _, _, _, _]) (by decide) rfl ?_)
    refine W9 (τ := Unit) (fun i (q : Nat × QH) => i ≤ N ∧ i = q.1 ∧ rowOk 4 q.1 (VF (xc id s q.1)) q.2) (fun q => (r8, .cells #[JO q.1 q.2] 67 (0, 0)) :: Kk 72 (VF (xc id s q.1)) q.2) (fun _ _ => False) (fun _ => []) [(p2, _), (p1, _), (rb, _), (r3, _)] (0, none) rfl rfl (enters_of Tryz.func175 (by kernel_rfl) rfl) (Jg5 (rb := rb) (cap := s.length + kb) hN (by omega) (by omega) p1 p2) (by rintro _ _ _ ⟨_, rfl, _⟩; rfl) rfl (fun q hq => .inl (by rcases List.mem_cons.1 hq with rfl | hq; exact List.mem_cons_self; rw [List.mem_singleton.1 hq]; exact List.mem_cons_of_mem _ List.mem_cons_self)) rfl ⟨Nat.zero_le _, rfl, rfl, rfl⟩ ?_ ?_ ?_
    rintro q Xr Xb w3 i _ _ ⟨i2, row⟩ ⟨hii, rfl, rfl⟩ ⟨him, he, hrow⟩ Kr hKr
    simp only at he
    obtain rfl := he
    simp only at hrow
    unfold xb
    refine Je (Jb rfl (Jt ?_)); refine hKr _ _ ?_; clear hKr; refine J3 (Je (LR rfl (Jc (v := JO i row) rfl (kn 0 rfl) rfl rfl) ?_)); refine LR rfl (Jc (v := Jq id) rfl (Kg (k := 3) rfl) rfl rfl) ?_; refine LR rfl (Jc (v := JO i row) rfl (kn 0 rfl) rfl rfl) ?_; refine LR rfl (VY rfl hrow.zero rfl) ?_; refine Jb rfl (LR rfl (yN (b := Qt s i) rfl (Kg (k := 2) rfl) (Yd s i).symm (Jg3 s i _) rfl rfl rfl) (LR rfl (J7 (r := [_, _, _, _]) rfl rfl) ?_)); refine JV (n := 1) (sz := 4) (vs := [_]) (zs := [_, _, _, _]) (r := [Jq id, .int .i64 (i : Int), Jq (Qt s i), .bool false]) rfl rfl rfl rfl rfl rfl rfl rfl rfl (by rw [Qo]; exact rfl) rfl fun rv => ?_; refine Kh (L0 := [_, _]) (xs := VF (xc id s i)) (row := row) (n := i) (sz := 4) (b := 48) (news := [Jq id, .int .i64 (i : Int), Jq (Qt s i), .bool false]) (List.perm_append_comm (l₁ := [_, _])) rfl rfl rfl rfl (kn 0 rfl) rfl rfl rfl rfl rfl (by decide) rfl rfl rfl (by decide) hrow (by omega) (by omega) fun ra cap sp hra => ?_; refine Ju (k := 2) (cs' := #[JO (i + 1) (some (ra, cap, sp))]) rfl rfl rfl rfl rfl rfl rfl rfl rfl rfl ?_; refine Jt ?_; refine Jo (VW [2, 0] (L' := [_, _]) (by decide) rfl ?_); exact VZ (i + 1, some (ra, cap, sp)) ⟨by omega, rfl, by simp only; rw [← qJ]; exact hra⟩ (by simp only; rw [← qJ]; rfl)
    rintro D i ⟨i2, row⟩ hfi ⟨him, he, hrow⟩
    simp only at he hrow
    obtain rfl : N = i := Eq.symm hfi
    obtain rfl := he
    subst hN3
    obtain ⟨ra, cap, sp, rfl⟩ := row_some hrow (by decide)
    refine Jo (hK12 ?_); refine sQ fun _ hK14 => ?_; refine sR fun _ hK15 => ?_; refine LR rfl (Jc rfl (kn 1 rfl) rfl rfl) ?_; refine LR rfl (KD rfl rfl) ?_; refine J2 rfl ?_; refine nK hK15 ?_; refine Jl rfl (fun h16 => ?_) (fun h16 => ?_)
    exact absurd h16 ((by simp))
    try simp only [ZZ] at h16
    refine Jg (hK14 ?_); refine sR fun _ hK17 => ?_; refine LR rfl (Jc rfl (kn 1 rfl) rfl rfl) ?_; refine LR rfl (Jc rfl (kn 1 rfl) rfl rfl) ?_; refine LR rfl (KD rfl rfl) ?_; refine J2 rfl (Ke (by omega) (by omega) ?_)
    refine LR rfl (QE (j := 2) (m := 4) (off' := 2 * 4) rfl rfl rfl rfl rfl (by show 2 < 3; decide) (by first | decide | simp)) ?_
    refine LR rfl (Ja rfl rfl (by first | (simp only [Nat.zero_add, Nat.reduceAdd, Nat.reduceMul, Nat.zero_mul, Nat.mul_one, Nat.add_zero]; exact rfl) | exact rfl)) ?_; refine WS (k := 2) (off := 11) (xs := VF (xc id s 3) ++ sp) (ys := VF (WK id s) ++ sp) rfl rfl rfl rfl rfl rfl (by rw [List.length_append]; exact Nat.lt_add_right _ (show 11 < 12 from by decide)) rfl rfl ?_; refine nK hK17 ?_; refine sR fun _ hK18 => ?_; refine LR rfl (Jc rfl (kn 1 rfl) rfl rfl) ?_; refine Jb rfl (Jb rfl ?_); refine nK hK18 ?_; refine Jd (V8 (k := 0) rfl rfl ?_); refine Jp rfl rfl (.cons (Jk rfl) (.cons (Jk rfl) .nil)) (fun w1 hs1 => ?_); exact ⟨⟨some (ra, cap, sp), hrow.same rfl⟩, rfl, hs1.weakL (.cons _ (.cons _ (.cons_cons _ (List.nil_sublist _))))⟩
    ·exact fun _ _ _ h => h.elim
def jnE (l : List FrE) (i : Nat) : BS := (l.take i).flatMap FrE.data
theorem vO {l : List FrE} {i : Nat} {f : FrE} (h : l[i]? = some f) : jnE l i ++ f.data = jnE l (i + 1) := by
 unfold jnE
 rw [List.take_add_one, h, Option.toList_some, List.flatMap_append]; simp
theorem Jk4 (l : List FrE) (i : Nat) : (jnE l i).length ≤ (l.flatMap FrE.data).length := by
 have h : l.flatMap FrE.data = (l.take i).flatMap FrE.data ++ (l.drop i).flatMap FrE.data := by rw [← List.flatMap_append, List.take_append_drop]
 rw [h, List.length_append]; unfold jnE; omega
theorem Jg6 {R : Jy} {l : List FrE} {p : Pl} (hl : l.length ≤ 1000000) (hs : Seg R l.length (VF l) p) (hh : HeardF l) (hw : WholeF l) (hd : (l.flatMap FrE.data).length ≤ 1000000) :
  PureR Tryz.prog 20 [Ky l.length p].toArray (.tuple #[Jq (l.flatMap FrE.data), .int .i64 0]) R := by
 refine Jz Tryz.func20 rfl rfl fun w => ?_; refine sR fun _ hK1 => ?_; refine Jb rfl (Jb rfl ?_); refine nK hK1 ?_; refine sB fun _ hK2 => ?_; refine sR fun _ hK3 => ?_; refine Jb rfl (J4 rfl rfl rfl (enters_of Tryz.func69 (by kernel_rfl) rfl) (Jj3 hl hs hh) oR ?_); refine J2 rfl (Jb rfl ?_); refine nK hK3 ?_; refine Jl rfl (fun h4 => ?_) (fun h4 => ?_)
 exact absurd h4 ((by decide))
 ·try simp only [ZZ] at h4
  refine sR fun _ hK5 => ?_; refine Jb rfl (J4 rfl rfl rfl (enters_of Tryz.func76 (by kernel_rfl) rfl) (Jj4 hl hs hw) oR ?_); refine J2 rfl (Jb rfl ?_); refine nK hK5 ?_; refine Jl rfl (fun h6 => ?_) (fun h6 => ?_)
  exact absurd h6 ((by decide))
  ·try simp only [ZZ] at h6
   refine Jg (Jo (hK2 ?_)); refine sR fun _ hK7 => ?_; refine LN rfl fun rB => ?_; refine nK hK7 ?_; refine sQ fun _ hK8 => ?_; refine sR fun _ hK9 => ?_; refine Jb rfl (LR rfl (JJ rfl hs rfl) (Jb rfl ?_)); refine nK hK9 ?_; refine J3 (JS (σ := Nat × QH × Bool) (fun z => z.1 ≤ l.length ∧ bOk (jnE l z.1) z.2.1) (fun z => [(4, Kw rB), (15, Ky l.length p), (16, .int .i64 (l.length : Int)), (17, .int .i64 (z.1 : Int))]) (fun z => QS rB (jnE l z.1) z.2.1 z.2.2) (fun _ _ _ => True) (fun z => l.length - z.1) (0, none, false) ⟨Nat.zero_le _, ⟨⟨rfl, rfl⟩, fun _ => rfl⟩⟩ (lK rfl) (List.Sublist.refl _) (fun _ _ h => h) ?_); rintro ⟨i, row, own⟩ hI
   obtain ⟨hi1, hbk⟩ := hI
   simp only at hi1 hbk; change HC _ _ _ (QS rB (jnE l i) row own) _ _ _; refine sR fun _ hK10 => ?_; refine J2 rfl ?_; refine nK hK10 ?_; refine sQ fun _ hK11 => ?_; refine cD (fun g => ?_) fun g => ?_
   ·refine Jg (hK11 ?_); refine sB fun _ hK13 => ?_; refine sQ fun _ hK14 => ?_
    obtain ⟨f, hf, hmf⟩ := QA (show i < l.length by omega)
    refine Je ?_
    refine LR rfl (JB (j := i) rfl hs rfl rfl rfl (by first | rfl | omega) (by omega)) ?_; refine LR rfl (Kt FrE.len oR rfl hs hf rfl rfl) ?_; refine LN rfl fun rx => ?_; refine Js (k := 0) (n := 4) (ys := f.cells) rfl rfl rfl rfl rfl rfl rfl rfl rfl ?_; refine nK hK14 ?_; refine Je ?_
    refine LR rfl (Ja rfl rfl (by first | (simp only [Nat.zero_add, Nat.reduceAdd, Nat.reduceMul, Nat.zero_mul, Nat.mul_one, Nat.add_zero]; exact rfl) | exact rfl)) ?_; refine LR rfl (Jc rfl (kn 0 rfl) rfl rfl) ?_; refine J9 (T := QS rB (jnE l i) row own) (L0 := [(rx, _)]) (Rl := []) (List.perm_append_comm (l₁ := [_])) rfl rfl rfl zw (WY hbk (by have := Jk4 l (i + 1); rw [← vO hf, List.length_append] at this; omega)) oN fun x => ?_
    obtain ⟨row1, hrow1⟩ := x
    rw [vO hf] at hrow1; simp only [vO hf]; refine Jt ?_; refine Jo (hK13 ?_); refine Je ?_
    refine J2 rfl ?_; refine JA (show _ = Value.int .i64 ((i + 1 : Nat) : Int) from by rw [wrap_i64 (by omega) (by omega)]; congr 1 <;> omega) ?_; refine Jb rfl (Jt (JU ?_)); exact JN (i + 1, row1, true) ⟨by simp only; omega, hrow1⟩ (by simp only; omega) (lK rfl) (List.sublist_append_left _ _) (fun _ _ h => h)
   ·refine JL (Jn ?_); refine Jn (J8 (hK8 ?_)); refine sR fun _ hK15 => ?_; refine J9 (T := QS rB (jnE l i) row own) (L0 := []) (Rl := []) (List.Perm.of_eq (List.append_nil _).symm) rfl rfl rfl Jid (vG hbk (by have := Jk4 l i; omega)) oN fun x5 => ?_; refine Jb rfl (Jb rfl ?_); refine nK hK15 ?_; refine Jd ?_; refine Jp rfl rfl (.cons (Jk rfl) (.cons (Jk rfl) .nil)) (fun w1 hs1 => ?_); refine ⟨?_, hs1.keep⟩
    have hiM : i = l.length := by omega
    rw [show jnE l i = l.flatMap FrE.data from by unfold jnE; rw [hiM, List.take_length]]; rfl
theorem Jcx {id s : BS} (hid : id.length = 16) : HeardF (WK id s) where
 ok := by
  intro f hf
  have hp : ∀ i, (Qt s i).length ≤ 30 := fun i => by rw [Yd]; omega
  have h0 := hp 0
  have h1 := hp 1
  have h2 := hp 2
  simp only [WK, List.mem_cons, List.not_mem_nil, or_false] at hf
  rcases hf with rfl | rfl | rfl <;> (unfold Vz; rw [if_neg (by simp only; omega), if_neg (by simp only; omega)])
 id := by
  intro f hf g hg; simp only [WK, List.mem_cons, List.not_mem_nil, or_false] at hf; simp only [WK, List.getElem?_cons_zero, Option.some.injEq] at hg; subst hg
  rcases hf with rfl | rfl | rfl <;> rfl
 up := by
  intro i f g hf h0 hg
  match i, h0, hf, hg with
  | 1, _, hf, hg =>
   have hf : some (⟨id, 1, Qt s 1, false⟩ : FrE) = some f := hf
   have hg : some (⟨id, 0, Qt s 0, false⟩ : FrE) = some g := hg
   cases hf; cases hg; exact ⟨rfl, (show (0 : Nat) < 1 by decide)⟩
  | 2, _, hf, hg =>
   have hf : some (⟨id, 2, Qt s 2, true⟩ : FrE) = some f := hf
   have hg : some (⟨id, 1, Qt s 1, false⟩ : FrE) = some g := hg
   cases hf; cases hg; exact ⟨rfl, (show (1 : Nat) < 2 by decide)⟩
  | n + 3, _, hf, _ => simp [WK] at hf
theorem Jcy (id s : BS) : WholeF (WK id s) where
 pos := (show 0 < 3 by decide)
 end_ := by
  intro f hf
  have hf : some (⟨id, 2, Qt s 2, true⟩ : FrE) = some f := hf
  cases hf
  exact ⟨rfl, rfl⟩
theorem Jg7 {id s : BS} (hs : s.length ≤ 90) : (WK id s).flatMap FrE.data = s := by
 have h : (WK id s).flatMap FrE.data = Qt s 0 ++ (Qt s 1 ++ Qt s 2) := by simp [WK]
 rw [h]
 unfold Qt
 rw [Nat.mul_zero, List.drop_zero, List.take_of_length_le (i := 30) (l := s.drop (30 * 2)) (by rw [List.length_drop]; omega), show 30 * 2 = 30 * 1 + 30 from rfl, ← List.drop_drop, List.take_append_drop, List.take_append_drop]
structure WrapS (l : List BS) : Prop where
  pos : 0 < l.length
  le : l.length ≤ 64
  each : ∀ s ∈ l, VE s.length = 0
  all : l.flatten.length ≤ 131072
theorem Jg8 {l : List BS} (h : Vk l = 0) : WrapS l := by
 unfold Vk at h
 split at h
 ·cases h
 ·rename_i h1
  split at h
  ·cases h
  ·rename_i h2
   rw [not_or] at h1; rw [not_or, not_or] at h2; refine ⟨by omega, by omega, fun s hs => ?_, by omega⟩
   have a1 := fun hg => h1.2 (List.any_eq_true.2 ⟨s, hs, hg⟩)
   have a2 := fun hg => h2.2.1 (List.any_eq_true.2 ⟨s, hs, hg⟩)
   simp only [decide_eq_true_eq] at a1 a2
   unfold VE at a1 a2 ⊢
   by_cases c1 : s.length < 2
   ·rw [if_pos c1] at a1; exact absurd rfl a1
   ·rw [if_neg c1] at a2 ⊢
    by_cases c2 : s.length > 32768
    ·rw [if_pos c2] at a2; exact absurd rfl a2
    ·rw [if_neg c2]
def VP (l : List BS) (i : Nat) : BS := l.getD i []
theorem WL {l : List BS} {i : Nat} (h : i < l.length) : l[i]? = some (VP l i) ∧ VP l i ∈ l := by
 unfold VP
 rw [List.getD_eq_getElem?_getD, List.getElem?_eq_getElem h]; exact ⟨rfl, List.getElem_mem h⟩
theorem Jg9 {l : List BS} {i : Nat} (h : i < l.length) : ∃ q, VO l = QO l i ++ Vn (VP l i).length ++ (VP l i ++ q) := by
 have e : (l.flatMap fun s => Vn s.length ++ s) = ((l.take i).flatMap fun s => Vn s.length ++ s) ++ (Vn (VP l i).length ++ (VP l i ++ (l.drop (i + 1)).flatMap fun s => Vn s.length ++ s)) := by
  have h1 := (WL h).1
  obtain ⟨h2, h3⟩ := List.getElem?_eq_some_iff.1 h1
  have h4 : (l.drop i).flatMap (fun s => Vn s.length ++ s) = Vn (VP l i).length ++ (VP l i ++ (l.drop (i + 1)).flatMap fun s => Vn s.length ++ s) := by
   rw [List.drop_eq_getElem_cons h, h3, List.flatMap_cons, List.append_assoc]
  rw [← h4, ← List.flatMap_append, List.take_append_drop]
 refine ⟨(l.drop (i + 1)).flatMap fun s => Vn s.length ++ s, ?_⟩
 show QO l l.length = _
 unfold QO
 rw [List.take_length, e]
 simp
theorem Jol {l : List BS} (hl : l.length ≤ 64) : jd (VO l) 1 = (l.length, (QO l 0).length, 0) := by
 have h := Jah (n := l.length) (by omega) [2] (l.flatMap fun s => Vn s.length ++ s)
 have e : VO l = [2] ++ Vn l.length ++ l.flatMap fun s => Vn s.length ++ s := by unfold VO QO; rw [List.take_length]; simp
 rw [e]
 have e2 : (QO l 0).length = [2].length + (Vn l.length).length := by unfold QO; simp; omega
 rw [e2]; exact h
theorem Jom {l : List BS} {i : Nat} (h : i < l.length) (hb : (VP l i).length ≤ 1000000) : jd (VO l) ((QO l i).length : Nat) = ((VP l i).length, (QO l i).length + (Vn (VP l i).length).length, 0) := by
 obtain ⟨q, hq⟩ := Jg9 h
 rw [hq]; exact Jah (by omega) _ _
theorem Jha (s : BS) : PureE (α := Nat) Tryz.prog 88 [Jq s].toArray (fun r => .func (.func 181) #[] #[Kw r]) (fun r => [stB r s]) := by
 refine KZ Tryz.func88 rfl rfl fun w => ?_; refine sR fun _ hK1 => ?_; refine LN rfl fun r1 => ?_; refine Jb rfl ?_; refine nK hK1 ?_; refine sR fun _ hK2 => ?_; refine LR rfl (JQ rfl rfl) ?_; refine Jb rfl ?_; refine nK hK2 ?_; refine Jd ?_; refine pT rfl rfl rfl fun w1 hs1 => ?_; exact ⟨_, rfl, hs1⟩
theorem Jhb {l : List BS} (hw : WrapS l) (hlen : (VO l).length ≤ 1000000) (rs : Nat) : jJ Tryz.prog 181 [Kw rs] [stB rs (VO l)] 0 (nxN (fun i => [Jq (VP l i), .int .i64 0]) l.length) (yX l.length) := by
  have hw1 := hw.pos
  have hw2 := hw.le
  have hU0 : Pure Tryz.prog 182 [Jq (VO l), .int .i64 1].toArray (Jll (jd (VO l) 1)) := Zs (by omega) 1
  rw [Jol hw2] at hU0; change Pure _ _ _ (.tuple #[uV l.length, .int .i64 ((QO l 0).length : Int), .int .i64 0]) at hU0; refine VX Tryz.func181 rfl rfl fun q xids w2 XI XF hY => ?_; refine sR fun _ hK1 => ?_; refine LR rfl (Jc rfl (Kg (k := 0) rfl) rfl rfl) ?_; refine JC rfl rfl rfl (enters_of Tryz.func182 (by kernel_rfl) rfl) hU0 ?_; refine Jb rfl (LR rfl (Jf rfl rfl) (LR rfl (Jf rfl rfl) ?_)); refine LR rfl (Jf rfl rfl) ?_; refine Jb rfl (Jb rfl (Jb rfl ?_)); refine nK hK1 ?_; refine sB fun _ hK2 => ?_; refine sR fun _ hK3 => ?_; refine Jb rfl (J2 rfl ?_); refine Jb rfl (Jb rfl ?_); refine J2 rfl (LR rfl (Jx rfl rfl) (Jb rfl ?_)); refine nK hK3 ?_; refine Jl rfl (fun h6 => ?_) (fun h6 => ?_)
  exact absurd h6 ((by intro h; have := beq_iff_eq.1 h; omega))
  · try simp only [ZZ] at h6
    refine sR fun _ hK7 => ?_; refine Jb rfl (J2 rfl (Jb rfl ?_)); refine nK hK7 ?_; refine Jl rfl (fun h8 => ?_) (fun h8 => ?_)
    exact absurd h8 ((by intro h; have := of_decide_eq_true h; omega))
    · try simp only [ZZ] at h8
      refine Jg (Jo (hK2 ?_)); refine sQ fun _ hK9 => ?_; refine sR fun _ hK10 => ?_; refine Jb rfl ?_; refine nK hK10 ?_; refine J3 (JS (σ := Nat) (fun i => i ≤ l.length) (fun i => [(0, .func (.yield q) #[] #[]), (1, Kw rs), (3, uV l.length), (4, .int .i64 ((QO l i).length : Int)), (5, .int .i64 0), (6, uV i)]) (fun _ => []) (fun i => XI i) (fun i => l.length - i) 0 (Nat.zero_le _) (lK rfl) (List.nil_sublist _) (fun _ _ h => h) ?_); intro i hi; refine sQ fun _ hK11 => ?_; refine sR fun _ hK12 => ?_; refine Jb rfl (Jb rfl ?_); refine J2 rfl (Jb rfl ?_)
      refine JM 29 rfl (fun gb => ?_) (fun gb => ?_) <;> (try simp only [ZZ] at gb) <;> first | (refine Jb rfl ?_) | (refine LK rfl ?_)
      all_goals first | refine J2 rfl ?_ | refine LK rfl ?_
      all_goals first | refine LR rfl (Jx rfl rfl) ?_ | refine LR rfl (J5 rfl rfl) ?_
      all_goals (
       refine Jt (hK12 ?_); refine Jl rfl (fun g => ?_) (fun g => ?_)
       · try exact Bool.noConfusion g
         all_goals try simp only [ZZ] at g
         all_goals (
          refine Jg (hK11 ?_); refine sB fun _ hK16 => ?_; refine sQ fun _ hK17 => ?_
          have hil : i < l.length := by omega
          have hsi := (WL hil).2
          have hsl : (VP l i).length ≤ 1000000 := by have h1 := Y9 hsi; have h2 := hw.all; omega
          have hU : Pure Tryz.prog 182 [Jq (VO l), .int .i64 ((QO l i).length : Int)].toArray (Jll (jd (VO l) ((QO l i).length : Nat))) := Zs (by omega) _
          rw [Jom hil hsl] at hU
          have hsn := congrArg List.length (V5 (WL hil).1)
          rw [List.length_append, List.length_append] at hsn
          have hle := ZQ (l := l) (i + 1)
          have hL := Ja8 (n := (VP l i).length) (show (VP l i).length < 18446744073709551616 by omega)
          rw [hw.each _ hsi] at hL
          obtain ⟨T, hT⟩ : ∃ T, (QO l i).length + (Vn (VP l i).length).length = T := ⟨_, rfl⟩
          have hcut : ((VO l).take (QO l (i + 1)).length).drop T = VP l i := by
            obtain ⟨q, hq⟩ := Jg9 hil
            rw [hq, ← List.append_assoc (QO l i ++ Vn (VP l i).length), V5 (WL hil).1, List.take_left, ← V5 (WL hil).1, ← hT, ← List.length_append, List.drop_left]
          rw [hT] at hU hsn; change Pure _ _ _ (.tuple #[uV (VP l i).length, .int .i64 (T : Int), .int .i64 0]) at hU; refine Je (LR rfl (Jc rfl (Kg (k := 0) rfl) rfl rfl) ?_); refine Jb rfl (JC rfl rfl rfl (enters_of Tryz.func182 (by kernel_rfl) rfl) hU ?_); refine Jb rfl (LR rfl (Jf rfl rfl) (LR rfl (Jf rfl rfl) ?_)); refine LR rfl (Jf rfl rfl) ?_; refine Jb rfl (Jb rfl (Jb rfl ?_)); refine nK hK17 ?_; refine sQ fun _ hK18 => ?_; refine sR fun _ hK19 => ?_; refine Jb rfl (Jb rfl ?_); refine nK hK19 ?_; refine sR fun _ hK20 => ?_; refine Jb rfl (J2 rfl ?_); refine nK hK20 ?_; refine Jl rfl (fun h21 => ?_) (fun h21 => ?_)
          · try simp only [ZZ] at h21
            refine Je (Jb rfl (JC rfl rfl rfl (enters_of Tryz.func180 (by kernel_rfl) rfl) hL ?_)); refine Jb rfl ?_; refine nK hK18 ?_; refine sQ fun _ hK22 => ?_; refine sR fun _ hK23 => ?_; refine Jb rfl (J2 rfl ?_); refine Jb rfl (Jb rfl ?_); refine J2 rfl (Ke (by omega) (by omega) (LR rfl (Jc rfl (Kg (k := 0) rfl) rfl rfl) ?_)); refine LR rfl (JI rfl rfl) ?_; refine Jb rfl (J2 rfl (Ke (by omega) (by omega) ?_)); refine J2 rfl (LR rfl (Jx rfl rfl) ?_); refine nK hK23 ?_; refine Jl rfl (fun h31 => ?_) (fun h31 => ?_)
            exact absurd h31 ((by intro h; have := of_decide_eq_true h; omega))
            · try simp only [ZZ] at h31
              refine Jg (hK22 ?_); refine sR fun _ hK32 => ?_; refine Jb rfl (J2 rfl ?_); refine nK hK32 ?_; refine Jl rfl (fun h33 => ?_) (fun h33 => ?_)
              · try simp only [ZZ] at h33
                refine sR fun _ hK34 => ?_; refine Jb rfl (Jb rfl ?_); refine J2 rfl (Ke (by omega) (by omega) ?_)
                refine J2 rfl ?_; refine JA (show _ = Value.int .i64 (((QO l (i + 1)).length : Nat) : Int) from by rw [wrap_i64 (by omega) (by omega)]; congr 1 <;> omega) ?_; refine Jb rfl ?_; refine nK hK34 ?_; refine sR fun _ hK35 => ?_; refine Jb rfl (LR rfl (Jc rfl (Kg (k := 0) rfl) rfl rfl) ?_); refine Jb rfl (Jb rfl (LR rfl (Qx (kl := some (.i64, ((T : Nat) : Int))) (kh := some (.i64, (((QO l (i + 1)).length : Nat) : Int))) (m := T) (n := (QO l (i + 1)).length) rfl rfl rfl rfl rfl rfl (by omega) (by omega) (r := VP l i) hcut) ?_)); refine Jb rfl ?_; refine VV (XT := XI (i + 1)) (XF := XF) rfl rfl rfl rfl (hY i [Jq (VP l i), .int .i64 0] (i + 1) ⟨hil, rfl, rfl⟩) ?_ ?_
                all_goals (
                 refine J2 rfl (Jt (hK35 ?_)); refine Jl rfl (fun g => ?_) (fun g => ?_)
                 · try exact Bool.noConfusion g
                   all_goals try simp only [ZZ] at g
                   all_goals (
                    refine Jd (Jr (Ji ?_)); refine Ji (Jr (Ji ?_)); refine Jp rfl rfl .nil (fun w1 hs1 => ?_)
                    obtain ⟨xs1, hx1⟩ := hs1.now
                    exact ⟨⟨_, rfl⟩, hs1.keep, .inr ⟨_, hx1⟩⟩
                    skip)
                 · try exact Bool.noConfusion g
                   all_goals try simp only [ZZ] at g
                   all_goals (
                    refine Jg (Jo (hK16 ?_)); refine Je (Jb rfl ?_); refine J2 rfl (QQ (by omega) (by omega) (JA (show _ = uV (i + 1) from congrArg (Value.int .u64) (by omega)) ?_)); refine Jb rfl (Jt (JU ?_)); exact JN (i + 1) (by omega) (by omega) (lK rfl) (List.nil_sublist _) (fun _ _ h => h)
                    skip)
                 skip)
              exact absurd h33 ((by decide))
          exact absurd h21 ((by decide))
          skip)
       · try exact Bool.noConfusion g
         all_goals try simp only [ZZ] at g
         all_goals (
          refine JL (Jn ?_); refine Jn (J8 (hK9 ?_)); refine sQ fun _ hK37 => ?_; refine sQ fun _ hK38 => ?_
          have hiN : i = l.length := by omega
          have hend : (QO l i).length = (VO l).length := by rw [hiN]; rfl
          refine Je (Jb rfl ?_); refine J2 rfl (Jb rfl ?_); refine Jb rfl (LR rfl (Jc rfl (Kg (k := 0) rfl) rfl rfl) (LR rfl (JI rfl rfl) ?_)); refine J2 rfl (LR rfl (Jx rfl rfl) ?_); refine nK hK38 ?_; refine Jl rfl (fun h43 => ?_) (fun h43 => ?_)
          exact absurd h43 ((by intro h; have := of_decide_eq_true h; omega))
          try simp only [ZZ] at h43
          refine Jg (hK37 ?_); refine sR fun _ hK44 => ?_; refine Jb rfl (J2 rfl ?_); refine nK hK44 ?_; refine Jl rfl (fun h45 => ?_) (fun h45 => ?_)
          exact absurd h45 ((by decide))
          try simp only [ZZ] at h45
          refine Jg ?_; refine Qf rfl rfl .nil (fun w1 hs1 => ?_)
          obtain ⟨xs1, hx1⟩ := hs1.now
          exact ⟨⟨_, rfl⟩, hs1.keep, .inl ⟨i, _, (by show i = l.length; omega), hx1⟩⟩
          skip)
       skip)
theorem Jbd {l : List BS} {i : Nat} (h : i < l.length) : (l.take i).map Jq ++ [Jq (VP l i)] = (l.take (i + 1)).map Jq := vL (WL h).1
theorem xd {s : BS} (h : 0 < s.length) (h2 : (s.getD 0 0).toNat = 2) : Pure Tryz.prog 86 [Jq s].toArray (.tuple #[.int .i64 2, .int .i64 0]) := by
 refine JF Tryz.func86 rfl rfl fun w => ?_; refine sR fun _ hK1 => ?_; refine Jb rfl (Jb rfl ?_); refine nK hK1 ?_; refine sB fun _ hK2 => ?_; refine sR fun _ hK3 => ?_; refine Jb rfl (LR rfl (Q3 rfl rfl) (Jb rfl ?_)); refine nK hK3 ?_; refine Jl rfl (fun h4 => ?_) (fun h4 => ?_)
 exact absurd h4 ((by intro h0; rw [of_decide_eq_true h0] at h; exact absurd h (by decide)))
 ·try simp only [ZZ] at h4
  refine sR fun _ hK5 => ?_; refine Jb rfl ?_; refine LR rfl (Kp (j := 0) (n := 2) rfl rfl rfl rfl h (by rw [h2]; rfl)) ?_; refine J2 rfl (Jb rfl ?_); refine nK hK5 ?_; refine Jl rfl (fun h6 => ?_) (fun h6 => ?_)
  try simp only [ZZ] at h6
  refine sR fun _ hK7 => ?_; refine Jb rfl (Jb rfl ?_); refine nK hK7 ?_; refine Jd (Jr (Ji ?_)); refine Jp rfl rfl (.cons (Jk rfl) (.cons (Jk rfl) .nil)) (fun w1 hs1 => ?_); exact ⟨rfl, hs1.keep⟩
  ·exact absurd h6 ((by decide))
theorem Jm0 {l : List BS} (hw : WrapS l) (hlen : (VO l).length ≤ 1000000) :
  PureT (α := { row : QH // rowOk 1 l.length (l.map Jq) row }) Tryz.prog 25 [Jq (VO l)].toArray (fun y => .tuple #[.int .i64 2, JO l.length y.1, .int .i64 0]) [] (fun y => Kk 9 (l.map Jq) y.1) [] := by
 have hw1 := hw.pos
 have hw2 := hw.le
 have hw3 := hw.all
 refine J1 Tryz.func25 rfl rfl fun w => ?_; refine sR fun _ hK1 => ?_; refine LN rfl fun r2 => ?_; refine LN rfl fun r3 => ?_; refine LN rfl fun r4 => ?_; refine nK hK1 ?_; refine sR fun _ hK2 => ?_; refine Jb rfl ?_; refine JC rfl rfl rfl (enters_of Tryz.func86 (by kernel_rfl) rfl) (xd (s := VO l) (by unfold VO QO; simp) rfl) ?_; refine Jb rfl (LR rfl (Jf rfl rfl) (LR rfl (Jf rfl rfl) ?_)); refine Jb rfl (Jb rfl ?_); refine nK hK2 ?_; refine sQ fun _ hK3 => ?_; refine sR fun _ hK4 => ?_; refine Jb rfl (J2 rfl ?_); refine nK hK4 ?_; refine Jl rfl (fun h5 => ?_) (fun h5 => ?_)
 exact absurd h5 ((by decide))
 ·try simp only [ZZ] at h5
  refine Jg (hK3 ?_); refine sR fun _ hK6 => ?_; refine XR rfl rfl fun rm => ?_; refine Qz (q := 0) (key := .int .i64 0) (val := .func (.func 87) #[] #[]) (Ww (t := 3) (by kernel_rfl)) rfl rfl rfl rfl rfl rfl ⟨_, rfl⟩ (by intro e he; simp at he) rfl rfl ?_
  refine Qz (q := 0) (key := .int .i64 2) (val := .func (.func 88) #[] #[]) (Ww (t := 3) (by kernel_rfl)) rfl rfl rfl rfl rfl rfl ⟨_, rfl⟩ (by intro e he; simp at he; rcases he with rfl <;> exact ⟨_, rfl⟩) rfl rfl ?_; refine Jb rfl (Jb rfl ?_); refine nK hK6 ?_; refine sR fun _ hK7 => ?_; refine LN rfl fun r8 => ?_; refine nK hK7 ?_; refine sQ fun _ hK8 => ?_; refine sR fun _ hK9 => ?_; refine Jb rfl (Jb rfl ?_)
  refine LR rfl (Vb (v := .func (.func 88) #[] #[]) (Ww (t := 3) (by kernel_rfl)) rfl rfl (kn 1 rfl) rfl rfl ⟨_, rfl⟩ (by intro e he; simp at he; rcases he with rfl | rfl <;> exact ⟨_, rfl⟩) rfl) ?_; refine Jb rfl (Qh rfl rfl rfl (enters_of Tryz.func88 (by kernel_rfl) rfl) (Jha (VO l)) fun rs => ?_); refine nK hK9 ?_; refine J3 (ZU [1, 0, 2, 3, 4, 5] (by decide) rfl ?_); refine W9 (τ := Unit) (fun i (z : Nat × QH) => i = z.1 ∧ i ≤ l.length ∧ rowOk 1 i ((l.take i).map Jq) z.2) (fun z => (r8, .cells #[JO z.1 z.2] 37 (0, 0)) :: Kk 9 ((l.take z.1).map Jq) z.2) (fun _ _ => False) (fun _ => []) [(rs, _), (rm, _), (r4, _), (r3, _), (r2, _)] (0, none) rfl rfl (enters_of Tryz.func181 (by kernel_rfl) rfl) (Jhb hw hlen rs) (by rintro _ _ _ ⟨_, rfl, _⟩; rfl) rfl (fun q hq => Or.inl (by rw [List.mem_singleton.1 hq]; exact List.mem_cons_self)) rfl ⟨rfl, Nat.zero_le _, ⟨rfl, rfl⟩⟩ ?_ ?_ ?_
  rintro q Xr Xb w3 i _ _ ⟨_, row⟩ ⟨hii, rfl, rfl⟩ ⟨rfl, him, hrow⟩ Kr hKr
  simp only at hKr hrow ⊢; refine sR fun _ hK10 => ?_; refine Jb rfl ?_; refine nK hK10 ?_; refine Je (Jb rfl (Jt ?_)); refine hKr _ _ ?_; clear hKr; refine J3 (sQ fun _ hK11 => (sR fun _ hK12 => ?_)); refine Jb rfl (J2 rfl ?_); refine nK hK12 ?_; refine Jl rfl (fun h13 => ?_) (fun h13 => ?_)
  exact absurd h13 ((by decide))
  try simp only [ZZ] at h13
  refine Jg (hK11 ?_); refine Je (LR rfl (Jc rfl (kn 0 rfl) rfl rfl) (Jb rfl ?_)); refine JV (n := 1) (sz := 1) (vs := [_]) (zs := [_]) (r := [_]) rfl rfl rfl rfl rfl rfl rfl rfl rfl (by show (madeCells #[_] _).toList = _; rw [KA]; exact rfl) rfl fun rb => ?_; refine Kh (L0 := [_, _]) (xs := (l.take i).map Jq) (row := row) (n := i) (sz := 1) (b := 16) (news := [Jq (VP l i)]) (List.perm_append_comm (l₁ := [_, _])) rfl rfl rfl rfl (kn 0 rfl) rfl rfl rfl rfl rfl (by decide) rfl rfl rfl (by decide) hrow (by omega) (by omega) fun ra cap sp hra => ?_
  refine Ju (k := 2) rfl rfl rfl rfl rfl rfl rfl rfl (by first | (simp only [List.setIfInBounds_toArray, List.set_cons_zero, List.set_cons_succ]; exact rfl) | exact rfl) (by first | (simp only [List.set_cons_zero, List.set_cons_succ]; exact rfl) | exact rfl) ?_; refine Jt ?_; refine Jo (VW [2, 0] (L' := [_, _]) (by decide) rfl ?_); refine VZ (i + 1, some (ra, cap, sp)) ⟨rfl, by omega, by rw [Jbd hii] at hra; exact hra⟩ ?_; simp only [Kk, JO, Jbd hii]
  ·rintro D i ⟨_, row⟩ hfi ⟨rfl, him, hrow⟩
   simp only at hrow ⊢
   have hfi : i = l.length := hfi
   subst hfi; rw [List.take_length] at hrow ⊢; refine Wm (((List.perm_append_comm).cons _).cons _) ?_; change HQ _ _ _ ((D, _) :: (r8, _) :: (rs, _) :: (rm, _) :: (r4, _) :: (r3, _) :: (r2, _) :: Kk 9 (l.map Jq) row) _ _; refine Jo (hK8 ?_); refine sQ fun _ hK14 => ?_; refine sR fun _ hK15 => ?_; refine LR rfl (Jc (v := JO l.length row) rfl (kn 1 rfl) rfl rfl) ?_; refine JA (Ql hrow) ?_; refine J4 rfl rfl rfl (enters_of Tryz.func89 (by kernel_rfl) rfl) (Jg0 (R := Kk 9 (l.map Jq) row) (Qg hrow (by decide)) (by omega) (by omega)) (fun q hq => Or.inl (List.mem_cons_of_mem _ (List.mem_cons_of_mem _ (List.mem_cons_of_mem _ (List.mem_cons_of_mem _ (List.mem_cons_of_mem _ (List.mem_cons_of_mem _ (List.mem_cons_of_mem _ hq)))))))) ?_; refine J2 rfl ?_; refine nK hK15 ?_; refine Jl rfl (fun h16 => ?_) (fun h16 => ?_)
   exact absurd h16 ((by intro h; rw [decide_eq_true hw3] at h; exact absurd h (by decide)))
   ·try simp only [ZZ] at h16
    refine Jg (hK14 ?_); refine sQ fun _ hK17 => ?_; refine Km [(r8, .cells #[JO l.length row] 37 (0, 0))] [(0, .pure), (1, .pure), (2, .turn), (3, .turn), (4, .turn)] 5 [0, 1, 2, 3, 4] (by kernel_rfl) (by kernel_rfl) (fun p hp => by rw [List.mem_singleton.1 hp]; exact List.mem_cons_of_mem _ List.mem_cons_self) ?_; refine JH (k := 0) rfl rfl rfl rfl rfl (fun _ hS => (JG rfl)) ?_; refine JH (k := 1) rfl rfl rfl rfl rfl (fun _ hS => (Jc rfl (.inl (hS _ (Jw (n := 0) rfl))) rfl rfl)) ?_; refine WB (k := 2) (q := 6) (cs' := #[.int .i64 2]) rfl rfl rfl rfl rfl rfl rfl rfl rfl rfl rfl (fun p hp => by rw [List.mem_singleton.1 hp]; exact List.mem_cons_of_mem _ List.mem_cons_self) ?_
    refine WB (k := 3) (q := 5) (cs' := #[JO l.length row]) rfl rfl rfl rfl rfl rfl rfl (by cases row <;> rfl) rfl rfl rfl (fun p hp => by rw [List.mem_singleton.1 hp]; exact List.mem_cons_of_mem _ List.mem_cons_self) ?_; refine WB (k := 4) (q := 4) (cs' := #[.int .i64 0]) rfl rfl rfl rfl rfl rfl rfl rfl rfl rfl rfl (fun p hp => by rw [List.mem_singleton.1 hp]; exact List.mem_cons_of_mem _ List.mem_cons_self) ?_; refine Qc ?_; refine nK hK17 ?_; refine Jd (V8 (k := 0) rfl rfl ?_); refine Jp rfl rfl (.cons (KW rfl (kn 6 rfl) rfl rfl) (.cons (KW rfl (kn 5 rfl) rfl rfl) (.cons (KW rfl (kn 4 rfl) rfl rfl) .nil))) (fun w1 hs1 => ?_); exact ⟨⟨row, hrow⟩, rfl, hs1.weakL (.cons _ (.cons _ (.cons _ (.cons _ (.cons _ (.cons _ (.cons _ (List.Sublist.refl _))))))))⟩
  ·exact fun _ _ _ h => h.elim
def Jbe (k v : Int) : Int × Int × Bool :=
 if k = 1 then (if v = 4 then (5, 5, true) else (0, 5, (v == 0 || v == 1 || v == 2 || v == 126)))
 else if k = 2 then (if v = 2 then (2, 5, true) else (v, v, (v == 0 || v == 1)))
 else if k = 3 then (IntKind.i64.wrap (3 * v), 5, (v == 0 || v == 1))
 else if k = 4 then (IntKind.i64.wrap (2 * v), 5, (v == 0 || v == 2))
 else if k = 5 then (IntKind.i64.wrap (5 * v), IntKind.i64.wrap (4 + v), (v == 0 || v == 1))
 else (0, 0, false)
def KQ (a b : Int) : Value := .agg [.int .i64 a, .int .i64 b].toArray
def xf (v : Value) : Prop := ∃ a b, v = KQ a b
def xg : Value → List Int
 | .agg cs => cs.toList.map fun | .int _ n => n | _ => 0
 | _ => []
def V6 (x y : Value) : Bool := decide (xg x = xg y)
theorem qK (a b c d : Int) : V6 (KQ a b) (KQ c d) = (a == c && b == d) := by
 unfold V6 KQ xg
 by_cases h1 : a = c <;> by_cases h2 : b = d <;> simp [h1, h2]
theorem Jhc : KeyL Tryz.prog 308 xf V6 where
 now := ⟨_, rfl, fun a b ⟨a1, a2, ha⟩ ⟨b1, b2, hb⟩ => by subst ha hb; exact .inl rfl⟩
 equal := by
  rintro _ _ w ⟨a, b, rfl⟩ ⟨c, d, rfl⟩; rw [qK]
  show (Op.equalIn (9999 + 1) _ (.agg _) (.agg _)).run _ _ = _
  rw [run_equalIn_struct w 9999 _ _ _ (by kernel_rfl) (by kernel_rfl)]
  simp [go_sem]
  by_cases h1 : a = c <;> by_cases h2 : b = d <;> simp [h1, h2]
 check := by
  rintro _ b w ⟨x, y, rfl⟩; exact Yk (by kernel_rfl) (by simp) b 9998 w
def tableKV : List (Value × Value) :=
 [(KQ 1 0, KQ 0 5), (KQ 1 1, KQ 0 5), (KQ 1 2, KQ 0 5), (KQ 1 126, KQ 0 5), (KQ 1 4, KQ 5 5), (KQ 2 0, KQ 0 0), (KQ 2 1, KQ 1 1), (KQ 2 2, KQ 2 5),
  (KQ 3 0, KQ 0 5), (KQ 3 1, KQ 3 5), (KQ 4 0, KQ 0 5), (KQ 4 2, KQ 4 5), (KQ 5 0, KQ 0 4), (KQ 5 1, KQ 5 5)]
def Jpp : Type := { p : Nat × Array MapEntry // (p.2.toList.map WQ).Perm tableKV ∧ p.2.toList.map (·.born) = List.range p.2.size }
theorem jW : PureE (α := Jpp) Tryz.prog 217 [].toArray (fun x => .map (some x.1.1)) (fun x => [(x.1.1, .map x.1.2 x.1.2.size)]) := by
 refine KZ Tryz.func217 rfl rfl fun w => ?_; refine sR fun _ hK1 => ?_; refine Jb rfl ?_; refine nK hK1 ?_; refine sQ fun _ hK2 => ?_; refine Jbt (t := 305) 1 [(1, 2, .agg [.int .i64 1, .int .i64 0].toArray), (2, 3, .agg [.int .i64 0, .int .i64 5].toArray), (4, 4, .agg [.int .i64 1, .int .i64 1].toArray), (5, 5, .agg [.int .i64 0, .int .i64 5].toArray), (7, 6, .agg [.int .i64 1, .int .i64 2].toArray), (8, 7, .agg [.int .i64 0, .int .i64 5].toArray), (10, 8, .agg [.int .i64 1, .int .i64 126].toArray), (11, 9, .agg [.int .i64 0, .int .i64 5].toArray), (13, 10, .agg [.int .i64 1, .int .i64 4].toArray), (14, 11, .agg [.int .i64 5, .int .i64 5].toArray), (16, 12, .agg [.int .i64 2, .int .i64 0].toArray), (17, 13, .agg [.int .i64 0, .int .i64 0].toArray), (19, 14, .agg [.int .i64 2, .int .i64 1].toArray), (20, 15, .agg [.int .i64 1, .int .i64 1].toArray), (22, 16, .agg [.int .i64 2, .int .i64 2].toArray), (23, 17, .agg [.int .i64 2, .int .i64 5].toArray), (25, 18, .agg [.int .i64 3, .int .i64 0].toArray), (26, 19, .agg [.int .i64 0, .int .i64 5].toArray), (28, 20, .agg [.int .i64 3, .int .i64 1].toArray), (29, 21, .agg [.int .i64 3, .int .i64 5].toArray), (31, 22, .agg [.int .i64 4, .int .i64 0].toArray), (32, 23, .agg [.int .i64 0, .int .i64 5].toArray), (34, 24, .agg [.int .i64 4, .int .i64 2].toArray), (35, 25, .agg [.int .i64 4, .int .i64 5].toArray), (37, 26, .agg [.int .i64 5, .int .i64 0].toArray), (38, 27, .agg [.int .i64 0, .int .i64 4].toArray), (40, 28, .agg [.int .i64 5, .int .i64 1].toArray), (41, 29, .agg [.int .i64 5, .int .i64 5].toArray)] [(3, .agg [.int .i64 1, .int .i64 0].toArray, .agg [.int .i64 0, .int .i64 5].toArray), (6, .agg [.int .i64 1, .int .i64 1].toArray, .agg [.int .i64 0, .int .i64 5].toArray), (9, .agg [.int .i64 1, .int .i64 2].toArray, .agg [.int .i64 0, .int .i64 5].toArray), (12, .agg [.int .i64 1, .int .i64 126].toArray, .agg [.int .i64 0, .int .i64 5].toArray), (15, .agg [.int .i64 1, .int .i64 4].toArray, .agg [.int .i64 5, .int .i64 5].toArray), (18, .agg [.int .i64 2, .int .i64 0].toArray, .agg [.int .i64 0, .int .i64 0].toArray), (21, .agg [.int .i64 2, .int .i64 1].toArray, .agg [.int .i64 1, .int .i64 1].toArray), (24, .agg [.int .i64 2, .int .i64 2].toArray, .agg [.int .i64 2, .int .i64 5].toArray), (27, .agg [.int .i64 3, .int .i64 0].toArray, .agg [.int .i64 0, .int .i64 5].toArray), (30, .agg [.int .i64 3, .int .i64 1].toArray, .agg [.int .i64 3, .int .i64 5].toArray), (33, .agg [.int .i64 4, .int .i64 0].toArray, .agg [.int .i64 0, .int .i64 5].toArray), (36, .agg [.int .i64 4, .int .i64 2].toArray, .agg [.int .i64 4, .int .i64 5].toArray), (39, .agg [.int .i64 5, .int .i64 0].toArray, .agg [.int .i64 0, .int .i64 4].toArray), (42, .agg [.int .i64 5, .int .i64 1].toArray, .agg [.int .i64 5, .int .i64 5].toArray)] [(43, 30), (44, 0)] [] Jhc rfl (by kernel_rfl) ?hops (by kernel_rfl) rfl (by decide) rfl (fun i v h => by cases h) (by decide) rfl (by simp only [List.forall_mem_cons]; exact ⟨⟨_, _, rfl⟩, ⟨_, _, rfl⟩, ⟨_, _, rfl⟩, ⟨_, _, rfl⟩, ⟨_, _, rfl⟩, ⟨_, _, rfl⟩, ⟨_, _, rfl⟩, ⟨_, _, rfl⟩, ⟨_, _, rfl⟩, ⟨_, _, rfl⟩, ⟨_, _, rfl⟩, ⟨_, _, rfl⟩, ⟨_, _, rfl⟩, ⟨_, _, rfl⟩, by simp⟩) (by decide) ?_
 case hops =>
  intro i o h
  match i, h with
  | 0, h => cases Option.some.inj h; exact MLit.mk
  | 1, h => cases Option.some.inj h; exact MLit.pure (s := 2) (v := .agg [.int .i64 1, .int .i64 0].toArray) (Jw (n := 0) rfl) rfl rfl rfl (J7 (r := [_, _]) rfl rfl)
  | 2, h => cases Option.some.inj h; exact MLit.pure (s := 3) (v := .agg [.int .i64 0, .int .i64 5].toArray) (Jw (n := 1) rfl) rfl rfl rfl (J7 (r := [_, _]) rfl rfl)
  | 3, h => cases Option.some.inj h; exact MLit.ins (j1 := 1) (j2 := 2) (k := .agg [.int .i64 1, .int .i64 0].toArray) (v := .agg [.int .i64 0, .int .i64 5].toArray) (Jw (n := 0) rfl) (Jw (n := 0) rfl) (Jw (n := 1) rfl) rfl rfl rfl
  | 4, h => cases Option.some.inj h; exact MLit.pure (s := 4) (v := .agg [.int .i64 1, .int .i64 1].toArray) (Jw (n := 2) rfl) rfl rfl rfl (J7 (r := [_, _]) rfl rfl)
  | 5, h => cases Option.some.inj h; exact MLit.pure (s := 5) (v := .agg [.int .i64 0, .int .i64 5].toArray) (Jw (n := 3) rfl) rfl rfl rfl (J7 (r := [_, _]) rfl rfl)
  | 6, h => cases Option.some.inj h; exact MLit.ins (j1 := 4) (j2 := 5) (k := .agg [.int .i64 1, .int .i64 1].toArray) (v := .agg [.int .i64 0, .int .i64 5].toArray) (Jw (n := 1) rfl) (Jw (n := 2) rfl) (Jw (n := 3) rfl) rfl rfl rfl
  | 7, h => cases Option.some.inj h; exact MLit.pure (s := 6) (v := .agg [.int .i64 1, .int .i64 2].toArray) (Jw (n := 4) rfl) rfl rfl rfl (J7 (r := [_, _]) rfl rfl)
  | 8, h => cases Option.some.inj h; exact MLit.pure (s := 7) (v := .agg [.int .i64 0, .int .i64 5].toArray) (Jw (n := 5) rfl) rfl rfl rfl (J7 (r := [_, _]) rfl rfl)
  | 9, h => cases Option.some.inj h; exact MLit.ins (j1 := 7) (j2 := 8) (k := .agg [.int .i64 1, .int .i64 2].toArray) (v := .agg [.int .i64 0, .int .i64 5].toArray) (Jw (n := 2) rfl) (Jw (n := 4) rfl) (Jw (n := 5) rfl) rfl rfl rfl
  | 10, h => cases Option.some.inj h; exact MLit.pure (s := 8) (v := .agg [.int .i64 1, .int .i64 126].toArray) (Jw (n := 6) rfl) rfl rfl rfl (J7 (r := [_, _]) rfl rfl)
  | 11, h => cases Option.some.inj h; exact MLit.pure (s := 9) (v := .agg [.int .i64 0, .int .i64 5].toArray) (Jw (n := 7) rfl) rfl rfl rfl (J7 (r := [_, _]) rfl rfl)
  | 12, h => cases Option.some.inj h; exact MLit.ins (j1 := 10) (j2 := 11) (k := .agg [.int .i64 1, .int .i64 126].toArray) (v := .agg [.int .i64 0, .int .i64 5].toArray) (Jw (n := 3) rfl) (Jw (n := 6) rfl) (Jw (n := 7) rfl) rfl rfl rfl
  | 13, h => cases Option.some.inj h; exact MLit.pure (s := 10) (v := .agg [.int .i64 1, .int .i64 4].toArray) (Jw (n := 8) rfl) rfl rfl rfl (J7 (r := [_, _]) rfl rfl)
  | 14, h => cases Option.some.inj h; exact MLit.pure (s := 11) (v := .agg [.int .i64 5, .int .i64 5].toArray) (Jw (n := 9) rfl) rfl rfl rfl (J7 (r := [_, _]) rfl rfl)
  | 15, h => cases Option.some.inj h; exact MLit.ins (j1 := 13) (j2 := 14) (k := .agg [.int .i64 1, .int .i64 4].toArray) (v := .agg [.int .i64 5, .int .i64 5].toArray) (Jw (n := 4) rfl) (Jw (n := 8) rfl) (Jw (n := 9) rfl) rfl rfl rfl
  | 16, h => cases Option.some.inj h; exact MLit.pure (s := 12) (v := .agg [.int .i64 2, .int .i64 0].toArray) (Jw (n := 10) rfl) rfl rfl rfl (J7 (r := [_, _]) rfl rfl)
  | 17, h => cases Option.some.inj h; exact MLit.pure (s := 13) (v := .agg [.int .i64 0, .int .i64 0].toArray) (Jw (n := 11) rfl) rfl rfl rfl (J7 (r := [_, _]) rfl rfl)
  | 18, h => cases Option.some.inj h; exact MLit.ins (j1 := 16) (j2 := 17) (k := .agg [.int .i64 2, .int .i64 0].toArray) (v := .agg [.int .i64 0, .int .i64 0].toArray) (Jw (n := 5) rfl) (Jw (n := 10) rfl) (Jw (n := 11) rfl) rfl rfl rfl
  | 19, h => cases Option.some.inj h; exact MLit.pure (s := 14) (v := .agg [.int .i64 2, .int .i64 1].toArray) (Jw (n := 12) rfl) rfl rfl rfl (J7 (r := [_, _]) rfl rfl)
  | 20, h => cases Option.some.inj h; exact MLit.pure (s := 15) (v := .agg [.int .i64 1, .int .i64 1].toArray) (Jw (n := 13) rfl) rfl rfl rfl (J7 (r := [_, _]) rfl rfl)
  | 21, h => cases Option.some.inj h; exact MLit.ins (j1 := 19) (j2 := 20) (k := .agg [.int .i64 2, .int .i64 1].toArray) (v := .agg [.int .i64 1, .int .i64 1].toArray) (Jw (n := 6) rfl) (Jw (n := 12) rfl) (Jw (n := 13) rfl) rfl rfl rfl
  | 22, h => cases Option.some.inj h; exact MLit.pure (s := 16) (v := .agg [.int .i64 2, .int .i64 2].toArray) (Jw (n := 14) rfl) rfl rfl rfl (J7 (r := [_, _]) rfl rfl)
  | 23, h => cases Option.some.inj h; exact MLit.pure (s := 17) (v := .agg [.int .i64 2, .int .i64 5].toArray) (Jw (n := 15) rfl) rfl rfl rfl (J7 (r := [_, _]) rfl rfl)
  | 24, h => cases Option.some.inj h; exact MLit.ins (j1 := 22) (j2 := 23) (k := .agg [.int .i64 2, .int .i64 2].toArray) (v := .agg [.int .i64 2, .int .i64 5].toArray) (Jw (n := 7) rfl) (Jw (n := 14) rfl) (Jw (n := 15) rfl) rfl rfl rfl
  | 25, h => cases Option.some.inj h; exact MLit.pure (s := 18) (v := .agg [.int .i64 3, .int .i64 0].toArray) (Jw (n := 16) rfl) rfl rfl rfl (J7 (r := [_, _]) rfl rfl)
  | 26, h => cases Option.some.inj h; exact MLit.pure (s := 19) (v := .agg [.int .i64 0, .int .i64 5].toArray) (Jw (n := 17) rfl) rfl rfl rfl (J7 (r := [_, _]) rfl rfl)
  | 27, h => cases Option.some.inj h; exact MLit.ins (j1 := 25) (j2 := 26) (k := .agg [.int .i64 3, .int .i64 0].toArray) (v := .agg [.int .i64 0, .int .i64 5].toArray) (Jw (n := 8) rfl) (Jw (n := 16) rfl) (Jw (n := 17) rfl) rfl rfl rfl
  | 28, h => cases Option.some.inj h; exact MLit.pure (s := 20) (v := .agg [.int .i64 3, .int .i64 1].toArray) (Jw (n := 18) rfl) rfl rfl rfl (J7 (r := [_, _]) rfl rfl)
  | 29, h => cases Option.some.inj h; exact MLit.pure (s := 21) (v := .agg [.int .i64 3, .int .i64 5].toArray) (Jw (n := 19) rfl) rfl rfl rfl (J7 (r := [_, _]) rfl rfl)
  | 30, h => cases Option.some.inj h; exact MLit.ins (j1 := 28) (j2 := 29) (k := .agg [.int .i64 3, .int .i64 1].toArray) (v := .agg [.int .i64 3, .int .i64 5].toArray) (Jw (n := 9) rfl) (Jw (n := 18) rfl) (Jw (n := 19) rfl) rfl rfl rfl
  | 31, h => cases Option.some.inj h; exact MLit.pure (s := 22) (v := .agg [.int .i64 4, .int .i64 0].toArray) (Jw (n := 20) rfl) rfl rfl rfl (J7 (r := [_, _]) rfl rfl)
  | 32, h => cases Option.some.inj h; exact MLit.pure (s := 23) (v := .agg [.int .i64 0, .int .i64 5].toArray) (Jw (n := 21) rfl) rfl rfl rfl (J7 (r := [_, _]) rfl rfl)
  | 33, h => cases Option.some.inj h; exact MLit.ins (j1 := 31) (j2 := 32) (k := .agg [.int .i64 4, .int .i64 0].toArray) (v := .agg [.int .i64 0, .int .i64 5].toArray) (Jw (n := 10) rfl) (Jw (n := 20) rfl) (Jw (n := 21) rfl) rfl rfl rfl
  | 34, h => cases Option.some.inj h; exact MLit.pure (s := 24) (v := .agg [.int .i64 4, .int .i64 2].toArray) (Jw (n := 22) rfl) rfl rfl rfl (J7 (r := [_, _]) rfl rfl)
  | 35, h => cases Option.some.inj h; exact MLit.pure (s := 25) (v := .agg [.int .i64 4, .int .i64 5].toArray) (Jw (n := 23) rfl) rfl rfl rfl (J7 (r := [_, _]) rfl rfl)
  | 36, h => cases Option.some.inj h; exact MLit.ins (j1 := 34) (j2 := 35) (k := .agg [.int .i64 4, .int .i64 2].toArray) (v := .agg [.int .i64 4, .int .i64 5].toArray) (Jw (n := 11) rfl) (Jw (n := 22) rfl) (Jw (n := 23) rfl) rfl rfl rfl
  | 37, h => cases Option.some.inj h; exact MLit.pure (s := 26) (v := .agg [.int .i64 5, .int .i64 0].toArray) (Jw (n := 24) rfl) rfl rfl rfl (J7 (r := [_, _]) rfl rfl)
  | 38, h => cases Option.some.inj h; exact MLit.pure (s := 27) (v := .agg [.int .i64 0, .int .i64 4].toArray) (Jw (n := 25) rfl) rfl rfl rfl (J7 (r := [_, _]) rfl rfl)
  | 39, h => cases Option.some.inj h; exact MLit.ins (j1 := 37) (j2 := 38) (k := .agg [.int .i64 5, .int .i64 0].toArray) (v := .agg [.int .i64 0, .int .i64 4].toArray) (Jw (n := 12) rfl) (Jw (n := 24) rfl) (Jw (n := 25) rfl) rfl rfl rfl
  | 40, h => cases Option.some.inj h; exact MLit.pure (s := 28) (v := .agg [.int .i64 5, .int .i64 1].toArray) (Jw (n := 26) rfl) rfl rfl rfl (J7 (r := [_, _]) rfl rfl)
  | 41, h => cases Option.some.inj h; exact MLit.pure (s := 29) (v := .agg [.int .i64 5, .int .i64 5].toArray) (Jw (n := 27) rfl) rfl rfl rfl (J7 (r := [_, _]) rfl rfl)
  | 42, h => cases Option.some.inj h; exact MLit.ins (j1 := 40) (j2 := 41) (k := .agg [.int .i64 5, .int .i64 1].toArray) (v := .agg [.int .i64 5, .int .i64 5].toArray) (Jw (n := 13) rfl) (Jw (n := 26) rfl) (Jw (n := 27) rfl) rfl rfl rfl
  | 43, h => cases Option.some.inj h; exact MLit.mv (s := 30) (x := 1) (Jw (n := 0) rfl) rfl rfl (Or.inl rfl) rfl (Or.inl rfl)
  | 44, h => cases Option.some.inj h; exact MLit.mv (s := 0) (x := 30) (Jw (n := 1) rfl) rfl rfl (Or.inr rfl) rfl (Or.inr ⟨43, Jw (n := 0) rfl, rfl⟩)
  | n + 45, h => simp at h
 intro mr mes hmes hborn; refine hK2 ?_; refine Jd ?_; refine pT rfl rfl rfl fun w1 hs1 => ?_; exact ⟨⟨(mr, mes), hmes, hborn⟩, rfl, hs1⟩
def vP (k v : Int) : Bool := (Jbe k v).2.2
def loI (k v : Int) : Int := if vP k v then (Jbe k v).1 else 0
def hiI (k v : Int) : Int := if vP k v then (Jbe k v).2.1 else 0
theorem vQ {x y z : Value} (h1 : V6 x y = true) (h2 : V6 x z = true) : V6 y z = true := by
 unfold V6 at *
 simp only [decide_eq_true_eq] at *; rw [← h1, h2]
theorem table_dist : tableKV.Pairwise fun p q => V6 p.1 q.1 = false := by decide
theorem xh : ∀ p ∈ tableKV, xf p.1 := by
 unfold tableKV
 simp only [List.forall_mem_cons]; exact ⟨⟨_, _, rfl⟩, ⟨_, _, rfl⟩, ⟨_, _, rfl⟩, ⟨_, _, rfl⟩, ⟨_, _, rfl⟩, ⟨_, _, rfl⟩, ⟨_, _, rfl⟩, ⟨_, _, rfl⟩, ⟨_, _, rfl⟩, ⟨_, _, rfl⟩, ⟨_, _, rfl⟩, ⟨_, _, rfl⟩, ⟨_, _, rfl⟩, ⟨_, _, rfl⟩, by simp⟩
theorem xi (k v : Int) : Qp V6 (KQ k v) tableKV = if vP k v then some (KQ (loI k v) (hiI k v)) else none := by
 simp only [tableKV, Qp, qK, loI, hiI, vP, Jbe]
 by_cases h1 : k = 1
 ·subst h1; by_cases a0 : v = 0 <;> by_cases a1 : v = 1 <;> by_cases a2 : v = 2 <;> by_cases a3 : v = 126 <;> by_cases a4 : v = 4 <;> simp_all
 ·by_cases h2 : k = 2
  ·subst h2; by_cases a0 : v = 0 <;> by_cases a1 : v = 1 <;> by_cases a2 : v = 2 <;> simp_all
  ·by_cases h3 : k = 3
   ·subst h3; by_cases a0 : v = 0 <;> by_cases a1 : v = 1 <;> simp_all <;> rfl
   ·by_cases h4 : k = 4
    ·subst h4; by_cases a0 : v = 0 <;> by_cases a1 : v = 2 <;> simp_all <;> rfl
    ·by_cases h5 : k = 5
     ·subst h5; by_cases a0 : v = 0 <;> by_cases a1 : v = 1 <;> simp_all <;> rfl
     ·simp_all
theorem Jcz {kv : List (Value × Value)} (hp : kv.Perm tableKV) (k v : Int) : Qp V6 (KQ k v) kv = if vP k v then some (KQ (loI k v) (hiI k v)) else none := by
 rw [← xi, wd hp.symm]; refine table_dist.imp fun {p q} h ⟨h1, h2⟩ => ?_; rw [vQ h1 h2] at h; cases h
theorem Jc0 {kv : List (Value × Value)} (hp : kv.Perm tableKV) (k v : Int) :
  (if true = true then Value.tuple #[((Qp V6 (KQ k v) kv).getD (KQ 0 0)), .bool (Qp V6 (KQ k v) kv).isSome] else (Qp V6 (KQ k v) kv).getD (KQ 0 0)) =
   .tuple #[.agg [.int .i64 (loI k v), .int .i64 (hiI k v)].toArray, .bool (vP k v)] := by
 rw [Jcz hp, if_pos rfl]
 cases h : vP k v <;> simp [loI, hiI, KQ, h]
theorem Jc1 {mes : Array MapEntry} (hp : (mes.toList.map WQ).Perm tableKV) : ∀ e ∈ mes.toList, xf e.key := fun e he =>
 xh (WQ e) (hp.subset (List.mem_map_of_mem he))
theorem jX (f k v : Int) : Pure Tryz.prog 139 [.int .i64 f, .int .i64 k, .int .i64 v].toArray (.bool (vP k v && decide (f ≥ loI k v) && decide (f ≤ hiI k v))) := by
 refine JF Tryz.func139 rfl rfl fun w => ?_; refine sR fun K1 hK1 => ?_; refine Jb rfl ?_; refine nK hK1 ?_; clear hK1 K1; refine sR fun K2 hK2 => ?_; refine Qh rfl rfl rfl (enters_of Tryz.func217 (by kernel_rfl) rfl) jW fun x1 => ?_
 obtain ⟨⟨mr, mes⟩, hmes, hborn⟩ := x1
 change HL _ _ _ [(mr, .map mes mes.size)] _ _ _ _; refine Jb rfl (Jb rfl (LR rfl (J7 (r := [_, _]) rfl rfl) ?_)); refine LR rfl (Vb Jhc rfl rfl (kn 0 rfl) rfl rfl ⟨_, _, rfl⟩ (Jc1 hmes) (Jc0 hmes k v)) ?_; refine Jb rfl (LR rfl (Jf rfl rfl) (LR rfl (Jf rfl rfl) ?_)); refine LN rfl fun r1 => ?_
 refine Jv (k := 0) (n := 2) (cs' := #[_, _]) (vs := #[_, _]) rfl rfl rfl rfl rfl rfl rfl (by exact Nat.le_of_ble_eq_true rfl) rfl (by first | (simp only [List.set_cons_zero, List.set_cons_succ]; exact rfl) | exact rfl) ?_; refine Jb rfl ?_; refine nK hK2 ?_; clear hK2 K2; refine sR fun K3 hK3 => ?_; refine Jb rfl (Jb rfl ?_)
 refine JM 18 rfl (fun gb => ?_) (fun gb => ?_) <;> (try simp only [ZZ] at gb) <;> first | (refine Jb rfl ?_) | (refine LK rfl ?_)
 all_goals first | (refine LR rfl (Ja rfl rfl (by first | (simp only [Nat.zero_add, Nat.reduceAdd, Nat.reduceMul, Nat.zero_mul, Nat.mul_one, Nat.add_zero]; exact rfl) | exact rfl)) ?_) | refine LK rfl ?_
 all_goals first | refine LR rfl (Jc rfl (kn 0 rfl) rfl rfl) ?_ | refine LK rfl ?_
 all_goals first | refine J2 rfl ?_ | refine LK rfl ?_
 all_goals first | refine LR rfl (Jx rfl rfl) ?_ | refine LR rfl (J5 rfl rfl) ?_
 all_goals refine Jb rfl ?_
 all_goals first | refine LK rfl ?_ | (refine JM 24 rfl (fun gb => ?_) (fun gb => ?_) <;> (try simp only [ZZ] at gb) <;> first | (refine Jb rfl ?_) | (refine LK rfl ?_))
 all_goals first | (refine LR rfl (Ja rfl rfl (by first | (simp only [Nat.zero_add, Nat.reduceAdd, Nat.reduceMul, Nat.zero_mul, Nat.mul_one, Nat.add_zero]; exact rfl) | exact rfl)) ?_) | refine LK rfl ?_
 all_goals first | refine LR rfl (Jc rfl (kn 0 rfl) rfl rfl) ?_ | refine LK rfl ?_
 all_goals first | refine J2 rfl ?_ | refine LK rfl ?_
 all_goals first | refine LR rfl (Jx rfl rfl) ?_ | refine LR rfl (J5 rfl rfl) ?_
 all_goals (
  refine Jb rfl (Jt (hK3 ?_)); clear hK3 K3; refine Jd ?_; refine pT rfl rfl rfl fun w1 hs1 => ?_; exact ⟨by (try simp_all [Q2]); try omega, hs1.keep⟩
  skip)
def YD : List Nat → Bool
 | x :: y :: l => decide (x ≤ y) && YD (y :: l)
 | _ => true
theorem Jbf : ∀ {l : List Nat} {i x y : Nat}, l[i]? = some x → l[i + 1]? = some y → y < x → YD l = false
 | [], i, x, y, h, _, _ => by simp at h
 | [a], i, x, y, _, h, _ => by simp at h
 | a :: b :: l, 0, x, y, h1, h2, h => by
  simp only [List.getElem?_cons_zero, List.getElem?_cons_succ, Nat.zero_add, Option.some.injEq] at h1 h2; subst h1 h2
  unfold YD
  rw [decide_eq_false (by omega)]; rfl
 | a :: b :: l, i + 1, x, y, h1, h2, h => by
  rw [List.getElem?_cons_succ] at h1 h2
  unfold YD
  rw [Jbf h1 h2 h, Bool.and_false]
theorem yO : ∀ {l : List Nat}, (∀ i x y, l[i]? = some x → l[i + 1]? = some y → x ≤ y) → YD l = true
 | [], _ => rfl
 | [a], _ => rfl
 | a :: b :: l, h => by
  unfold YD
  rw [decide_eq_true (h 0 a b rfl rfl), yO fun i x y h1 h2 => h (i + 1) x y (by rw [List.getElem?_cons_succ]; exact h1) (by rw [List.getElem?_cons_succ]; exact h2)]; rfl
theorem vR : ∀ {l : List Nat}, YD l = true → ∀ {i j x y : Nat}, i ≤ j → l[i]? = some x → l[j]? = some y → x ≤ y
 | [], _, i, j, x, y, _, h, _ => by simp at h
 | [a], _, i, j, x, y, hij, h1, h2 => by
  cases i with
  | zero => cases j with
   | zero => rw [h1] at h2; cases h2; exact Nat.le_refl _
   | succ j => simp at h2
  | succ i => simp at h1
 | a :: b :: l, h, i, j, x, y, hij, h1, h2 => by
  unfold YD at h
  obtain ⟨ha, hr⟩ := Bool.and_eq_true_iff.1 h
  have ha := of_decide_eq_true ha
  cases j with
  | zero =>
   obtain rfl : i = 0 := by omega
   rw [h1] at h2; cases h2; exact Nat.le_refl _
  | succ j =>
   rw [List.getElem?_cons_succ] at h2
   cases i with
   | zero =>
    simp only [List.getElem?_cons_zero, Option.some.injEq] at h1; subst h1; exact Nat.le_trans ha (vR hr (Nat.zero_le _) (i := 0) rfl h2)
   | succ i => rw [List.getElem?_cons_succ] at h1; exact vR hr (by omega) h1 h2
def YE (t : Nat) : List Nat → Nat
 | x :: l => if x ≤ t then YE t l + 1 else 0
 | [] => 0
theorem vS (t : Nat) : ∀ l : List Nat, YE t l ≤ l.length
 | [] => Nat.le_refl _
 | x :: l => by
  have := vS t l
  unfold YE
  split <;> simp only [List.length_cons] <;> omega
theorem Jbg {t : Nat} : ∀ {l : List Nat} {i x : Nat}, i < YE t l → l[i]? = some x → x ≤ t
 | [], i, x, h, _ => by unfold YE at h; omega
 | a :: l, i, x, h, hx => by
  unfold YE at h
  split at h
  ·cases i with
   | zero => simp only [List.getElem?_cons_zero, Option.some.injEq] at hx; subst hx; assumption
   | succ i => rw [List.getElem?_cons_succ] at hx; exact Jbg (by omega) hx
  ·omega
theorem Jbh {t : Nat} : ∀ {l : List Nat} {x : Nat}, l[YE t l]? = some x → t < x
 | [], x, h => by simp at h
 | a :: l, x, h => by
  unfold YE at h
  split at h
  ·rw [List.getElem?_cons_succ] at h; exact Jbh h
  ·simp only [List.getElem?_cons_zero, Option.some.injEq] at h; subst h; omega
theorem Jhd {t : Nat} {l : List Nat} (hr : YD l = true) {i x : Nat} (hx : l[i]? = some x) : decide (t < x) = decide (YE t l ≤ i) := by
 by_cases h : YE t l ≤ i
 ·have hl := (List.getElem?_eq_some_iff.1 hx).1
  obtain ⟨y, hy⟩ : ∃ y, l[YE t l]? = some y := ⟨_, List.getElem?_eq_getElem (by omega)⟩
  have h1 := Jbh hy
  have h2 := vR hr h hy hx
  rw [decide_eq_true h, decide_eq_true (by omega)]
 ·have := Jbg (t := t) (l := l) (i := i) (by omega) hx
  rw [decide_eq_false h, decide_eq_false (by omega)]
def xj (ts : List Nat) : Int := if ts.length < 1 ∨ ts.length > 6 then 2 else if YD ts = false then 11 else 0
def Jc2 (ts : List Nat) (t : Nat) : Int × Int := if xj ts ≠ 0 then (0, xj ts) else if YE t ts = 0 then (0, 10) else ((YE t ts : Int) - 1, 0)
def Jm3 (n : Nat) (p : Pl) : Value := .agg #[Ky n p]
abbrev unC (ts : List Nat) : List Value := ts.map uV
theorem vT {ts : List Nat} {i x : Nat} (h : ts[i]? = some x) : (unC ts)[i]? = some (uV x) := by rw [List.getElem?_map, h]; rfl
theorem Jm5 {ts : List Nat} {i : Nat} (h : i < ts.length) : ∃ x, ts[i]? = some x ∧ x ∈ ts := ⟨ts[i], List.getElem?_eq_getElem h, List.getElem_mem h⟩
theorem Jhe (a : Nat) : Pure Tryz.prog 246 [uV a].toArray (.bool false) := by
 refine JF Tryz.func246 rfl rfl fun w => ?_; refine sR fun _ hK1 => ?_; refine Jb rfl ?_; refine nK hK1 ?_; refine sR fun _ hK2 => ?_; refine Jb rfl (Jb rfl ?_); refine J2 rfl (Jb rfl ?_); refine nK hK2 ?_; refine Jd ?_; refine pT rfl rfl rfl fun w1 hs1 => ?_; refine ⟨?_, hs1.keep⟩
 simp [Q2]
theorem Jj6 (a b : Nat) : Pure Tryz.prog 216 [uV a, uV b].toArray (.bool (decide (a < b))) := by
 refine JF Tryz.func216 rfl rfl fun w => ?_; refine sR fun K1 hK1 => ?_; refine Jb rfl ?_; refine nK hK1 ?_; clear hK1 K1; refine sR fun K2 hK2 => ?_; refine Jb rfl (JC rfl rfl rfl (enters_of Tryz.func246 (by kernel_rfl) rfl) (Jhe _) ?_); refine Jb rfl (ZE rfl rfl rfl (LK rfl ?_)); refine LK rfl ?_; refine LR rfl (J5 rfl rfl) ?_; refine Jb rfl (Jb rfl ?_); refine Jb rfl (J2 rfl (LR rfl (J5 rfl rfl) ?_)); refine Jb rfl ?_; refine nK hK2 ?_; clear hK2 K2; refine Jd ?_; refine pT rfl rfl rfl fun w1 hs1 => ?_; refine ⟨?_, hs1.keep⟩
 simp_all [Q2]
theorem xk {R : Jy} {ts : List Nat} {p : Pl} (hl : ts.length ≤ 9223372036854775807) (h1 : 1 ≤ ts.length) (hs : Seg R ts.length (unC ts) p) : PureR Tryz.prog 134 [Ky ts.length p].toArray (.bool (YD ts)) R := by
 refine Jz Tryz.func134 rfl rfl fun w => ?_; refine sR fun K1 hK1 => ?_; refine Jb rfl ?_; refine nK hK1 ?_; clear hK1 K1; refine sQ fun K2 hK2 => ?_; refine sR fun K3 hK3 => ?_; refine Jb rfl (LR rfl (JJ rfl hs rfl) ?_); refine J2 rfl (Ke (by omega) (by omega) ?_); refine JA (show _ = Value.int .i64 ((ts.length - 1 : Nat) : Int) from by rw [Int.ofNat_sub h1]; rfl) ?_; refine Jb rfl ?_; refine nK hK3 ?_; clear hK3 K3; refine J3 ?_; refine JS (σ := Nat) (fun j => j < ts.length ∧ ∀ i x y, j ≤ i → ts[i]? = some x → ts[i + 1]? = some y → x ≤ y) (fun j => [(0, Ky ts.length p), (3, .int .i64 (j : Int))]) (fun _ => []) (fun _ _ _ => True) (fun j => j) (ts.length - 1) ⟨by omega, fun i x y hi _ hy => absurd (List.getElem?_eq_some_iff.1 hy).1 (by omega)⟩ (lK rfl) (List.nil_sublist _) (fun _ _ h => h) ?_; rintro j ⟨hj1, hinv⟩; refine sQ fun K4 hK4 => ?_; refine sR fun K5 hK5 => ?_; refine Jb rfl (J2 rfl ?_); refine nK hK5 ?_; clear hK5 K5; refine cD (fun g => ?_) fun g => ?_
 refine Jg (hK4 ?_); clear hK4 K4; refine sB fun K7 hK7 => ?_; refine sQ fun K8 hK8 => ?_
 obtain ⟨i, rfl⟩ : ∃ i, j = i + 1 := ⟨j - 1, by omega⟩
 obtain ⟨x, hx, hmx⟩ := Jm5 (show i < ts.length by omega)
 obtain ⟨y, hy, hmy⟩ := Jm5 (show i + 1 < ts.length by omega)
 refine Qs 10 (by kernel_rfl) (by kernel_rfl) ?_; refine JD rfl rfl rfl (JG rfl) ?_; refine JD rfl rfl rfl (JG rfl) ?_
 refine JD rfl rfl rfl (JB (j := (i + 1)) rfl hs rfl rfl rfl (by first | rfl | omega) (by omega)) ?_; refine JD rfl rfl rfl (Qy oR rfl hs (by omega) rfl (vT hy)) ?_; refine JD rfl rfl rfl (JG rfl) ?_; refine JD rfl rfl rfl (JG rfl) ?_; refine JD rfl rfl rfl (KC rfl rfl rfl) ?_; refine VB (by omega) (by omega) ?_
 refine JD rfl rfl rfl (JB (j := i) rfl hs rfl rfl rfl (by first | rfl | omega) (by omega)) ?_; refine JD rfl rfl rfl (Qy oR rfl hs (by omega) rfl (vT hx)) ?_; refine VT rfl rfl rfl (enters_of Tryz.func216 (by kernel_rfl) rfl) (Jj6 _ _) ?_; refine Q8 ?_; refine nK hK8 ?_; clear hK8 K8; refine cD (fun g => ?_) fun g => ?_
 refine sR fun K10 hK10 => ?_; refine Jb rfl ?_; refine nK hK10 ?_; clear hK10 K10; refine Jd (Jr (Ji ?_)); clear hK7 K7; refine Ji (Jr (Ji ?_)); clear hK2 K2; refine pT rfl rfl rfl fun w1 hs1 => ?_; refine ⟨?_, hs1.keep⟩; rw [Jbf hx hy (by simp_all)]; rfl
 refine Jg (Jo (hK7 ?_)); clear hK7 K7; refine Je (Jb rfl ?_); refine J2 rfl (Ke (by omega) (by omega) ?_); refine JA (show _ = Value.int .i64 (i : Int) from by congr 1; omega) ?_; refine Jb rfl (Jt (JU ?_))
 exact JN i ⟨by omega, fun q u v hq hu hv => by
  rcases Nat.eq_or_lt_of_le hq with rfl | hq
  rw [hx] at hu; rw [hy] at hv; cases hu; cases hv; simp_all
  exact hinv q u v (by omega) hu hv⟩ (by omega) (lK rfl) (List.nil_sublist _) (fun _ _ h => h)
 ·refine JL (Jn ?_); clear hK4 K4; refine Jn (J8 (hK2 ?_)); clear hK2 K2; refine sR fun K11 hK11 => ?_; refine Jb rfl ?_; refine nK hK11 ?_; clear hK11 K11; refine Jd ?_; refine pT rfl rfl rfl fun w1 hs1 => ?_; refine ⟨?_, hs1.keep⟩; rw [yO fun i x y hx hy => hinv i x y (by omega) hx hy]; rfl
theorem Jc3 {R : Jy} {ts : List Nat} {p : Pl} (hl : ts.length ≤ 9223372036854775807) (hs : Seg R ts.length (unC ts) p) : PureR Tryz.prog 59 [Jm3 ts.length p].toArray (.int .i64 (xj ts)) R := by
  have hE : xj ts = if decide ((ts.length : Int) < 1) = true ∨ (ts.length : Int) > 6 then 2 else if YD ts = false then 11 else 0 := by
    unfold xj
    exact ite_congr (propext (by rw [decide_eq_true_eq]; omega)) (fun _ => rfl) (fun _ => rfl)
  refine Jz Tryz.func59 rfl rfl fun w => ?_; refine sR fun K1 hK1 => ?_; refine LN rfl fun r1 => ?_; refine Jb rfl ?_; refine nK hK1 ?_; clear hK1 K1; refine sB fun K2 hK2 => ?_; refine sR fun K3 hK3 => ?_
  refine LR rfl (Ja rfl rfl (by first | (simp only [Nat.zero_add, Nat.reduceAdd, Nat.reduceMul, Nat.zero_mul, Nat.mul_one, Nat.add_zero]; exact rfl) | exact rfl)) ?_; refine LR rfl (Jc rfl (kn 0 rfl) rfl rfl) ?_; refine LR rfl (JJ rfl hs rfl) ?_; refine J2 rfl (Jb rfl ?_)
  refine JM 8 rfl (fun gb => ?_) (fun gb => ?_) <;> (try simp only [ZZ] at gb) <;> first | (refine LR rfl (Ja rfl rfl (by first | (simp only [Nat.zero_add, Nat.reduceAdd, Nat.reduceMul, Nat.zero_mul, Nat.mul_one, Nat.add_zero]; exact rfl) | exact rfl)) ?_) | (refine LK rfl ?_)
  all_goals first | refine LR rfl (Jc rfl (kn 0 rfl) rfl rfl) ?_ | refine LK rfl ?_
  all_goals first | refine LR rfl (JJ rfl hs rfl) ?_ | refine LK rfl ?_
  all_goals first | refine J2 rfl ?_ | refine LK rfl ?_
  all_goals first | refine LR rfl (Jx rfl rfl) ?_ | refine LR rfl (J5 rfl rfl) ?_
  all_goals (
   refine Jb rfl (Jt (hK3 ?_)); clear hK3 K3; refine Jl rfl (fun g => ?_) (fun g => ?_)
   try simp only [ZZ] at g
   refine sR fun K9 hK9 => ?_; refine Jb rfl ?_; refine nK hK9 ?_; clear hK9 K9; refine Jd (Jr (Ji ?_)); clear hK2 K2; refine pT rfl rfl rfl fun w1 hs1 => ?_; refine ⟨?_, hs1.keep⟩; rw [hE]; simp only [Q2]
   simp_all
   · try exact Bool.noConfusion g
     all_goals try simp only [ZZ] at g
     all_goals (
      refine sR fun K10 hK10 => ?_
      refine LR rfl (Ja rfl rfl (by first | (simp only [Nat.zero_add, Nat.reduceAdd, Nat.reduceMul, Nat.zero_mul, Nat.mul_one, Nat.add_zero]; exact rfl) | exact rfl)) ?_; refine LR rfl (Jc rfl (kn 0 rfl) rfl rfl) ?_; refine J4 rfl rfl rfl (enters_of Tryz.func134 (by kernel_rfl) rfl) (xk hl (by omega) hs) oR ?_; refine J2 rfl (Jb rfl ?_); refine nK hK10 ?_; clear hK10 K10; refine cD (fun g => ?_) fun g => ?_
      refine sR fun K12 hK12 => ?_; refine Jb rfl ?_; refine nK hK12 ?_; clear hK12 K12; refine Jd (Jr (Ji ?_)); clear hK2 K2; refine pT rfl rfl rfl fun w1 hs1 => ?_; refine ⟨?_, hs1.keep⟩; rw [hE]; simp only [Q2]
      simp_all
      refine Jg (Jo (hK2 ?_)); clear hK2 K2; refine sR fun K13 hK13 => ?_; refine Jb rfl ?_; refine nK hK13 ?_; clear hK13 K13; refine Jd ?_; refine pT rfl rfl rfl fun w1 hs1 => ?_; refine ⟨?_, hs1.keep⟩; rw [hE]; simp only [Q2]
      simp_all
      skip)
   skip)
theorem Jhf {R : Jy} {n k : Nat} (hn : n ≤ 1000) (hk : k ≤ n) {g : FuncId} {caps : List Value} (eg : Enters Tryz.prog g) (hg : ∀ i, i < n → PureR Tryz.prog g (.int .i64 (i : Int) :: caps).toArray (.bool (decide (k ≤ i))) R) :
  PureR Tryz.prog 60 [.int .i64 (n : Int), .func (.func g) #[] caps.toArray].toArray (.int .i64 (k : Int)) R := by
 refine Jz Tryz.func60 rfl rfl fun w => ?_; refine sR fun _ hK1 => ?_; refine Jb rfl ?_; refine nK hK1 ?_; refine sR fun _ hK2 => ?_; refine Jb rfl (Jb rfl (Jb rfl ?_)); refine nK hK2 ?_; refine sB fun _ hK3 => ?_; refine JS (σ := Nat × Nat) (fun s => s.1 ≤ k ∧ k ≤ s.2 ∧ s.2 ≤ n) (fun s => [(1, .func (.func g) #[] caps.toArray), (5, .int .i64 (s.1 : Int)), (6, .int .i64 (s.2 : Int))]) (fun _ => []) (fun _ _ _ => True) (fun s => s.2 - s.1) (0, n) ⟨Nat.zero_le _, hk, Nat.le_refl _⟩ (lK rfl) (List.nil_sublist _) (fun _ _ h => h) ?_; rintro ⟨i, j⟩ ⟨hi0, hj0, hj1⟩; simp only at hi0 hj0 hj1; change HC _ _ [(1, _), (5, .int .i64 (i : Int)), (6, .int .i64 (j : Int))] _ _ _ _; refine sQ fun _ hK4 => ?_; refine sR fun _ hK5 => ?_; refine Jb rfl (Jb rfl (J2 rfl ?_)); refine nK hK5 ?_; refine cD (fun h6 => ?_) fun h6 => ?_
 refine Jg (hK4 ?_); refine J3 (sR fun _ hK7 => ?_); refine Jb rfl (Jb rfl ?_); refine J2 rfl (Ke (by omega) (by omega) ?_); refine J2 rfl (QQ (by omega) (by omega) (JA (show _ = Value.int .u64 ((i + j : Nat) : Int) from by rw [Int.natCast_add]) ?_)); refine LR rfl (xB (n := 1) (b := (((i + j) / 2 : Nat) : Int)) rfl rfl rfl (by decide) (by omega) (by omega)) ?_; refine J2 rfl (Ke (by omega) (by omega) (Jb rfl ?_)); refine nK hK7 ?_; refine sR fun _ hK8 => ?_; refine Jb rfl (Jb rfl (J4 rfl rfl rfl eg (hg ((i + j) / 2) (by omega)) oR ?_)); refine J2 rfl ?_; refine nK hK8 ?_; refine cD (fun h9 => ?_) fun h9 => ?_
 refine Je (Jb rfl ?_); refine J2 rfl (Ke (by omega) (by omega) ?_); refine Jb rfl (Jt ?_); refine Jo (JU ?_); exact JN ((i + j) / 2 + 1, j) ⟨by simp only; simp at *; omega, hj0, hj1⟩ (by simp only; omega) (lK rfl) (List.nil_sublist _) (fun _ _ h => h)
 refine Je (Jb rfl ?_); refine Jb rfl (Jt ?_); refine Jo (JU ?_); exact JN (i, (i + j) / 2) ⟨hi0, by simp only; simp at *; omega, by simp only; omega⟩ (by simp only; omega) (lK rfl) (List.nil_sublist _) (fun _ _ h => h)
 ·refine JL (Jn ?_); refine Jn (J8 (hK3 ?_)); refine sR fun _ hK10 => ?_; refine Jb rfl (Jb rfl ?_); refine nK hK10 ?_; refine Jd ?_; refine pT rfl rfl rfl fun w1 hs1 => ?_; refine ⟨?_, hs1.keep⟩; rw [show i = k by omega]; rfl
theorem Jm6 {R : Jy} {ts : List Nat} {p : Pl} (hs : Seg R ts.length (unC ts) p) {rs rt es et : Nat} {t : Nat} (h1 : (rs, Obj.cells #[Ky ts.length p] es (0, 0)) ∈ R) (h2 : (rt, Obj.cells #[uV t] et (0, 0)) ∈ R) (hr : YD ts = true) {i : Nat} (hi : i < ts.length) :
  PureR Tryz.prog 61 [.int .i64 (i : Int), .pointer (some ⟨rs, 0, none⟩), .pointer (some ⟨rt, 0, none⟩)].toArray (.bool (decide (YE t ts ≤ i))) R := by
 obtain ⟨x, hx, hmx⟩ := Jm5 hi
 refine Jz Tryz.func61 rfl rfl fun w => ?_; refine sR fun _ hK1 => ?_; refine Jb rfl ?_; refine nK hK1 ?_; refine sQ fun _ hK2 => ?_; refine Qs 8 (by kernel_rfl) (by kernel_rfl) ?_
 refine JD rfl rfl rfl (Ja rfl rfl (by first | (simp only [Nat.zero_add, Nat.reduceAdd, Nat.reduceMul, Nat.zero_mul, Nat.mul_one, Nat.add_zero]; exact rfl) | exact rfl)) ?_; refine JD rfl rfl rfl (Jc rfl (Or.inr h1) rfl rfl) ?_; refine JD rfl rfl rfl (JG rfl) ?_
 refine JD rfl rfl rfl (JB (j := i) rfl hs rfl rfl rfl (by first | rfl | omega) (by omega)) ?_; refine JD rfl rfl rfl (Qy oR rfl hs (by omega) rfl (vT hx)) ?_; refine JD rfl rfl rfl (Jc rfl (Or.inr h2) rfl rfl) ?_; refine JD rfl rfl rfl (KC rfl rfl rfl) ?_; refine JD rfl rfl rfl (JY rfl) ?_; refine Q8 ?_; refine nK hK2 ?_; refine Jd ?_; refine pT rfl rfl rfl fun w1 hs1 => ?_; refine ⟨?_, hs1.keep⟩; rw [← Jhd hr hx]
 simp [Q2]
theorem Jhg {R : Jy} {ts : List Nat} {p : Pl} (hl : ts.length ≤ 9223372036854775807) (hs : Seg R ts.length (unC ts) p) (t : Nat) : PureR Tryz.prog 15 [Jm3 ts.length p, uV t].toArray (.tuple #[.int .i64 (Jc2 ts t).1, .int .i64 (Jc2 ts t).2]) R := by
 refine Jz Tryz.func15 rfl rfl fun w => ?_; refine sR fun K1 hK1 => ?_; refine LN rfl fun r1 => ?_; refine LN rfl fun r2 => ?_; refine Jb rfl (Jb rfl ?_); refine nK hK1 ?_; clear hK1 K1; refine sQ fun K2 hK2 => ?_; refine sR fun K3 hK3 => ?_; refine LR rfl (JT (vs := [_]) rfl (kn 1 rfl) rfl rfl rfl rfl) ?_; refine J4 rfl rfl rfl (enters_of Tryz.func59 (by kernel_rfl) rfl) (Jc3 hl hs) oR ?_; refine Jb rfl ?_; refine nK hK3 ?_; clear hK3 K3; refine sR fun K4 hK4 => ?_; refine Jb rfl (J2 rfl ?_); refine nK hK4 ?_; clear hK4 K4; refine cD (fun g => ?_) fun g => ?_
 refine sR fun K6 hK6 => ?_; refine Jb rfl (Jb rfl (Jb rfl ?_)); refine nK hK6 ?_; clear hK6 K6; refine Jd (Ji ?_); clear hK2 K2; refine Jp rfl rfl (.cons (Jk rfl) (.cons (Jk rfl) .nil)) (fun w1 hs1 => ?_); refine ⟨?_, hs1.keep⟩; simp only [Q2, Jc2]
 simp_all
 ·refine Jg (hK2 ?_); clear hK2 K2; refine sQ fun K7 hK7 => ?_
  have hz : xj ts = 0 := by assumption
  have h6 : 1 ≤ ts.length ∧ ts.length ≤ 6 ∧ YD ts = true := by
   unfold xj at hz
   split at hz
   cases hz
   split at hz
   cases hz
   refine ⟨by omega, by omega, ?_⟩; simp_all
  refine Je ?_
  refine LR rfl (Ja rfl rfl (by first | (simp only [Nat.zero_add, Nat.reduceAdd, Nat.reduceMul, Nat.zero_mul, Nat.mul_one, Nat.add_zero]; exact rfl) | exact rfl)) ?_; refine LR rfl (Jc rfl (kn 1 rfl) rfl rfl) ?_; refine LR rfl (JJ rfl hs rfl) ?_; refine LR rfl (JQ rfl rfl) ?_; refine J4 (Rl := (r1, Obj.cells #[Ky ts.length p] 59 (0, 0)) :: (r2, Obj.cells #[uV t] 22 (0, 0)) :: R) rfl rfl rfl (enters_of Tryz.func60 (by kernel_rfl) rfl) (Jhf (caps := [.pointer (some ⟨r1, 0, none⟩), .pointer (some ⟨r2, 0, none⟩)]) (by omega) (vS t ts) (enters_of Tryz.func61 (by kernel_rfl) rfl) (fun i hi => Jm6 (hs.mono fun q hq => List.mem_cons_of_mem _ (List.mem_cons_of_mem _ hq)) List.mem_cons_self (List.mem_cons_of_mem _ List.mem_cons_self) h6.2.2 hi)) (fun q hq => (List.mem_cons.1 hq).elim (fun h => Or.inl (by rw [h]; simp)) fun hq => (List.mem_cons.1 hq).elim (fun h => Or.inl (by rw [h]; simp)) Or.inr) ?_; refine Jb rfl ?_; refine nK hK7 ?_; clear hK7 K7; refine sQ fun K8 hK8 => ?_; refine sR fun K9 hK9 => ?_; refine Jb rfl (J2 rfl ?_); refine nK hK9 ?_; clear hK9 K9; refine cD (fun g => ?_) fun g => ?_
  refine sR fun K11 hK11 => ?_; refine Jb rfl (Jb rfl ?_); refine nK hK11 ?_; clear hK11 K11; refine Jd (Ji ?_); clear hK8 K8; refine Jp rfl rfl (.cons (Jk rfl) (.cons (Jk rfl) .nil)) (fun w1 hs1 => ?_); refine ⟨?_, hs1.keep⟩; simp only [Q2, Jc2]
  simp_all
  ·refine Jg (hK8 ?_); clear hK8 K8; refine sQ fun K12 hK12 => ?_
   have hc6 := vS t ts
   refine Je (Jb rfl ?_); refine J2 rfl (Ke (by omega) (by omega) ?_); refine Jb rfl (Jb rfl ?_); refine nK hK12 ?_; clear hK12 K12; refine Jd ?_; refine Jp rfl rfl (.cons (Jk rfl) (.cons (Jk rfl) .nil)) (fun w1 hs1 => ?_); refine ⟨?_, hs1.keep⟩; simp only [Q2, Jc2]
   simp_all
def yS (ch : Nat) : Value := .agg #[uV ch]
def Jhh (ch r : Nat) : Nat × Obj := (r, .map #[⟨.int .i64 1, .agg #[.func (.func 135) #[] #[], .func (.func 136) #[] #[], .func (.func 137) #[yS ch] #[], .func (.func 138) #[] #[]], 0⟩, ⟨.int .i64 2, .agg #[.func (.func 140) #[] #[], .func (.func 141) #[] #[], .func (.func 143) #[yS ch] #[], .func (.func 144) #[] #[]], 1⟩, ⟨.int .i64 3, .agg #[.func (.func 146) #[] #[], .func (.func 147) #[yS ch] #[], .func (.func 148) #[yS ch] #[], .func (.func 149) #[] #[]], 2⟩, ⟨.int .i64 4, .agg #[.func (.func 150) #[] #[], .func (.func 151) #[] #[], .func (.func 152) #[yS ch] #[], .func (.func 149) #[] #[]], 3⟩, ⟨.int .i64 5, .agg #[.func (.func 153) #[] #[], .func (.func 154) #[] #[], .func (.func 156) #[yS ch] #[], .func (.func 149) #[] #[]], 4⟩] 5)
def Jbi (ch : Nat) : List Value := [.func (.func 146) #[] #[], .func (.func 147) #[yS ch] #[], .func (.func 148) #[yS ch] #[], .func (.func 149) #[] #[]]
theorem Jbj (ch : Nat) : PureE (α := Nat) Tryz.prog 62 [yS ch].toArray (fun r => .map (some r)) (fun r => [Jhh ch r]) := by
 refine KZ Tryz.func62 rfl rfl fun w => ?_; refine sR fun _ hK1 => ?_; refine JX (cs := List.toArray ([uV ch])) rfl rfl rfl rfl fun r1 => ?_; refine Jb rfl ?_; refine nK hK1 ?_; refine sR fun _ hK2 => ?_; refine XR rfl rfl fun rm => ?_; refine LR rfl (JT (vs := [_]) rfl (kn 1 rfl) rfl rfl rfl rfl) ?_; refine LR rfl (JQ rfl rfl) ?_; refine LR rfl (J7 (r := [_, _, _, _]) rfl rfl) ?_; refine Qz (q := 0) (key := .int .i64 1) (val := .agg #[.func (.func 135) #[] #[], .func (.func 136) #[] #[], .func (.func 137) #[yS ch] #[], .func (.func 138) #[] #[]]) (Ww (t := 3) (by kernel_rfl)) rfl rfl rfl rfl rfl rfl ⟨_, rfl⟩ (by intro e he; simp at he) rfl rfl ?_; refine LR rfl (JT (vs := [_]) rfl (kn 1 rfl) rfl rfl rfl rfl) ?_; refine LR rfl (JQ rfl rfl) ?_; refine LR rfl (J7 (r := [_, _, _, _]) rfl rfl) ?_
 refine Qz (q := 0) (key := .int .i64 2) (val := .agg #[.func (.func 140) #[] #[], .func (.func 141) #[] #[], .func (.func 143) #[yS ch] #[], .func (.func 144) #[] #[]]) (Ww (t := 3) (by kernel_rfl)) rfl rfl rfl rfl rfl rfl ⟨_, rfl⟩ (by intro e he; simp at he; rcases he with rfl <;> exact ⟨_, rfl⟩) rfl rfl ?_; refine LR rfl (JT (vs := [_]) rfl (kn 1 rfl) rfl rfl rfl rfl) ?_; refine LR rfl (JQ rfl rfl) ?_; refine LR rfl (JT (vs := [_]) rfl (kn 1 rfl) rfl rfl rfl rfl) ?_; refine LR rfl (JQ rfl rfl) ?_; refine LR rfl (J7 (r := [_, _, _, _]) rfl rfl) ?_
 refine Qz (q := 0) (key := .int .i64 3) (val := .agg #[.func (.func 146) #[] #[], .func (.func 147) #[yS ch] #[], .func (.func 148) #[yS ch] #[], .func (.func 149) #[] #[]]) (Ww (t := 3) (by kernel_rfl)) rfl rfl rfl rfl rfl rfl ⟨_, rfl⟩ (by intro e he; simp at he; rcases he with rfl | rfl <;> exact ⟨_, rfl⟩) rfl rfl ?_; refine LR rfl (JT (vs := [_]) rfl (kn 1 rfl) rfl rfl rfl rfl) ?_; refine LR rfl (JQ rfl rfl) ?_; refine LR rfl (J7 (r := [_, _, _, _]) rfl rfl) ?_
 refine Qz (q := 0) (key := .int .i64 4) (val := .agg #[.func (.func 150) #[] #[], .func (.func 151) #[] #[], .func (.func 152) #[yS ch] #[], .func (.func 149) #[] #[]]) (Ww (t := 3) (by kernel_rfl)) rfl rfl rfl rfl rfl rfl ⟨_, rfl⟩ (by intro e he; simp at he; rcases he with rfl | rfl | rfl <;> exact ⟨_, rfl⟩) rfl rfl ?_; refine LR rfl (JT (vs := [_]) rfl (kn 1 rfl) rfl rfl rfl rfl) ?_; refine LR rfl (JQ rfl rfl) ?_; refine LR rfl (J7 (r := [_, _, _, _]) rfl rfl) ?_
 refine Qz (q := 0) (key := .int .i64 5) (val := .agg #[.func (.func 153) #[] #[], .func (.func 154) #[] #[], .func (.func 156) #[yS ch] #[], .func (.func 149) #[] #[]]) (Ww (t := 3) (by kernel_rfl)) rfl rfl rfl rfl rfl rfl ⟨_, rfl⟩ (by intro e he; simp at he; rcases he with rfl | rfl | rfl | rfl <;> exact ⟨_, rfl⟩) rfl rfl ?_; refine Jb rfl (Jb rfl ?_); refine nK hK2 ?_; refine Jd ?_; refine pT rfl rfl rfl fun w1 hs1 => ?_; exact ⟨rm, rfl, hs1.weakL (.cons_cons _ (List.nil_sublist _))⟩
def Wi (b : BaL) : List Value := [.int .i64 3, .int .i64 0, .int .i64 0, .int .u64 0, .int .u64 0, .int .u64 0, .int .u64 0, .int .u64 0, .int .u64 0, .int .u64 0, .int .u64 0, .int .u64 0, .int .u64 0, .int .u64 0, .string ⟨#[]⟩, .int .u64 0, .int .u64 0, .int .u64 0, .int .u64 0, .string ⟨#[]⟩, .slice none 0 0, .slice none 0 0, .int .u64 0, .int .u64 0, .int .u64 0, .int .u64 0, .int .u64 0, .int .u64 0, .int .u64 0, .int .u64 0, .int .u64 0, .string ⟨#[]⟩, .string ⟨#[]⟩, .int .u64 0, .int .u64 0, .int .u64 0, .int .u64 0, .bool false, .int .i64 0, .bool false, .int .u64 0, .slice none 0 0, .bool false, .int .u64 0, .int .u64 0, Jq b.parent, uV b.epoch, Jq b.hash, uV b.time, Ky b.txs.length b.p, .int .u64 0, .int .u64 0, .string ⟨#[]⟩, .string ⟨#[]⟩, .slice none 0 0, .slice none 0 0, .string ⟨#[]⟩, .string ⟨#[]⟩, .string ⟨#[]⟩, .int .u64 0]
def msgZ : List Value := [.int .i64 0, .int .i64 0, .int .i64 0, .int .u64 0, .int .u64 0, .int .u64 0, .int .u64 0, .int .u64 0, .int .u64 0, .int .u64 0, .int .u64 0, .int .u64 0, .int .u64 0, .int .u64 0, .string ⟨#[]⟩, .int .u64 0, .int .u64 0, .int .u64 0, .int .u64 0, .string ⟨#[]⟩, .slice none 0 0, .slice none 0 0, .int .u64 0, .int .u64 0, .int .u64 0, .int .u64 0, .int .u64 0, .int .u64 0, .int .u64 0, .int .u64 0, .int .u64 0, .string ⟨#[]⟩, .string ⟨#[]⟩, .int .u64 0, .int .u64 0, .int .u64 0, .int .u64 0, .bool false, .int .i64 0, .bool false, .int .u64 0, .slice none 0 0, .bool false, .int .u64 0, .int .u64 0, .string ⟨#[]⟩, .int .u64 0, .string ⟨#[]⟩, .int .u64 0, .slice none 0 0, .int .u64 0, .int .u64 0, .string ⟨#[]⟩, .string ⟨#[]⟩, .slice none 0 0, .slice none 0 0, .string ⟨#[]⟩, .string ⟨#[]⟩, .string ⟨#[]⟩, .int .u64 0]
def Jon : List Value := .int .i64 3 :: msgZ.tail
theorem xm {ch : Nat} {s : BS} {b : BaE} (hl : s.length ≤ 1000000000) (h0 : 0 < s.length) (hz : (s.getD 0 0).toNat = 0) (hg : W3 s = (b, 0)) : PureT (α := BaR b) Tryz.prog 148 [yS ch, Jq s].toArray (fun y => .tuple #[.agg (Wi y.b).toArray, .int .i64 0]) [] (fun y => y.L) [] := by
 have hG := Jgl hl
 rw [hg] at hG; refine J1 Tryz.func148 rfl rfl fun w => ?_; refine sR fun _ hK1 => ?_; refine JX (cs := List.toArray ([uV ch])) rfl rfl rfl rfl fun r2 => ?_; refine LN rfl fun r4 => ?_; refine Jb rfl ?_; refine nK hK1 ?_; refine sR fun _ hK2 => ?_; refine LR rfl (J7 (r := Jon) rfl (by kernel_rfl)) ?_; refine LN rfl fun r6 => ?_; refine Js (k := 0) (n := 60) (ys := Jon) rfl rfl rfl rfl rfl rfl rfl rfl rfl ?_; refine Jb rfl ?_; refine nK hK2 ?_; refine sB fun _ hK3 => ?_; refine sR fun _ hK4 => ?_; refine Jb rfl (LR rfl (Q3 rfl rfl) (Jb rfl ?_)); refine nK hK4 ?_; refine Jl rfl (fun h5 => ?_) (fun h5 => ?_)
 exact absurd h5 ((by intro h; rw [of_decide_eq_true h] at h0; exact absurd h0 (by decide)))
 ·try simp only [ZZ] at h5
  refine sR fun _ hK6 => ?_; refine Jb rfl ?_; refine LR rfl (Kp (j := 0) (n := 0) rfl rfl rfl rfl h0 (by rw [hz]; rfl)) ?_; refine J2 rfl (Jb rfl ?_); refine nK hK6 ?_; refine Jl rfl (fun h7 => ?_) (fun h7 => ?_)
  try simp only [ZZ] at h7
  refine Je (Jb rfl (Ka rfl rfl rfl (enters_of Tryz.func11 (by kernel_rfl) rfl) hG oN fun y => ?_)); refine Kv List.perm_append_comm ?_; change HL _ _ _ ((r6, _) :: (r4, _) :: (r2, _) :: y.L) _ _ _ _; refine Jb rfl (LR rfl (Jf rfl rfl) (LR rfl (Jf rfl rfl) ?_))
  refine LR rfl (Ja rfl rfl (by first | (simp only [Nat.zero_add, Nat.reduceAdd, Nat.reduceMul, Nat.zero_mul, Nat.mul_one, Nat.add_zero]; exact rfl) | exact rfl)) ?_; refine Jv (k := 0) (n := 5) (cs' := List.toArray (Wi y.b)) (vs := #[_, _, _, _, _]) rfl rfl rfl rfl rfl rfl rfl (by exact Nat.le_of_ble_eq_true rfl) (by kernel_rfl) rfl ?_; refine Jb rfl (Jt ?_); refine Jo (hK3 ?_); refine sR fun _ hK8 => ?_; refine LR rfl (Jm (xs := Wi y.b) (n := 60) rfl (kn 0 rfl) rfl rfl rfl) ?_; refine Jb rfl (Js (k := 1) (n := 60) (ys := Wi y.b) rfl rfl rfl rfl rfl rfl rfl rfl rfl (Jb rfl ?_)); refine nK hK8 ?_; refine Jd ?_; refine Jp rfl rfl (.cons (J0 (vs := Wi y.b) rfl (kn 1 rfl) rfl rfl) (.cons (Jk rfl) .nil)) (fun w1 hs1 => ?_); exact ⟨y, rfl, hs1.weakL (.cons _ (.cons _ (.cons _ (List.Sublist.refl _))))⟩
  ·exact absurd h7 ((by decide))
theorem Jj7 {ch : Nat} {s : BS} {b : BaE} (hl : s.length ≤ 1000000000) (h0 : 0 < s.length) (hz : (s.getD 0 0).toNat = 0) (hg : W3 s = (b, 0)) : PureT (α := BaR b) Tryz.prog 58 [.int .i64 3, Jq s, uV ch].toArray (fun y => .tuple #[.agg (Wi y.b).toArray, .int .i64 0]) [] (fun y => y.L) [] := by
 refine J1 Tryz.func58 rfl rfl fun w => ?_; refine sR fun _ hK1 => ?_; refine LN rfl fun r6 => ?_; refine Jb rfl ?_; refine nK hK1 ?_; refine sR fun _ hK2 => ?_; refine Jb rfl (LR rfl (J7 (r := [_]) rfl rfl) (Qh rfl rfl rfl (enters_of Tryz.func62 (by kernel_rfl) rfl) (Jbj ch) fun rm => ?_)); refine Jb rfl ?_
 refine LR rfl (Vb (v := .tuple #[.agg (Jbi ch).toArray, .bool true]) (Ww (t := 3) (by kernel_rfl)) rfl rfl (kn 0 rfl) rfl rfl ⟨_, rfl⟩ (by intro e he; simp at he; rcases he with rfl | rfl | rfl | rfl | rfl <;> exact ⟨_, rfl⟩) rfl) ?_; refine Jb rfl (LR rfl (Jf rfl rfl) (LR rfl (Jf rfl rfl) ?_)); refine LN rfl fun r8 => ?_; refine Js (k := 0) (n := 4) (ys := Jbi ch) rfl rfl rfl rfl rfl rfl rfl rfl rfl ?_; refine Jb rfl ?_; refine nK hK2 ?_; refine sQ fun _ hK3 => ?_; refine sR fun _ hK4 => ?_; refine Jb rfl (J2 rfl ?_); refine nK hK4 ?_; refine Jl rfl (fun h5 => ?_) (fun h5 => ?_)
 exact absurd h5 ((by decide))
 ·try simp only [ZZ] at h5
  refine Jg (hK3 ?_); refine sR fun _ hK6 => ?_
  refine LR rfl (Ja rfl rfl (by first | (simp only [Nat.zero_add, Nat.reduceAdd, Nat.reduceMul, Nat.zero_mul, Nat.mul_one, Nat.add_zero]; exact rfl) | exact rfl)) ?_; refine LR rfl (Jc rfl (kn 0 rfl) rfl rfl) ?_; refine Jb rfl (qG (T := []) (L0 := [_, _, _]) (Rl := []) (List.Perm.refl _) rfl rfl rfl (enters_of Tryz.func148 (by kernel_rfl) rfl) (xm (ch := ch) hl h0 hz hg) oN fun y => (Kv List.perm_append_comm ?_)); change HL _ _ _ ((r8, _) :: (rm, _) :: (r6, _) :: y.L) _ _ _ _; refine Jb rfl (LR rfl (Jf rfl rfl) (LR rfl (Jf rfl rfl) ?_)); refine LN rfl fun r10 => ?_; refine Js (k := 0) (n := 60) (ys := Wi y.b) rfl rfl rfl rfl rfl rfl rfl rfl rfl ?_; refine Jb rfl ?_; refine nK hK6 ?_; refine sQ fun _ hK7 => ?_; refine sR fun _ hK8 => ?_; refine Jb rfl (J2 rfl ?_); refine nK hK8 ?_; refine Jl rfl (fun h9 => ?_) (fun h9 => ?_)
  exact absurd h9 ((by decide))
  ·try simp only [ZZ] at h9
   refine Jg (hK7 ?_); refine sR fun _ hK10 => ?_; refine LR rfl (Jm (xs := Wi y.b) (n := 60) rfl (kn 0 rfl) rfl rfl rfl) ?_; refine Js (k := 3) (n := 60) (ys := Wi y.b) rfl rfl rfl rfl rfl rfl rfl rfl rfl ?_; refine Jb rfl ?_; refine nK hK10 ?_; refine Jd ?_; refine Jp rfl rfl (.cons (J0 (vs := Wi y.b) rfl (kn 3 rfl) rfl rfl) (.cons (Jk rfl) .nil)) (fun w1 hs1 => ?_); exact ⟨y, rfl, hs1.weakL (.cons _ (.cons _ (.cons _ (.cons _ (List.Sublist.refl _)))))⟩
theorem Jm7 : (vP 3 0 && decide ((0 : Int) ≥ loI 3 0) && decide ((0 : Int) ≤ hiI 3 0)) = true := by decide
theorem xn (b : BaL) : Pure Tryz.prog 149 [.int .i64 0, .agg (Wi b).toArray].toArray (.bool true) := by
 have hP := jX 0 3 0
 rw [Jm7] at hP; refine JF Tryz.func149 rfl rfl fun w => ?_; refine sR fun _ hK1 => ?_; refine JX (cs := List.toArray (Wi b)) rfl rfl rfl rfl fun r3 => ?_; refine Jb rfl ?_; refine nK hK1 ?_; refine sR fun _ hK2 => ?_; refine Jb rfl ?_
 refine LR rfl (Ja rfl rfl (by first | (simp only [Nat.zero_add, Nat.reduceAdd, Nat.reduceMul, Nat.zero_mul, Nat.mul_one, Nat.add_zero]; exact rfl) | exact rfl)) ?_; refine LR rfl (Jc rfl (kn 0 rfl) rfl rfl) ?_
 refine LR rfl (Ja rfl rfl (by first | (simp only [Nat.zero_add, Nat.reduceAdd, Nat.reduceMul, Nat.zero_mul, Nat.mul_one, Nat.add_zero]; exact rfl) | exact rfl)) ?_; refine LR rfl (Jc rfl (kn 0 rfl) rfl rfl) ?_; refine JC rfl rfl rfl (enters_of Tryz.func139 (by kernel_rfl) rfl) hP ?_; refine Jb rfl ?_; refine nK hK2 ?_; refine Jd ?_; refine pT rfl rfl rfl fun w1 hs1 => ?_; exact ⟨rfl, hs1.keep⟩
theorem Jhi (b : BaL) : Pure Tryz.prog 16 [.int .i64 0, .agg (Wi b).toArray].toArray (.bool true) := by
 refine JF Tryz.func16 rfl rfl fun w => ?_; refine sR fun _ hK1 => ?_; refine JX (cs := List.toArray (Wi b)) rfl rfl rfl rfl fun r3 => ?_; refine Jb rfl ?_; refine nK hK1 ?_; refine sQ fun _ hK2 => ?_; refine Km [(r3, .cells (List.toArray (Wi b)) 42 (0, 0))] [(0, .pure), (1, .grow (QY (0 : Nat) (fun r => .map (some r)) (fun r => [Jhh 0 r]))), (2, .pure), (3, .pure), (5, .pure), (6, .pure), (7, .pure), (8, .grow (QK XG (.cells #[.nilFunc, .nilFunc, .nilFunc, .nilFunc] 131 (0, 0)))), (9, .turn), (10, .pure)] 11 [0, 2, 3, 1, 4, 5, 6, 7, 8, 9, 10] (by kernel_rfl) (by kernel_rfl) (fun p hp => hp) ?_; refine JH (k := 0) rfl rfl rfl rfl rfl (fun _ hS => (J7 (r := [_]) rfl rfl)) ?_
 refine JH (k := 2) rfl rfl rfl rfl rfl (fun _ hS => (Ja rfl rfl (by first | (simp only [Nat.zero_add, Nat.reduceAdd, Nat.reduceMul, Nat.zero_mul, Nat.mul_one, Nat.add_zero]; exact rfl) | exact rfl))) ?_; refine JH (k := 3) rfl rfl rfl rfl rfl (fun _ hS => (Jc rfl (.inl (hS _ (Jw (n := 0) rfl))) rfl rfl)) ?_; refine VQ (k := 1) rfl rfl rfl rfl rfl (enters_of Tryz.func62 (by kernel_rfl) rfl) (Jbj 0) fun rm => ?_
 refine Q5 (k := 4) rfl rfl rfl rfl rfl (Vb (v := .tuple #[.agg (Jbi 0).toArray, .bool true]) (Ww (t := 3) (by kernel_rfl)) rfl rfl (kn 0 rfl) rfl rfl ⟨_, rfl⟩ (by intro e he; simp at he; rcases he with rfl | rfl | rfl | rfl | rfl <;> exact ⟨_, rfl⟩) rfl) ?_; refine JH (k := 5) rfl rfl rfl rfl rfl (fun _ hS => (JG rfl)) ?_; refine JH (k := 6) rfl rfl rfl rfl rfl (fun _ hS => (Jf rfl rfl)) ?_; refine JH (k := 7) rfl rfl rfl rfl rfl (fun _ hS => (Jf rfl rfl)) ?_; refine Q4 (k := 8) (cs := #[_, _, _, _]) rfl rfl rfl rfl rfl rfl fun r5 => ?_; refine Kl (k := 9) (q := 0) (n := 4) (ys := Jbi 0) rfl rfl rfl rfl rfl rfl rfl rfl rfl rfl rfl (fun p hp => by rw [List.mem_singleton.1 hp]; exact List.mem_cons_of_mem _ (List.mem_cons_of_mem _ List.mem_cons_self)) ?_; refine JH (k := 10) rfl rfl rfl rfl rfl (fun _ hS => (JY rfl)) ?_; refine Qc ?_; refine nK hK2 ?_; refine sR fun _ hK3 => ?_; refine Jb rfl (Jb rfl ?_)
 refine LR rfl (Ja rfl rfl (by first | (simp only [Nat.zero_add, Nat.reduceAdd, Nat.reduceMul, Nat.zero_mul, Nat.mul_one, Nat.add_zero]; exact rfl) | exact rfl)) ?_; refine LR rfl (Jc rfl (kn 0 rfl) rfl rfl) ?_; refine Jb rfl (LR rfl (Jm (xs := Wi b) (n := 60) rfl (kn 2 rfl) rfl rfl rfl) (JC rfl rfl rfl (enters_of Tryz.func149 (by kernel_rfl) rfl) (xn b) ?_)); refine LR rfl (Jx rfl rfl) ?_; refine Jb rfl ?_; refine nK hK3 ?_; refine Jd ?_; refine pT rfl rfl rfl fun w1 hs1 => ?_; exact ⟨rfl, hs1.keep⟩
theorem Jc4 {R : Jy} {p : Pl} {ch : Nat} {s : BS} {b : BaE} (hS : Seg R 1 (unC [0]) p) (hl : s.length ≤ 1000000000) (h0 : 0 < s.length) (hz : (s.getD 0 0).toNat = 0) (hg : W3 s = (b, 0)) :
  PureT (α := BaR b) Tryz.prog 14 [Jm3 1 p, uV 0, .int .i64 3, Jq s, uV ch].toArray (fun y => .tuple #[.agg (Wi y.b).toArray, .int .i64 0]) [] (fun y => y.L) R := by
 have hA := Jhg (ts := [0]) (p := p) (by decide) hS 0
 rw [show Jc2 [0] 0 = (0, 0) from by decide] at hA; refine J1 Tryz.func14 rfl rfl fun w => ?_; refine sR fun _ hK1 => ?_; refine JX (cs := List.toArray ([Ky 1 p])) rfl rfl rfl rfl fun r5 => ?_; refine LN rfl fun r10 => ?_; refine Jb rfl ?_; refine nK hK1 ?_; refine sR fun _ hK2 => ?_; refine LR rfl (Jm (xs := [Ky 1 p]) (n := 1) rfl (kn 1 rfl) rfl rfl rfl) ?_; refine Jb rfl (J4 rfl rfl rfl (enters_of Tryz.func15 (by kernel_rfl) rfl) hA oR ?_); refine Jb rfl (LR rfl (Jf rfl rfl) (LR rfl (Jf rfl rfl) ?_)); refine Jb rfl (Jb rfl ?_); refine nK hK2 ?_; refine sQ fun _ hK3 => ?_; refine sR fun _ hK4 => ?_; refine Jb rfl (J2 rfl ?_); refine nK hK4 ?_; refine Jl rfl (fun h5 => ?_) (fun h5 => ?_)
 exact absurd h5 ((by decide))
 ·try simp only [ZZ] at h5
  refine Jg (hK3 ?_); refine sR fun _ hK6 => ?_; refine Jb rfl (Jb rfl ?_); refine Jb rfl (Ka rfl rfl rfl (enters_of Tryz.func58 (by kernel_rfl) rfl) (Jj7 (ch := ch) hl h0 hz hg) oN fun y => (Kv List.perm_append_comm ?_)); change HL _ _ _ ((r10, _) :: (r5, _) :: y.L) _ _ _ _; refine Jb rfl (LR rfl (Jf rfl rfl) (LR rfl (Jf rfl rfl) ?_)); refine LN rfl fun r14 => ?_; refine Js (k := 0) (n := 60) (ys := Wi y.b) rfl rfl rfl rfl rfl rfl rfl rfl rfl ?_; refine Jb rfl ?_; refine nK hK6 ?_; refine sB fun _ hK7 => ?_; refine sR fun _ hK8 => ?_; refine Jb rfl (J2 rfl (Jb rfl ?_)); refine nK hK8 ?_; refine Jl rfl (fun h9 => ?_) (fun h9 => ?_)
  exact absurd h9 ((by decide))
  ·try simp only [ZZ] at h9
   refine sR fun _ hK10 => ?_; refine Jb rfl (LR rfl (Jm (xs := Wi y.b) (n := 60) rfl (kn 0 rfl) rfl rfl rfl) (JC rfl rfl rfl (enters_of Tryz.func16 (by kernel_rfl) rfl) (Jhi y.b) ?_)); refine J2 rfl (Jb rfl ?_); refine nK hK10 ?_; refine Jl rfl (fun h11 => ?_) (fun h11 => ?_)
   exact absurd h11 ((by decide))
   ·try simp only [ZZ] at h11
    refine Jg (Jo (hK7 ?_)); refine sR fun _ hK12 => ?_; refine LR rfl (Jm (xs := Wi y.b) (n := 60) rfl (kn 0 rfl) rfl rfl rfl) ?_; refine Js (k := 1) (n := 60) (ys := Wi y.b) rfl rfl rfl rfl rfl rfl rfl rfl rfl ?_; refine Jb rfl ?_; refine nK hK12 ?_; refine Jd ?_; refine Jp rfl rfl (.cons (J0 (vs := Wi y.b) rfl (kn 1 rfl) rfl rfl) (.cons (Jk rfl) .nil)) (fun w1 hs1 => ?_); exact ⟨y, rfl, hs1.weakL (.cons _ (.cons _ (.cons _ (List.Sublist.refl _))))⟩
def aH : BS := List.replicate 32 0
def aB : BaL := ⟨aH, 0, aH, 5, none, []⟩
theorem Joo {R : Jy} : aB.In R := ⟨Nat.zero_le _, Seg.nil⟩
def aS : BS := 0 :: KM (Wg aB.er)
theorem u5 : VG 5 := by show (5 : Nat) < 18446744073709551616; decide
theorem Jhj : Ws aB.er = 0 := by decide +kernel
theorem Jbk : (KM (Wg aB.er)).length = 71 := by decide +kernel
theorem jH : aS.length = 72 := by unfold aS; rw [List.length_cons, Jbk]
theorem Jbl : V1 (Wg aB.er) = 0 := by unfold V1; rw [Jbk]; rfl
theorem Jm8 : X0 aB.er = (aS, 0) := by unfold X0; rw [if_neg (by rw [Jhj]; decide), if_neg (by rw [Jbl]; decide)]; rfl
theorem Jm9 : W3 aS = (aB.er, 0) := Ja0 Jhj u0 u5 Jbl
theorem Jop : (aS.getD 0 0).toNat = 0 := rfl
theorem Jhk : Vk [aS] = 0 := by
 have h : VE 72 = 0 := rfl
 unfold Vk
 rw [if_neg (by simp [jH, h]), if_neg (by simp [jH, h])]
def aW : BS := VO [aS]
theorem xo : aW.length = 75 := by decide +kernel
def aId : BS := [48, 49, 50, 51, 52, 53, 54, 55, 56, 57, 97, 98, 99, 100, 101, 102]
theorem Jbm : (WK aId aW).flatMap FrE.data = aW := Jg7 (by rw [xo]; decide)
theorem Jj8 : Pure Tryz.prog 6 #[] (.bool true) := by
 have hP := Jgg (R := []) (b := aB) Joo u0 u5
 rw [Jm8] at hP
 have hlen75 := xo
 have hpush : (VO [aS]).length ≤ 1000000 := by have := xo; unfold aW at this; omega
 refine JF (vs := []) Tryz.func6 rfl rfl fun w => ?_; refine sR fun _ hK1 => ?_; refine Jb rfl ?_; refine nK hK1 ?_; refine sR fun _ hK2 => ?_; refine qQ (n := 32) (b := 1) rfl rfl rfl rfl rfl rfl rfl rfl rfl (by decide) (by decide) fun r19 => ?_; rw [show List.replicate 32 (Value.int .u8 0) = aH.map bV from rfl]; refine LR rfl (Q9 (row := some (r19, 32, [])) (b := aH) rfl ⟨rfl, rfl⟩ (fun q hq => by rw [List.mem_singleton.1 hq]; exact Vf (k := 0) rfl) rfl rfl rfl) ?_; refine Jb rfl ?_; refine nK hK2 ?_; refine sR fun _ hK3 => ?_; refine Jb rfl (Jb rfl (LR rfl (J7 (r := [_, _, _, _, _]) rfl rfl) ?_)); refine J4 rfl rfl rfl (enters_of Tryz.func10 (by kernel_rfl) rfl) hP oN ?_; refine Jb rfl (LR rfl (Jf rfl rfl) (LR rfl (Jf rfl rfl) ?_)); refine Jb rfl (Jb rfl ?_); refine nK hK3 ?_; refine sR fun _ hK4 => ?_; refine Jb rfl ?_; refine JV (n := 1) (sz := 1) (vs := [_]) (zs := [_]) (r := [Jq aS]) rfl rfl rfl rfl rfl rfl rfl rfl rfl (by show (madeCells #[_] _).toList = _; rw [KA]; exact rfl) rfl fun rb => ?_
 have hW := Jmv (R := [(rb, .cells #[Jq aS] 9 (0, 0))]) (l := [aS]) (p := some (⟨rb, 0, none⟩, 1)) (Qg (row := some (rb, 1, [])) (e := 9) (cs := KN [aS]) (n := 1) (sz := 1) ⟨rfl, rfl⟩ (by decide)) (by simp [jH]) (by decide) hpush
 rw [Jhk, if_neg (by simp)] at hW; refine J4 rfl rfl rfl (enters_of Tryz.func22 (by kernel_rfl) rfl) hW (fun q hq => Or.inl (by rw [List.mem_singleton.1 hq]; exact List.mem_cons_self)) ?_; refine Jb rfl (LR rfl (Jf rfl rfl) (LR rfl (Jf rfl rfl) ?_)); refine Jb rfl (Jb rfl ?_); refine nK hK4 ?_; refine sR fun _ hK5 => ?_; refine Jb rfl (Ka rfl rfl rfl (enters_of Tryz.func23 (by kernel_rfl) rfl) (Jj5 (id := aId) (s := aW) rfl (by omega) (by omega)) oN fun y1 => ?_)
 obtain ⟨row1, hrow1⟩ := y1
 have hv1 : JO 3 row1 = Ky 3 (Qm row1) := Ql hrow1
 simp only [hv1]
 have hseg1 := Qg (e := 72) hrow1 (by decide)
 have hhf := Jcx (id := aId) (s := aW) rfl
 refine Jb rfl (LR rfl (Jf rfl rfl) (LR rfl (Jf rfl rfl) ?_)); refine Jb rfl (Jb rfl ?_); refine nK hK5 ?_; refine sR fun _ hK6 => ?_; refine Jb rfl (J4 rfl rfl rfl (enters_of Tryz.func24 (by kernel_rfl) rfl) (Jmw (R := Kk 72 (VF (WK aId aW)) row1) (l := WK aId aW) (p := Qm row1) hseg1 hhf.ok (by decide) (by decide)) (fun q hq => Or.inl (List.mem_append_left _ hq)) ?_); refine Jb rfl (LR rfl (Jf rfl rfl) (LR rfl (Jf rfl rfl) ?_)); refine Jb rfl (Jb rfl ?_); refine nK hK6 ?_; refine sR fun _ hK7 => ?_; refine Jb rfl (Ka rfl rfl rfl (enters_of Tryz.func18 (by kernel_rfl) rfl) (Jmz (l := WK aId aW) hhf.ok (by decide) (by decide)) oN fun y2 => ?_)
 obtain ⟨row2, hrow2⟩ := y2
 have hv2 : JO (WK aId aW).length row2 = Ky (WK aId aW).length (Qm row2) := Ql hrow2
 simp only [hv2]
 have hseg2 := Qg (e := 72) hrow2 (by decide)
 refine Jb rfl (LR rfl (Jf rfl rfl) (LR rfl (Jf rfl rfl) ?_)); refine Jb rfl (Jb rfl ?_); refine nK hK7 ?_; refine sR fun _ hK8 => ?_; refine Jb rfl ?_
 have hJ := Jg6 (R := Kk 72 (VF (WK aId aW)) row2) (l := WK aId aW) (p := Qm row2) (by decide) hseg2 hhf (Jcy _ _) (by rw [Jbm]; omega)
 rw [Jbm] at hJ; refine J4 rfl rfl rfl (enters_of Tryz.func20 (by kernel_rfl) rfl) hJ (fun q hq => Or.inl (List.mem_append_left _ hq)) ?_; refine Jb rfl (LR rfl (Jf rfl rfl) (LR rfl (Jf rfl rfl) ?_)); refine Jb rfl (Jb rfl ?_); refine nK hK8 ?_; refine sR fun _ hK9 => ?_; refine Jb rfl (Ka rfl rfl rfl (enters_of Tryz.func25 (by kernel_rfl) rfl) (Jm0 (l := [aS]) (Jg8 Jhk) hpush) oN fun y3 => ?_)
 obtain ⟨row3, hrow3⟩ := y3
 have hv3 : JO [aS].length row3 = Ky [aS].length (Qm row3) := Ql hrow3
 simp only [hv3]
 have hseg3 := Qg (e := 9) hrow3 (by decide)
 refine Jb rfl (LR rfl (Jf rfl rfl) (LR rfl (Jf rfl rfl) ?_)); refine LR rfl (Jf rfl rfl) ?_; refine Jb rfl (Jb rfl (Jb rfl ?_)); refine nK hK9 ?_; refine sQ fun _ hK10 => ?_; refine sR fun _ hK11 => ?_; refine Jb rfl (LR rfl (JJ rfl hseg3 rfl) (J2 rfl ?_)); refine nK hK11 ?_; refine Jl rfl (fun h12 => ?_) (fun h12 => ?_)
 exact absurd h12 ((by decide))
 ·try simp only [ZZ] at h12
  refine Jg (hK10 ?_); refine sR fun _ hK13 => ?_; refine JV (n := 1) (sz := 1) (vs := [_]) (zs := [_]) (r := [uV 0]) rfl rfl rfl rfl rfl rfl rfl rfl rfl (by show (madeCells #[_] _).toList = _; rw [KA]; exact rfl) rfl fun rq => ?_; refine LR rfl (J7 (r := [_]) rfl rfl) ?_; refine Jb rfl ?_
  refine LR rfl (JB (j := 0) rfl hseg3 rfl rfl rfl (by first | rfl | omega) (by decide)) ?_; refine LR rfl (Qy (fun q hq => Or.inl (List.mem_cons_of_mem _ (List.mem_append_left _ hq))) rfl hseg3 (by omega) rfl (show ([aS].map Jq)[0]? = some (Jq aS) from rfl)) ?_; refine Ka rfl rfl rfl (enters_of Tryz.func14 (by kernel_rfl) rfl) (Jc4 (R := [(rq, .cells #[uV 0] 22 (0, 0))]) (p := some (⟨rq, 0, none⟩, 1)) (ch := 1) (Qg (row := some (rq, 1, [])) (e := 22) (cs := unC [0]) (n := 1) (sz := 1) ⟨rfl, rfl⟩ (by decide)) (by rw [jH]; decide) (by rw [jH]; decide) Jop Jm9) (fun q hq => Or.inl (by rw [List.mem_singleton.1 hq]; exact List.mem_cons_self)) fun y => ?_; refine Jb rfl (LR rfl (Jf rfl rfl) (LR rfl (Jf rfl rfl) ?_)); refine LN rfl fun r17 => ?_; refine Js (k := 0) (n := 60) (ys := Wi y.b) rfl rfl rfl rfl rfl rfl rfl rfl rfl ?_; refine Jb rfl ?_; refine nK hK13 ?_; refine sR fun _ hK14 => ?_; refine Jb rfl (J2 rfl ?_); refine Jb rfl (Jb rfl ?_); refine J2 rfl (LR rfl (Jx rfl rfl) ?_); refine Jb rfl (Jb rfl ?_); refine J2 rfl (LR rfl (Jx rfl rfl) ?_); refine Jb rfl (Jb rfl (LR rfl (JJ rfl hseg1 rfl) ?_)); refine J2 rfl (LR rfl (Jx rfl rfl) ?_); refine Jb rfl (Jb rfl ?_); refine J2 rfl (LR rfl (Jx rfl rfl) ?_); refine Jb rfl (Jb rfl ?_); refine J2 rfl (LR rfl (Jx rfl rfl) ?_); refine Jb rfl (Jb rfl ?_); refine J2 rfl (LR rfl (Jx rfl rfl) ?_); refine Jb rfl (Jb rfl ?_); refine J2 rfl (LR rfl (Jx rfl rfl) ?_); refine Jb rfl (Jb rfl ?_); refine J2 rfl (LR rfl (Jx rfl rfl) ?_); refine Jb rfl (Jb rfl ?_); refine J2 rfl (LR rfl (Jx rfl rfl) (Jb rfl ?_))
  refine LR rfl (Ja rfl rfl (by first | (simp only [Nat.zero_add, Nat.reduceAdd, Nat.reduceMul, Nat.zero_mul, Nat.mul_one, Nat.add_zero]; exact rfl) | exact rfl)) ?_
  refine LR rfl (Ja rfl rfl (by first | (simp only [Nat.zero_add, Nat.reduceAdd, Nat.reduceMul, Nat.zero_mul, Nat.mul_one, Nat.add_zero]; exact rfl) | exact rfl)) ?_; refine LR rfl (Jc rfl (kn 0 rfl) rfl rfl) ?_; refine J2 rfl ?_; refine JA (show _ = Value.bool true from Kn ((by rw [show y.b.time = 5 from congrArg BaE.time y.er]; rfl))) ?_; refine LR rfl (Jx rfl rfl) ?_; refine Jb rfl ?_; refine nK hK14 ?_; refine Jd ?_; refine pT rfl rfl rfl fun w1 hs1 => ?_; exact ⟨rfl, hs1.keep⟩
theorem xq {t : TxE} (ho : t.ok) (hk : K012 t.kind) (hchk : Wx t = 0) : PureT (α := TxR t) Tryz.prog 12 [Jq (We t)].toArray (fun z => .tuple #[z.x.val, .int .i64 0]) [] (fun z => z.L) [] := by
 rcases hk with h | h | h
 ·exact yD ho h hchk
 ·exact yE ho h hchk
 ·exact yF ho h hchk
theorem Jj9 {R : Jy} {t : TxL} (ht : t.In R) (hk : K012 t.kind) (hchk : Wx t.er = 0) : PureR Tryz.prog 9 [t.val].toArray (.tuple #[Jq (We t.er), .int .i64 0]) R := by
 have hb := jB hk hchk
 obtain ⟨h1, h2⟩ := vJ hk ht.ok hb
 exact zH ht (Jmn hb) hk hchk h2 (by omega)
theorem Jka (t : TxE) : 1 ≤ (We t).length := by
 have := XB (KG (Qu t))
 unfold We; rw [List.length_append]; omega
def W5 (l : List TxL) : List BS := l.map fun t => We t.er
theorem Jc5 {l : List TxL} {k : Nat} {t : TxL} (h : l[k]? = some t) : (W5 (l.take k)).map Jq ++ [Jq (We t.er)] = (W5 (l.take (k + 1))).map Jq := by
 unfold W5
 rw [List.take_add_one, h, Option.toList_some]; simp
structure OneS (l : List TxL) (k : Nat) (row : QH) (lg : Bool) : Prop where
  le : k ≤ l.length
  ok : rowOk 1 k ((W5 (l.take k)).map Jq) row
  sm : lg = false → ∀ s ∈ W5 (l.take k), s.length ≤ 4096
theorem OneS.next {l : List TxL} {k : Nat} {row row' : QH} {lg lg' : Bool} {t : TxL} (h : OneS l k row lg) (ht : l[k]? = some t) (hr : rowOk 1 (k + 1) ((W5 (l.take (k + 1))).map Jq) row') (hl : lg' = false → lg = false ∧ (We t.er).length ≤ 4096) : OneS l (k + 1) row' lg' where
 le := (List.getElem?_eq_some_iff.1 ht).1
 ok := hr
 sm := fun h0 s hs => by
  obtain ⟨h1, h2⟩ := hl h0
  unfold W5 at hs
  rw [List.take_add_one, ht, Option.toList_some, List.map_append, List.mem_append] at hs
  rcases hs with hs | hs
  ·exact h.sm h1 s hs
  ·rw [List.map_singleton, List.mem_singleton] at hs; rw [hs]; exact h2
theorem Jkb {b : BaE} (hp : b.parent.length = 32) (hh : b.hash.length = 32) (he : VG b.epoch) (ht : VG b.time) (h1 : ∀ s ∈ b.txs, 1 ≤ s.length ∧ s.length ≤ 4096) (hl : b.txs.length ≤ 32) (hE : ¬ (X0 b).2 = 5) :
  (X0 b).2 = 0 ∧ W3 (X0 b).1 = (b, 0) ∧ (X0 b).1.length ≤ 1000000000 := by
 have hc : Ws b = 0 := by
  unfold Ws
  rw [if_neg, if_neg]
  ·rintro (h | h)
   ·omega
   ·obtain ⟨s, hs, h⟩ := List.any_eq_true.1 h
    have := h1 s hs
    simp at h; omega
  ·rintro (h | h | h)
   ·omega
   ·omega
   ·obtain ⟨s, hs, h⟩ := List.any_eq_true.1 h
    have := h1 s hs
    have h : ([] : BS) = s := of_decide_eq_true h
    rw [← h] at this; simp at this
 have hr : V1 (Wg b) = 0 := by
  rcases Classical.em (V1 (Wg b) = 0) with h | h
  ·exact h
  ·refine absurd ?_ hE
   unfold X0
   rw [if_neg (by rw [hc]; decide), if_pos h]
   unfold V1 at h ⊢
   split at h
   ·rw [if_pos (by assumption)]
   ·exact absurd rfl h
 have hput : X0 b = (0 :: KM (Wg b), 0) := by unfold X0; rw [if_neg (by rw [hc]; decide), if_neg (by rw [hr]; decide)]
 rw [hput]; refine ⟨rfl, Ja0 hc he ht hr, ?_⟩
 have := (zS (zR hc) he ht).1
 rw [List.length_cons]; omega
theorem S_TopSpans {R : Jy} {s : SpL} {hash : BS} {chain : Nat} (hs : s.In R) : PureR Tryz.prog 3 [s.val, Jq hash, uV chain].toArray (.bool true) R := by
  have hsl := hs.len
  have hsg := hs.seg
  refine Jz Tryz.func3 rfl rfl fun w => ?_; refine sR fun _ hK1 => ?_; refine JX (cs := List.toArray (s.cells)) rfl rfl rfl rfl fun r0 => ?_; refine Jb rfl ?_; refine nK hK1 ?_; refine sR fun _ hK2 => ?_; refine JC rfl rfl rfl (enters_of Tryz.func6 (by kernel_rfl) rfl) Jj8 ?_; refine Jb rfl ?_; refine nK hK2 ?_; refine sQ fun _ hK3 => ?_; refine sR fun _ hK4 => ?_; refine Jb rfl (J2 rfl ?_); refine nK hK4 ?_; refine Jl rfl (fun h5 => ?_) (fun h5 => ?_)
  exact absurd h5 ((by decide))
  · try simp only [ZZ] at h5
    refine Jg (hK3 ?_); refine sR fun _ hK6 => ?_; refine LR rfl (Jm (xs := s.cells) (n := 5) rfl (kn 0 rfl) rfl rfl rfl) ?_; refine LR rfl (J7 (r := Jmo s) rfl (by kernel_rfl)) ?_; refine Ka rfl rfl rfl (enters_of Tryz.func7 (by kernel_rfl) rfl) (Jjj hs) oR fun yf => ?_
    obtain ⟨yf, hfew⟩ := yf
    change HL _ _ _ [(r0, .cells (List.toArray s.cells) 25 (0, 0))] _ _ _ _; refine Jb rfl ?_; refine nK hK6 ?_; refine sQ fun _ hK7 => ?_; refine sR fun _ hK8 => ?_; refine Jb rfl (J2 rfl (Jb rfl ?_))
    refine JM 31 rfl (fun gb => ?_) (fun gb => ?_) <;> (try simp only [ZZ] at gb) <;> first | (refine Jb rfl ?_) | (refine LK rfl ?_)
    all_goals first | refine LR rfl (JI rfl rfl) ?_ | refine LK rfl ?_
    all_goals first | refine J2 rfl ?_ | refine LK rfl ?_
    all_goals first | refine LR rfl (Jx rfl rfl) ?_ | refine LR rfl (J5 rfl rfl) ?_
    all_goals refine Jb rfl ?_
    all_goals first | refine LK rfl ?_ | (refine JM 36 rfl (fun gb => ?_) (fun gb => ?_) <;> (try simp only [ZZ] at gb) <;> first | (refine LR rfl (Jm (xs := s.cells) (n := 5) rfl (kn 0 rfl) rfl rfl rfl) ?_) | (refine LK rfl ?_))
    all_goals first | refine Jb rfl ?_ | refine LK rfl ?_
    all_goals first | (refine J4 rfl rfl rfl (enters_of Tryz.func8 (by kernel_rfl) rfl) (Jco (c := chain) hs (by have := (hfew (by assumption)).2; omega)) oR ?_) | refine LK rfl ?_
    all_goals first | refine J2 rfl ?_ | refine LK rfl ?_
    all_goals first | refine LR rfl (Jx rfl rfl) ?_ | refine LR rfl (J5 rfl rfl) ?_
    all_goals (
     refine Jt (hK8 ?_); refine Jl rfl (fun g => ?_) (fun g => ?_)
     try simp only [ZZ] at g
     refine sR fun _ hK17 => ?_; refine Jb rfl (Jb rfl ?_); refine nK hK17 ?_; refine Jd (Ji ?_); refine pT rfl rfl rfl fun w1 hs1 => ?_; exact ⟨rfl, hs1.keep⟩
     · try exact Bool.noConfusion g
       all_goals try simp only [ZZ] at g
       all_goals (
        refine Jg (hK7 ?_); refine sQ fun _ hK18 => ?_; refine sQ fun _ hK19 => ?_
        have hok := Jmr (show spE chain s = 0 by assumption)
        have hbl := (hfew (by assumption)).1
        have h32 : hash.length = 32 := by omega
        have hall := (hfew (by assumption)).2
        refine Je (Jb rfl ?_); refine nK hK19 ?_; refine J3 (JS (σ := Nat) (fun i => i ≤ s.blocks.length) (fun i => [(1, Jq hash), (3, Kw r0), (7, .bool true), (9, .int .i64 (i : Int))]) (fun _ => [(r0, .cells (List.toArray s.cells) 25 (0, 0))]) (fun _ _ _ => True) (fun i => s.blocks.length - i) 0 (Nat.zero_le _) (lK rfl) (List.Sublist.refl _) (fun _ _ h => h) ?_); intro i hi1; refine sQ fun _ hK20 => ?_; refine sR fun _ hK21 => ?_; refine Jb rfl ?_
        refine LR rfl (Ja rfl rfl (by first | (simp only [Nat.zero_add, Nat.reduceAdd, Nat.reduceMul, Nat.zero_mul, Nat.mul_one, Nat.add_zero]; exact rfl) | exact rfl)) ?_; refine LR rfl (Jc rfl (kn 0 rfl) rfl rfl) ?_; refine LR rfl (JJ rfl hsg rfl) ?_; refine J2 rfl ?_; refine nK hK21 ?_; refine cD (fun g => ?_) fun g => ?_
        · refine Jg (hK20 ?_); refine sB fun _ hK23 => ?_; refine sQ fun _ hK24 => ?_
          obtain ⟨b, hbi, hmb⟩ := QA (show i < s.blocks.length by omega)
          have hbin := hs.blocks b hmb
          have hbg := hbin.seg
          have hbn := hbin.len
          have hb20 : b.txs.length ≤ 20 := by
            have h := qI (l := s.blocks) (i + 1)
            rw [XE hbi, List.length_append] at h; omega
          have htx : ∀ t ∈ b.txs, t.In R ∧ K012 t.kind ∧ Wx t.er = 0 := fun t ht => ⟨hbin.txs t ht, hok t (List.mem_flatMap.2 ⟨b, hmb, ht⟩)⟩
          refine Je (Jb rfl ?_)
          refine LR rfl (Ja rfl rfl (by first | (simp only [Nat.zero_add, Nat.reduceAdd, Nat.reduceMul, Nat.zero_mul, Nat.mul_one, Nat.add_zero]; exact rfl) | exact rfl)) ?_; refine LR rfl (Jc rfl (kn 0 rfl) rfl rfl) ?_; refine Jb rfl ?_
          refine LR rfl (Ja rfl rfl (by first | (simp only [Nat.zero_add, Nat.reduceAdd, Nat.reduceMul, Nat.zero_mul, Nat.mul_one, Nat.add_zero]; exact rfl) | exact rfl)) ?_; refine LR rfl (Jc rfl (kn 0 rfl) rfl rfl) ?_; refine LR rfl (J7 (r := [_, _, _, _, _]) rfl rfl) ?_; refine LN rfl fun r10 => ?_; refine Js (k := 0) (n := 5) (ys := [Jq hash, uV s.epoch, Jq hash, uV s.time, .slice none 0 0]) rfl rfl rfl rfl rfl rfl rfl rfl rfl ?_; refine nK hK24 ?_; refine sR fun _ hK25 => ?_; refine Jb rfl ?_; refine nK hK25 ?_; refine sQ fun _ hK26 => ?_; refine sR fun _ hK27 => ?_; refine Jb rfl ?_; refine nK hK27 ?_; refine J3 (JS (σ := Nat × QH × Bool) (fun z => OneS b.txs z.1 z.2.1 z.2.2) (fun z => [(1, Jq hash), (3, Kw r0), (7, .bool true), (9, .int .i64 (i : Int)), (10, Kw r10), (11, .bool z.2.2), (12, .int .i64 (z.1 : Int))]) (fun z => (r10, .cells (List.toArray [Jq hash, uV s.epoch, Jq hash, uV s.time, JO z.1 z.2.1]) 39 (0, 0)) :: (r0, .cells (List.toArray s.cells) 25 (0, 0)) :: Kk 9 ((W5 (b.txs.take z.1)).map Jq) z.2.1) (fun _ _ _ => True) (fun z => b.txs.length - z.1) (0, none, false) ⟨Nat.zero_le _, ⟨rfl, rfl⟩, fun _ _ h => nomatch h⟩ (lK rfl) (List.Sublist.refl _) (fun _ _ h => h) ?_); rintro ⟨k, row, lg⟩ hO; simp only at hO
          have hle0 := hO.le
          change HC _ _ _ ((r10, .cells (List.toArray [Jq hash, uV s.epoch, Jq hash, uV s.time, JO k row]) 39 (0, 0)) :: (r0, .cells (List.toArray s.cells) 25 (0, 0)) :: Kk 9 ((W5 (b.txs.take k)).map Jq) row) _ _ _; refine sQ fun _ hK28 => ?_; refine sR fun _ hK29 => ?_; refine Jb rfl ?_
          refine LR rfl (Ja rfl rfl (by first | (simp only [Nat.zero_add, Nat.reduceAdd, Nat.reduceMul, Nat.zero_mul, Nat.mul_one, Nat.add_zero]; exact rfl) | exact rfl)) ?_; refine LR rfl (Jc rfl (kn 1 rfl) rfl rfl) ?_; refine Jb rfl ?_
          refine LR rfl (JB (j := i) rfl hsg rfl rfl rfl (by first | rfl | omega) (by omega)) ?_; refine LR rfl (Ja (off' := Wj s.p + (i * 2 + 1)) rfl rfl (by show Wj s.p + i * 2 + 1 = _; omega)) ?_; refine LR rfl (KR BlL.len (k := 1) (v := Ky b.txs.length b.p) oR rfl hsg hbi rfl rfl) ?_; refine LR rfl (JJ rfl hbg rfl) ?_; refine J2 rfl ?_; refine nK hK29 ?_; refine cD (fun g => ?_) fun g => ?_
          · refine Jg (hK28 ?_); refine sB fun _ hK31 => ?_; refine sQ fun _ hK32 => ?_
            have hle := hO.le
            obtain ⟨t, htk, hmt⟩ := QA (show k < b.txs.length by omega)
            obtain ⟨htin, htk3, htch⟩ := htx t hmt
            refine Je ?_
            refine LR rfl (Ja rfl rfl (by first | (simp only [Nat.zero_add, Nat.reduceAdd, Nat.reduceMul, Nat.zero_mul, Nat.mul_one, Nat.add_zero]; exact rfl) | exact rfl)) ?_; refine LR rfl (Jc rfl (kn 1 rfl) rfl rfl) ?_; refine Jb rfl ?_
            refine LR rfl (JB (j := i) rfl hsg rfl rfl rfl (by first | rfl | omega) (by omega)) ?_; refine LR rfl (Ja (off' := Wj s.p + (i * 2 + 1)) rfl rfl (by show Wj s.p + i * 2 + 1 = _; omega)) ?_; refine LR rfl (KR BlL.len (k := 1) (v := Ky b.txs.length b.p) oR rfl hsg hbi rfl rfl) ?_; refine Jb rfl ?_
            refine LR rfl (JB (j := k) rfl hbg rfl rfl rfl (by first | rfl | omega) (by omega)) ?_; refine LR rfl (Kt TxL.len oR rfl hbg htk rfl rfl) ?_; refine J4 rfl rfl rfl (enters_of Tryz.func9 (by kernel_rfl) rfl) (Jj9 htin htk3 htch) oR ?_; refine Jb rfl (LR rfl (Jf rfl rfl) (LR rfl (Jf rfl rfl) ?_)); refine Jb rfl (Jb rfl ?_); refine nK hK32 ?_; refine sQ fun _ hK33 => ?_; refine sR fun _ hK34 => ?_; refine Jb rfl (J2 rfl ?_); refine nK hK34 ?_; refine Jl rfl (fun h35 => ?_) (fun h35 => ?_)
            exact absurd h35 ((by decide))
            · try simp only [ZZ] at h35
              refine Jg (hK33 ?_); refine sR fun _ hK36 => ?_
              refine LR rfl (Ja rfl rfl (by first | (simp only [Nat.zero_add, Nat.reduceAdd, Nat.reduceMul, Nat.zero_mul, Nat.mul_one, Nat.add_zero]; exact rfl) | exact rfl)) ?_; refine LR rfl (Jc (v := JO k row) rfl (kn 0 rfl) rfl rfl) ?_; refine Jb rfl ?_; refine JV (n := 1) (sz := 1) (vs := [_]) (zs := [_]) (r := [Jq (We t.er)]) rfl rfl rfl rfl rfl rfl rfl rfl rfl (by show (madeCells #[_] _).toList = _; rw [KA]; exact rfl) rfl fun rb => ?_; refine Kh (L0 := [_, _, _]) (xs := (W5 (b.txs.take k)).map Jq) (row := row) (n := k) (sz := 1) (b := 16) (news := [Jq (We t.er)]) (List.perm_append_comm (l₁ := [_, _, _])) rfl rfl rfl rfl (kn 0 rfl) rfl rfl rfl rfl rfl (by decide) rfl rfl rfl (by decide) hO.ok (by omega) (by omega) fun ra cap sp hra => ?_
              refine LR rfl (Ja rfl rfl (by first | (simp only [Nat.zero_add, Nat.reduceAdd, Nat.reduceMul, Nat.zero_mul, Nat.mul_one, Nat.add_zero]; exact rfl) | exact rfl)) ?_; refine Ju (k := 2) (cs' := List.toArray [Jq hash, uV s.epoch, Jq hash, uV s.time, JO (k + 1) (some (ra, cap, sp))]) rfl rfl rfl rfl rfl rfl rfl rfl rfl rfl ?_; refine nK hK36 ?_; refine Je (Jb rfl (Jb rfl ?_))
              refine JM 90 rfl (fun gb => ?_) (fun gb => ?_) <;> (try simp only [ZZ] at gb) <;> first | (refine Jb rfl ?_) | (refine LK rfl ?_)
              all_goals first | refine LR rfl (JI rfl rfl) ?_ | refine LK rfl ?_
              all_goals first | refine J2 rfl ?_ | refine LK rfl ?_
              all_goals first | refine LR rfl (Jx rfl rfl) ?_ | refine LR rfl (J5 rfl rfl) ?_
              all_goals (
               refine Jb rfl (Jt (Jo (hK31 ?_))); refine Je (Jb rfl ?_)
               refine J2 rfl ?_; refine JA (show _ = Value.int .i64 ((k + 1 : Nat) : Int) from by rw [wrap_i64 (by omega) (by omega)]; congr 1 <;> omega) ?_; refine Jb rfl (Jt (JU ?_)); rw [Jc5 htk] at hra ⊢; refine VW [2, 3, 0] (L' := [_, _, _]) (by decide) rfl ?_
               first | exact JN (k + 1, some (ra, cap, sp), true) (hO.next htk hra (fun h => nomatch h)) (by simp only; omega) (lK rfl) (List.Sublist.refl _) (fun _ _ h => h) | exact JN (k + 1, some (ra, cap, sp), decide (((We t.er).length : Int) > 4096)) (hO.next htk hra (fun h => ⟨by assumption, by have h := of_decide_eq_false h; omega⟩)) (by simp only; omega) (lK rfl) (List.Sublist.refl _) (fun _ _ h => h)
               skip)
          · refine JL (Jn ?_); refine Jn (J8 (hK26 ?_)); refine sQ fun _ hK40 => ?_
            have hle := hO.le
            have hkn : k = b.txs.length := by omega
            have hrow := hO.ok
            have hsm := hO.sm
            rw [hkn, List.take_length] at hrow hsm
            have hel : (W5 b.txs).length = b.txs.length := by unfold W5; rw [List.length_map]
            have hP := Jgg (R := Kk 9 ((W5 b.txs).map Jq) row) (b := (⟨hash, s.epoch, hash, s.time, Qm row, W5 b.txs⟩ : BaL)) ⟨by show (W5 b.txs).length ≤ _; omega, by show Seg _ (W5 b.txs).length _ _; rw [hel]; exact Qg hrow (by decide)⟩ hs.epoch hs.time
            refine Je (LR rfl (Jm (xs := [Jq hash, uV s.epoch, Jq hash, uV s.time, JO k row]) (n := 5) rfl (kn 0 rfl) rfl rfl rfl) ?_); refine JA (show _ = (⟨hash, s.epoch, hash, s.time, Qm row, W5 b.txs⟩ : BaL).val from by rw [hkn, Ql hrow]; exact congrArg (fun n => Value.agg #[Jq hash, uV s.epoch, Jq hash, uV s.time, Ky n (Qm row)]) hel.symm) ?_; refine J4 rfl rfl rfl (enters_of Tryz.func10 (by kernel_rfl) rfl) hP (fun q hq => Or.inl (List.mem_cons_of_mem _ (List.mem_cons_of_mem _ (by rw [hkn, List.take_length]; exact hq)))) ?_; refine Jb rfl (LR rfl (Jf rfl rfl) (LR rfl (Jf rfl rfl) ?_)); refine Jb rfl (Jb rfl ?_); refine nK hK40 ?_; refine sQ fun _ hK41 => ?_; refine sR fun _ hK42 => ?_; refine Jb rfl (Jb rfl ?_)
            refine JM 101 rfl (fun gb => ?_) (fun gb => ?_) <;> (try simp only [ZZ] at gb) <;> first | (refine LR rfl (Ja rfl rfl (by first | (simp only [Nat.zero_add, Nat.reduceAdd, Nat.reduceMul, Nat.zero_mul, Nat.mul_one, Nat.add_zero]; exact rfl) | exact rfl)) ?_) | (refine LK rfl ?_)
            all_goals first | refine LR rfl (Jc (v := JO k row) rfl (kn 0 rfl) rfl rfl) ?_ | refine LK rfl ?_
            all_goals first | refine LR rfl (VY rfl hO.ok.zero rfl) ?_ | refine LK rfl ?_
            all_goals first | refine J2 rfl ?_ | refine LK rfl ?_
            all_goals first | refine LR rfl (Jx rfl rfl) ?_ | refine LR rfl (J5 rfl rfl) ?_
            all_goals refine Jb rfl ?_
            all_goals first | refine LK rfl ?_ | (refine JM 107 rfl (fun gb => ?_) (fun gb => ?_) <;> (try simp only [ZZ] at gb) <;> first | (refine Jb rfl ?_) | (refine LK rfl ?_))
            all_goals first | refine J2 rfl ?_ | refine LK rfl ?_
            all_goals first | refine LR rfl (Jx rfl rfl) ?_ | refine LR rfl (J5 rfl rfl) ?_
            all_goals (
             refine Jt (hK42 ?_); refine Jl rfl (fun g => ?_) (fun g => ?_)
             · try simp only [ZZ] at g
               refine JL (Jn ?_); refine J8 (hK23 ?_); refine Je (Jb rfl ?_)
               refine J2 rfl ?_; refine JA (show _ = Value.int .i64 ((i + 1 : Nat) : Int) from by rw [wrap_i64 (by omega) (by omega)]; congr 1 <;> omega) ?_; refine Jb rfl (Jt (JU ?_))
               exact JN (i + 1) (by omega) (by omega) (lK rfl) (by first | exact List.Sublist.refl _ | exact .cons _ (.cons_cons _ (List.nil_sublist _)) | exact .cons _ (.cons _ (.cons_cons _ (List.nil_sublist _)))) (fun _ _ h => h)
             · try exact Bool.noConfusion g
               all_goals try simp only [ZZ] at g
               all_goals (
                refine Jg (hK41 ?_); refine sQ fun _ hK50 => ?_
                have hone := Jkb (b := (⟨hash, s.epoch, hash, s.time, Qm row, W5 b.txs⟩ : BaL).er) h32 h32 hs.epoch hs.time (fun x hx => ⟨by obtain ⟨t, _, rfl⟩ := List.mem_map.1 hx; exact Jka _, hsm (by assumption) x hx⟩) (by show (W5 b.txs).length ≤ 32; omega) (by assumption)
                obtain ⟨hput0, hget, hpl⟩ := hone
                have hG := Jgl hpl
                rw [hget] at hG; refine Je (Jb rfl (Ka rfl rfl rfl (enters_of Tryz.func11 (by kernel_rfl) rfl) hG oN fun y => ?_))
                obtain ⟨yb, yL, yin, yer⟩ := y
                refine Kv List.perm_append_comm ?_
                have hyg := yin.seg
                have hyt : yb.txs = W5 b.txs := congrArg BaE.txs yer
                have hyl : yb.txs.length = b.txs.length := by rw [hyt]; exact hel
                refine Jb rfl (LR rfl (Jf rfl rfl) (LR rfl (Jf rfl rfl) ?_)); refine LN rfl fun r17 => ?_; refine Js (k := 0) (n := 5) (ys := yb.cells) rfl rfl rfl rfl rfl rfl rfl rfl rfl ?_; refine Jb rfl ?_; refine nK hK50 ?_; refine sQ fun _ hK51 => ?_; refine sQ fun _ hK52 => ?_; refine Qs 19 (by kernel_rfl) (by kernel_rfl) ?_; refine JD rfl rfl rfl (JG rfl) ?_; refine JD rfl rfl rfl (KC rfl rfl rfl) ?_; refine Wl (show _ = Value.bool false from Kn ((by rw [hput0]; rfl))) ?_; refine JD rfl rfl rfl (JG rfl) ?_; refine JD rfl rfl rfl (JG rfl) ?_; refine JD rfl rfl rfl (KC rfl rfl rfl) ?_; refine JD rfl rfl rfl (J5 rfl rfl) ?_; refine JD rfl rfl rfl (JG rfl) ?_
                refine JD rfl rfl rfl (Ja rfl rfl (by first | (simp only [Nat.zero_add, Nat.reduceAdd, Nat.reduceMul, Nat.zero_mul, Nat.mul_one, Nat.add_zero]; exact rfl) | exact rfl)) ?_; refine JD rfl rfl rfl (Jc rfl (kn 0 rfl) rfl rfl) ?_; refine JD rfl rfl rfl (JJ rfl hyg rfl) ?_
                refine JD rfl rfl rfl (Ja rfl rfl (by first | (simp only [Nat.zero_add, Nat.reduceAdd, Nat.reduceMul, Nat.zero_mul, Nat.mul_one, Nat.add_zero]; exact rfl) | exact rfl)) ?_; refine JD rfl rfl rfl (Jc rfl (kn 2 rfl) rfl rfl) ?_; refine JD rfl rfl rfl (JG rfl) ?_
                refine JD rfl rfl rfl (JB (j := i) rfl hsg rfl rfl rfl (by first | rfl | omega) (by omega)) ?_; refine JD rfl rfl rfl (Ja (off' := Wj s.p + (i * 2 + 1)) rfl rfl (by show Wj s.p + i * 2 + 1 = _; omega)) ?_; refine JD rfl rfl rfl (KR BlL.len (k := 1) (v := Ky b.txs.length b.p) oR rfl hsg hbi rfl rfl) ?_; refine JD rfl rfl rfl (JJ rfl hbg rfl) ?_; refine JD rfl rfl rfl (KC rfl rfl rfl) ?_; refine Wl (show _ = Value.bool false from Kn ((by rw [hyl]; exact bne_self_eq_false _))) ?_; refine JD rfl rfl rfl (J5 rfl rfl) ?_; refine Q8 ?_; refine nK hK52 ?_; refine Jl rfl (fun h66 => ?_) (fun h66 => ?_)
                exact absurd h66 ((by decide))
                · try simp only [ZZ] at h66
                  refine Jg (hK51 ?_); refine sR fun _ hK67 => ?_; refine Jb rfl ?_; refine nK hK67 ?_; refine J3 (JS (σ := Nat) (fun k => k ≤ b.txs.length) (fun k => [(1, Jq hash), (3, Kw r0), (7, .bool true), (9, .int .i64 (i : Int)), (17, Kw r17), (19, .int .i64 (k : Int))]) (fun _ => (r17, .cells (List.toArray yb.cells) 39 (0, 0)) :: (r0, .cells (List.toArray s.cells) 25 (0, 0)) :: yL) (fun _ _ _ => True) (fun k => b.txs.length - k) 0 (Nat.zero_le _) (lK rfl) (.cons_cons _ (.cons _ (.cons_cons _ (List.sublist_append_right _ _)))) (fun _ _ h => h) ?_); intro k hk1; refine sQ fun _ hK68 => ?_; refine sR fun _ hK69 => ?_; refine Jb rfl ?_
                  refine LR rfl (Ja rfl rfl (by first | (simp only [Nat.zero_add, Nat.reduceAdd, Nat.reduceMul, Nat.zero_mul, Nat.mul_one, Nat.add_zero]; exact rfl) | exact rfl)) ?_; refine LR rfl (Jc rfl (kn 0 rfl) rfl rfl) ?_; refine LR rfl (JJ rfl hyg rfl) ?_; refine J2 rfl ?_; refine nK hK69 ?_; refine cD (fun g => ?_) fun g => ?_
                  · refine Jg (hK68 ?_); refine sB fun _ hK71 => ?_; refine sQ fun _ hK72 => ?_
                    obtain ⟨t, htk, hmt⟩ := QA (show k < b.txs.length by omega)
                    obtain ⟨htin, htk3, htch⟩ := htx t hmt
                    refine Je ?_
                    refine LR rfl (Ja rfl rfl (by first | (simp only [Nat.zero_add, Nat.reduceAdd, Nat.reduceMul, Nat.zero_mul, Nat.mul_one, Nat.add_zero]; exact rfl) | exact rfl)) ?_; refine LR rfl (Jc rfl (kn 0 rfl) rfl rfl) ?_; refine Jb rfl ?_
                    refine LR rfl (JB (j := k) rfl hyg rfl rfl rfl (by first | rfl | omega) (by omega)) ?_; refine LR rfl (Qy (fun q hq => Or.inl (List.mem_cons_of_mem _ (List.mem_cons_of_mem _ hq))) rfl hyg (by omega) rfl (show (KN yb.txs)[k]? = some (Jq (We t.er)) from by rw [hyt]; unfold KN W5; rw [List.getElem?_map, List.getElem?_map, htk]; rfl)) ?_; refine Ka rfl rfl rfl (enters_of Tryz.func12 (by kernel_rfl) rfl) (xq htin.ok htk3 htch) oN fun z => ?_
                    obtain ⟨zx, zL, zin, zer⟩ := z
                    refine Kv List.perm_append_comm ?_; refine Jb rfl (LR rfl (Jf rfl rfl) (LR rfl (Jf rfl rfl) ?_)); refine LN rfl fun r20 => ?_; refine Js (k := 0) (n := 36) (ys := zx.cells) rfl rfl rfl rfl rfl rfl rfl rfl rfl ?_; refine Jb rfl ?_; refine nK hK72 ?_; refine sQ fun _ hK73 => ?_; refine Qs 12 (by kernel_rfl) (by kernel_rfl) ?_; refine JD rfl rfl rfl (Jm (xs := zx.cells) (n := 36) rfl (kn 0 rfl) rfl rfl rfl) ?_
                    refine JD rfl rfl rfl (Ja rfl rfl (by first | (simp only [Nat.zero_add, Nat.reduceAdd, Nat.reduceMul, Nat.zero_mul, Nat.mul_one, Nat.add_zero]; exact rfl) | exact rfl)) ?_; refine JD rfl rfl rfl (Jc rfl (kn 2 rfl) rfl rfl) ?_; refine JD rfl rfl rfl (JG rfl) ?_
                    refine JD rfl rfl rfl (JB (j := i) rfl hsg rfl rfl rfl (by first | rfl | omega) (by omega)) ?_; refine JD rfl rfl rfl (Ja (off' := Wj s.p + (i * 2 + 1)) rfl rfl (by show Wj s.p + i * 2 + 1 = _; omega)) ?_; refine JD rfl rfl rfl (KR BlL.len (k := 1) (v := Ky b.txs.length b.p) oR rfl hsg hbi rfl rfl) ?_; refine JD rfl rfl rfl (JG rfl) ?_
                    refine JD rfl rfl rfl (JB (j := k) rfl hbg rfl rfl rfl (by first | rfl | omega) (by omega)) ?_; refine JD rfl rfl rfl (Kt TxL.len oR rfl hbg htk rfl rfl) ?_; refine jg rfl rfl rfl (enters_of Tryz.func13 (by kernel_rfl) rfl) (Jjn (R := zL ++ R) (zin.mono fun q hq => List.mem_append_left _ hq) (htin.mono fun q hq => List.mem_append_right _ hq) zer (by have h := congrArg TxE.auths zer; exact h.trans (jB (t := t.er) htk3 htch).au)) (fun q hq => (List.mem_append.1 hq).elim (fun h => Or.inl (List.mem_cons_of_mem _ (List.mem_append_right _ h))) Or.inr) ?_; refine JD rfl rfl rfl (JY rfl) ?_; refine Q8 ?_; refine nK hK73 ?_; refine sR fun _ hK74 => ?_; refine Jb rfl (J2 rfl ?_); refine Jb rfl (Jb rfl ?_); refine J2 rfl (LR rfl (J5 rfl rfl) ?_); refine nK hK74 ?_; refine Jl rfl (fun h77 => ?_) (fun h77 => ?_)
                    exact absurd h77 ((by decide))
                    · try simp only [ZZ] at h77
                      refine Jg (Jo (hK71 ?_)); refine Je (Jb rfl ?_)
                      refine J2 rfl ?_; refine JA (show _ = Value.int .i64 ((k + 1 : Nat) : Int) from by rw [wrap_i64 (by omega) (by omega)]; congr 1 <;> omega) ?_; refine Jb rfl (Jt (JU ?_)); exact JN (k + 1) (by omega) (by omega) (lK rfl) (.cons _ (List.sublist_append_left _ _)) (fun _ _ h => h)
                  · refine JL (Jn ?_); refine Jn (J8 ?_); refine Jo (hK23 ?_); refine Je (Jb rfl ?_)
                    refine J2 rfl ?_; refine JA (show _ = Value.int .i64 ((i + 1 : Nat) : Int) from by rw [wrap_i64 (by omega) (by omega)]; congr 1 <;> omega) ?_; refine Jb rfl (Jt (JU ?_))
                    exact JN (i + 1) (by omega) (by omega) (lK rfl) (by first | exact List.Sublist.refl _ | exact .cons _ (.cons_cons _ (List.nil_sublist _)) | exact .cons _ (.cons _ (.cons_cons _ (List.nil_sublist _)))) (fun _ _ h => h)
                skip)
             skip)
        refine JL (Jn ?_); refine Jn (J8 (hK18 ?_)); refine sR fun _ hK78 => ?_; refine Jb rfl (Jb rfl ?_); refine nK hK78 ?_; refine Jd ?_; refine pT rfl rfl rfl fun w1 hs1 => ?_; exact ⟨rfl, hs1.keep⟩
        skip)
     skip)
def Va (fs : Array Field) (i : Nat) : Option (TypeId × Nat) := (fs[i]?).map (fun f => (f.type, f.offset))
structure SpTy (P : Program) (tI tN tS tW tu tB tL tX tXS tU tUS tT tTS tK tKS tP : Nat) (fx fu ft fk fp : Array Field) : Prop where
  I : P.underlying tI = some (.int .u64)
  Ic : P.cellsOf tI = 1
  N : P.underlying tN = some (.int .i64)
  Nc : P.cellsOf tN = 1
  S : P.underlying tS = some .string
  Sc : P.cellsOf tS = 1
  W : P.underlying tW = some (.array 4 tu)
  Wc : P.cellsOf tW = 4
  u : P.underlying tu = some (.int .u64)
  uc : P.cellsOf tu = 1
  B : P.underlying tB = some .bool
  Bc : P.cellsOf tB = 1
  L : P.underlying tL = some (.slice tS)
  Lc : P.cellsOf tL = 1
  X : P.underlying tX = some (.struct fx)
  Xc : P.cellsOf tX = 2
  x0 : Va fx 0 = some (tS, 0)
  x1 : Va fx 1 = some (tL, 1)
  XS : P.underlying tXS = some (.slice tX)
  XSc : P.cellsOf tXS = 1
  U : P.underlying tU = some (.struct fu)
  Uc : P.cellsOf tU = 12
  u0 : Va fu 0 = some (tI, 0)
  u1 : Va fu 1 = some (tS, 1)
  u2 : Va fu 2 = some (tI, 2)
  u3 : Va fu 3 = some (tI, 3)
  u4 : Va fu 4 = some (tW, 4)
  u5 : Va fu 5 = some (tW, 8)
  US : P.underlying tUS = some (.slice tU)
  USc : P.cellsOf tUS = 1
  T : P.underlying tT = some (.struct ft)
  Tc : P.cellsOf tT = 36
  t0 : Va ft 0 = some (tN, 0)
  t1 : Va ft 1 = some (tI, 1)
  t2 : Va ft 2 = some (tI, 2)
  t3 : Va ft 3 = some (tW, 3)
  t4 : Va ft 4 = some (tW, 7)
  t5 : Va ft 5 = some (tI, 11)
  t6 : Va ft 6 = some (tS, 12)
  t7 : Va ft 7 = some (tW, 13)
  t8 : Va ft 8 = some (tS, 17)
  t9 : Va ft 9 = some (tXS, 18)
  t10 : Va ft 10 = some (tUS, 19)
  t11 : Va ft 11 = some (tI, 20)
  t12 : Va ft 12 = some (tW, 21)
  t13 : Va ft 13 = some (tW, 25)
  t14 : Va ft 14 = some (tS, 29)
  t15 : Va ft 15 = some (tS, 30)
  t16 : Va ft 16 = some (tW, 31)
  t17 : Va ft 17 = some (tB, 35)
  TS : P.underlying tTS = some (.slice tT)
  TSc : P.cellsOf tTS = 1
  K : P.underlying tK = some (.struct fk)
  Kc : P.cellsOf tK = 2
  k0 : Va fk 0 = some (tB, 0)
  k1 : Va fk 1 = some (tTS, 1)
  KS : P.underlying tKS = some (.slice tK)
  KSc : P.cellsOf tKS = 1
  P_ : P.underlying tP = some (.struct fp)
  Pc : P.cellsOf tP = 5
  p0 : Va fp 0 = some (tI, 0)
  p1 : Va fp 1 = some (tI, 1)
  p2 : Va fp 2 = some (tS, 2)
  p3 : Va fp 3 = some (tS, 3)
  p4 : Va fp 4 = some (tKS, 4)
section
variable {H : Type} {enc : TypeId × Value → H} {P : Program} {w : World} {base : Nat} {sp : Nat → Bool} {held : Bool} {fuel : Nat} {cs : List Value} {x : DataW H × List MemPlace}
variable {tI tN tS tW tu tB tL tX tXS tU tUS tT tTS tK tKS tP : Nat} {fx fu ft fk fp : Array Field} (Y : SpTy P tI tN tS tW tu tB tL tX tXS tU tUS tT tTS tK tKS tP fx fu ft fk fp)
include Y
theorem yP (h : DataW.trod enc P w base sp held fuel tB cs = some x) : ∃ b : Bool, cs = [.bool b] := by
 obtain ⟨z, rfl, _⟩ := DataW.trod_bool Y.B h
 exact ⟨z, rfl⟩
theorem Jbn : ∀ l : List BS, l.flatMap (fun s => [Jq s]) = KN l
 | [] => rfl
 | x :: l => by rw [List.flatMap_cons, Jbn l]; rfl
theorem Jkc (h : DataW.trod enc P w base sp held fuel tX cs = some x) : ∃ a : AxL, cs = a.cells ∧ a.In (jh w) := by
 have hl := WC Y.X Y.Xc h
 match cs, hl with
 | [c0, c1], _ =>
  obtain ⟨n0, y0, _, e0⟩ := JR Y.X Y.x0 Y.Sc h
  obtain ⟨n1, y1, _, e1⟩ := JR Y.X Y.x1 Y.Lc h
  obtain ⟨s, es, hs⟩ := Vv Y.S e0
  obtain ⟨l, p, ep, hsg, hlen, hok⟩ := VC (f := fun s : BS => [Jq s]) (ok := fun s => s.length ≤ jN) (by decide) (fun _ => rfl) Y.L Y.Sc (fun m hm cs x hx => Vv Y.S hx) e1
  obtain rfl : c0 = Jq s := by simpa using es
  obtain rfl : c1 = Ky l.length p := by simpa using ep
  rw [Jbn Y] at hsg; exact ⟨⟨s, p, l⟩, rfl, ⟨hs, hlen, hsg, hok⟩⟩
theorem Jkd (h : DataW.trod enc P w base sp held fuel tU cs = some x) : ∃ a : AuE, cs = a.cells ∧ (a.ok ∧ a.addr.length ≤ jN) := by
 have hl := WC Y.U Y.Uc h
 match cs, hl with
 | [c0, c1, c2, c3, c4, c5, c6, c7, c8, c9, c10, c11], _ =>
  obtain ⟨n0, y0, _, e0⟩ := JR Y.U Y.u0 Y.Ic h
  obtain ⟨n1, y1, _, e1⟩ := JR Y.U Y.u1 Y.Sc h
  obtain ⟨n2, y2, _, e2⟩ := JR Y.U Y.u2 Y.Ic h
  obtain ⟨n3, y3, _, e3⟩ := JR Y.U Y.u3 Y.Ic h
  obtain ⟨n4, y4, _, e4⟩ := JR Y.U Y.u4 Y.Wc h
  obtain ⟨n5, y5, _, e5⟩ := JR Y.U Y.u5 Y.Wc h
  obtain ⟨x0, f0, g0⟩ := Vu Y.I e0
  obtain ⟨x1, f1, g1⟩ := Vv Y.S e1
  obtain ⟨x2, f2, g2⟩ := Vu Y.I e2
  obtain ⟨x3, f3, g3⟩ := Vu Y.I e3
  obtain ⟨u0, u1, u2, u3, f4, k0, k1, k2, k3⟩ := Wo Y.W Y.Wc Y.uc Y.u e4
  obtain ⟨v0, v1, v2, v3, f5, l0, l1, l2, l3⟩ := Wo Y.W Y.Wc Y.uc Y.u e5
  obtain rfl : c0 = uV x0 := by simpa using f0
  obtain rfl : c1 = Jq x1 := by simpa using f1
  obtain rfl : c2 = uV x2 := by simpa using f2
  obtain rfl : c3 = uV x3 := by simpa using f3
  obtain ⟨rfl, rfl, rfl, rfl⟩ : c4 = uV u0 ∧ c5 = uV u1 ∧ c6 = uV u2 ∧ c7 = uV u3 := by simpa using f4
  obtain ⟨rfl, rfl, rfl, rfl⟩ : c8 = uV v0 ∧ c9 = uV v1 ∧ c10 = uV v2 ∧ c11 = uV v3 := by simpa using f5
  exact ⟨⟨x0, x1, x2, x3, ⟨u0, u1, u2, u3⟩, ⟨v0, v1, v2, v3⟩⟩, rfl, ⟨⟨g0, g2, g3, ⟨k0, k1, k2, k3⟩, ⟨l0, l1, l2, l3⟩⟩, g1⟩⟩
theorem Jke (h : DataW.trod enc P w base sp held fuel tT cs = some x) : ∃ t : TxL, cs = t.cells ∧ t.In (jh w) := by
 have hl := WC Y.T Y.Tc h
 match cs, hl with
 | c0 :: c1 :: c2 :: c3 :: c4 :: c5 :: c6 :: c7 :: c8 :: c9 :: c10 :: c11 :: [c12, c13, c14, c15, c16, c17, c18, c19, c20, c21, c22, c23, c24, c25, c26, c27, c28, c29, c30, c31, c32, c33, c34, c35], _ =>
  obtain ⟨n0, y0, _, e0⟩ := JR Y.T Y.t0 Y.Nc h
  obtain ⟨n1, y1, _, e1⟩ := JR Y.T Y.t1 Y.Ic h
  obtain ⟨n2, y2, _, e2⟩ := JR Y.T Y.t2 Y.Ic h
  obtain ⟨n3, y3, _, e3⟩ := JR Y.T Y.t3 Y.Wc h
  obtain ⟨n4, y4, _, e4⟩ := JR Y.T Y.t4 Y.Wc h
  obtain ⟨n5, y5, _, e5⟩ := JR Y.T Y.t5 Y.Ic h
  obtain ⟨n6, y6, _, e6⟩ := JR Y.T Y.t6 Y.Sc h
  obtain ⟨n7, y7, _, e7⟩ := JR Y.T Y.t7 Y.Wc h
  obtain ⟨n8, y8, _, e8⟩ := JR Y.T Y.t8 Y.Sc h
  obtain ⟨n9, y9, _, e9⟩ := JR Y.T Y.t9 Y.XSc h
  obtain ⟨n10, y10, _, e10⟩ := JR Y.T Y.t10 Y.USc h
  obtain ⟨n11, y11, _, e11⟩ := JR Y.T Y.t11 Y.Ic h
  obtain ⟨n12, y12, _, e12⟩ := JR Y.T Y.t12 Y.Wc h
  obtain ⟨n13, y13, _, e13⟩ := JR Y.T Y.t13 Y.Wc h
  obtain ⟨n14, y14, _, e14⟩ := JR Y.T Y.t14 Y.Sc h
  obtain ⟨n15, y15, _, e15⟩ := JR Y.T Y.t15 Y.Sc h
  obtain ⟨n16, y16, _, e16⟩ := JR Y.T Y.t16 Y.Wc h
  obtain ⟨n17, y17, _, e17⟩ := JR Y.T Y.t17 Y.Bc h
  obtain ⟨z0, f0, g0⟩ := Jd9 Y.N e0
  obtain rfl : c0 = .int .i64 z0 := by simpa using f0
  obtain ⟨z1, f1, g1⟩ := Vu Y.I e1
  obtain rfl : c1 = uV z1 := by simpa using f1
  obtain ⟨z2, f2, g2⟩ := Vu Y.I e2
  obtain rfl : c2 = uV z2 := by simpa using f2
  obtain ⟨a3, b3, d3, g3, f3, p3, q3, r3, s3⟩ := Wo Y.W Y.Wc Y.uc Y.u e3
  obtain ⟨rfl, rfl, rfl, rfl⟩ : c3 = uV a3 ∧ c4 = uV b3 ∧ c5 = uV d3 ∧ c6 = uV g3 := by simpa using f3
  obtain ⟨a4, b4, d4, g4, f4, p4, q4, r4, s4⟩ := Wo Y.W Y.Wc Y.uc Y.u e4
  obtain ⟨rfl, rfl, rfl, rfl⟩ : c7 = uV a4 ∧ c8 = uV b4 ∧ c9 = uV d4 ∧ c10 = uV g4 := by simpa using f4
  obtain ⟨z5, f5, g5⟩ := Vu Y.I e5
  obtain rfl : c11 = uV z5 := by simpa using f5
  obtain ⟨z6, f6, g6⟩ := Vv Y.S e6
  obtain rfl : c12 = Jq z6 := by simpa using f6
  obtain ⟨a7, b7, d7, g7, f7, p7, q7, r7, s7⟩ := Wo Y.W Y.Wc Y.uc Y.u e7
  obtain ⟨rfl, rfl, rfl, rfl⟩ : c13 = uV a7 ∧ c14 = uV b7 ∧ c15 = uV d7 ∧ c16 = uV g7 := by simpa using f7
  obtain ⟨z8, f8, g8⟩ := Vv Y.S e8
  obtain rfl : c17 = Jq z8 := by simpa using f8
  obtain ⟨xl, xp, xe, xsg, xlen, xok⟩ := VC (f := AxL.cells) (ok := AxL.In (jh w)) (by decide) AxL.len Y.XS Y.Xc (fun m hm cs x hx => Jkc Y hx) e9
  obtain rfl : c18 = Ky xl.length xp := by simpa using xe
  obtain ⟨ul, up, ue, usg, ulen, uok⟩ := VC (f := AuE.cells) (ok := fun a : AuE => a.ok ∧ a.addr.length ≤ jN) (by decide) AuE.len Y.US Y.Uc (fun m hm cs x hx => Jkd Y hx) e10
  obtain rfl : c19 = Ky ul.length up := by simpa using ue
  obtain ⟨z11, f11, g11⟩ := Vu Y.I e11
  obtain rfl : c20 = uV z11 := by simpa using f11
  obtain ⟨a12, b12, d12, g12, f12, p12, q12, r12, s12⟩ := Wo Y.W Y.Wc Y.uc Y.u e12
  obtain ⟨rfl, rfl, rfl, rfl⟩ : c21 = uV a12 ∧ c22 = uV b12 ∧ c23 = uV d12 ∧ c24 = uV g12 := by simpa using f12
  obtain ⟨a13, b13, d13, g13, f13, p13, q13, r13, s13⟩ := Wo Y.W Y.Wc Y.uc Y.u e13
  obtain ⟨rfl, rfl, rfl, rfl⟩ : c25 = uV a13 ∧ c26 = uV b13 ∧ c27 = uV d13 ∧ c28 = uV g13 := by simpa using f13
  obtain ⟨z14, f14, g14⟩ := Vv Y.S e14
  obtain rfl : c29 = Jq z14 := by simpa using f14
  obtain ⟨z15, f15, g15⟩ := Vv Y.S e15
  obtain rfl : c30 = Jq z15 := by simpa using f15
  obtain ⟨a16, b16, d16, g16, f16, p16, q16, r16, s16⟩ := Wo Y.W Y.Wc Y.uc Y.u e16
  obtain ⟨rfl, rfl, rfl, rfl⟩ : c31 = uV a16 ∧ c32 = uV b16 ∧ c33 = uV d16 ∧ c34 = uV g16 := by simpa using f16
  obtain ⟨z17, f17⟩ := yP Y e17
  obtain rfl : c35 = .bool z17 := by simpa using f17
  exact ⟨⟨z0, z1, z2, ⟨a3, b3, d3, g3⟩, ⟨a4, b4, d4, g4⟩, z5, z6, ⟨a7, b7, d7, g7⟩, z8, xp, xl, up, ul, z11, ⟨a12, b12, d12, g12⟩, ⟨a13, b13, d13, g13⟩, z14, z15, ⟨a16, b16, d16, g16⟩, z17⟩, rfl, ⟨⟨g1, g2, ⟨p3, q3, r3, s3⟩, ⟨p4, q4, r4, s4⟩, g5, ⟨p7, q7, r7, s7⟩, (fun a ha => (uok a ha).1), g11, ⟨p12, q12, r12, s12⟩, ⟨p13, q13, r13, s13⟩, ⟨p16, q16, r16, s16⟩⟩, g6, g8, g14, g15, xlen, xsg, xok, ulen, usg, fun a ha => (uok a ha).2⟩⟩
theorem Jkf (h : DataW.trod enc P w base sp held fuel tK cs = some x) : ∃ b : BlL, cs = b.cells ∧ b.In (jh w) := by
 have hl := WC Y.K Y.Kc h
 match cs, hl with
 | [c0, c1], _ =>
  obtain ⟨n0, y0, _, e0⟩ := JR Y.K Y.k0 Y.Bc h
  obtain ⟨n1, y1, _, e1⟩ := JR Y.K Y.k1 Y.TSc h
  obtain ⟨z, f0⟩ := yP Y e0
  obtain ⟨l, p, ep, hsg, hlen, hok⟩ := VC (f := TxL.cells) (ok := TxL.In (jh w)) (by decide) TxL.len Y.TS Y.Tc (fun m hm cs x hx => Jke Y hx) e1
  obtain rfl : c0 = .bool z := by simpa using f0
  obtain rfl : c1 = Ky l.length p := by simpa using ep
  exact ⟨⟨z, p, l⟩, rfl, ⟨hlen, hsg, hok⟩⟩
theorem open_span {r : Reach} {b0 : Nat} {v : Value} {d : DataW H} {ps : List MemPlace} (hval : Value.okWide P w r b0 tP v) (hd : DataW.Trod enc P w base sp held tP v d ps) : ∃ s : SpL, v = s.val ∧ s.In (jh w) := by
 obtain ⟨fuel, h⟩ := hd
 have hl := WC Y.P_ Y.Pc h
 generalize hcs : v.cells.toList = cs at h hl
 match cs, hl with
 | [c0, c1, c2, c3, c4], _ =>
  obtain ⟨n0, y0, _, e0⟩ := JR Y.P_ Y.p0 Y.Ic h
  obtain ⟨n1, y1, _, e1⟩ := JR Y.P_ Y.p1 Y.Ic h
  obtain ⟨n2, y2, _, e2⟩ := JR Y.P_ Y.p2 Y.Sc h
  obtain ⟨n3, y3, _, e3⟩ := JR Y.P_ Y.p3 Y.Sc h
  obtain ⟨n4, y4, _, e4⟩ := JR Y.P_ Y.p4 Y.KSc h
  obtain ⟨z0, f0, g0⟩ := Vu Y.I e0
  obtain ⟨z1, f1, g1⟩ := Vu Y.I e1
  obtain ⟨z2, f2, g2⟩ := Vv Y.S e2
  obtain ⟨z3, f3, g3⟩ := Vv Y.S e3
  obtain ⟨l, p, ep, hsg, hlen, hok⟩ := VC (f := BlL.cells) (ok := BlL.In (jh w)) (by decide) BlL.len Y.KS Y.Kc (fun m hm cs x hx => Jkf Y hx) e4
  obtain rfl : c0 = uV z0 := by simpa using f0
  obtain rfl : c1 = uV z1 := by simpa using f1
  obtain rfl : c2 = Jq z2 := by simpa using f2
  obtain rfl : c3 = Jq z3 := by simpa using f3
  obtain rfl : c4 = Ky l.length p := by simpa using ep
  exact ⟨⟨z0, z1, z2, z3, p, l⟩, wA Y.P_ hval hcs, ⟨g0, g1, g2, g3, hlen, hsg, hok⟩⟩
end
end Go.Proofs.YtckoepmdmhdepaaGreatDoor
