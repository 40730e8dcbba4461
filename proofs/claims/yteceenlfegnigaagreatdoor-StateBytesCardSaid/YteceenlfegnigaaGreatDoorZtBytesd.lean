import Derived.Test.YteceenlfegnigaaGreatDoorZtBytesc
set_option maxRecDepth 100000
namespace Go.Proofs.YteceenlfegnigaaGreatDoor
set_option linter.all false
open Go.SL Go.RowKit Go.Shelf
variable {af : Array Edge} {cs : Array Value} {root s : BS} {g : FuncId} {dp : Int} {L L' R Rl : Jp} {xs : List (BS × BS)} {a : List Nat} {sp vs : List Value} {B N b c cap d e i j m r rb rv sz : Nat} {f y : Operand} {gd : Option (Nat × Bool)} {pb pi : Pl} {ps : String} {t x : Ty} {q : Ty × Nat × Nat} {α : Type} {ty : TypeId} {z : Value} {v : Vl} {row : Vn} {w : World} {X : XP}
def WE (r : Nat) (v : Vl) : Nat × Obj := (r, .cells v.cells.toArray 81 (0, 0))
def zVl : Vl := .mk 0 0 0 0 [] none [] none 0
def clV (f : FuncId) (r : Nat) : Value := .func (.func f) #[] #[.pointer (some ⟨r, 0, none⟩)]
def Jez (f : FuncId) (v out : Vl) : Prop := ∀ r1 rr : Nat, r1 ≠ rr → PureMR Tryz.prog f [.pointer (some ⟨rr, 0, none⟩), .pointer (some ⟨r1, 0, none⟩)].toArray (.tuple #[]) rr (WE rr zVl).2 (WE rr out).2 [WE r1 v]
theorem Jq3 (a b c d : Nat) (bits : List Bool) (pb : Pl) (items : List Vl) (pi : Pl) (pick : Int) : Jez 251 (.mk a b c d bits pb items pi pick) (.mk a b c d [] none [] none 0) := fun r1 rr hne => by
 refine X9 (fun p hp => by rw [List.mem_singleton.1 hp]; exact hne) Tryz.func251 rfl rfl fun w => JN (Jt 3 rfl (LR rfl (Jq (vs := [_, _, _, _]) rfl (JG (k := 0) rfl) rfl rfl rfl rfl) (LS 2 [] rfl rfl ?_)))
 refine LT 0 rfl rfl (J0 1 rfl (QK rfl rfl .nil (fun w1 hs1 => ?_))); exact ⟨rfl, _, List.mem_cons_self, hs1⟩
theorem Jv2 (a b c d : Nat) (bits : List Bool) (pb : Pl) (items : List Vl) (pi : Pl) (pick : Int) : Jez 254 (.mk a b c d bits pb items pi pick) (.mk 0 0 0 0 [] none items pi 0) := fun r1 rr hne => by
 refine X9 (fun p hp => by rw [List.mem_singleton.1 hp]; exact hne) Tryz.func254 rfl rfl fun w => JN (Jt 3 rfl (LR rfl (Jd rfl (JG (k := 0) rfl) rfl rfl) (LS 2 [] rfl rfl ?_)))
 refine LT 0 rfl rfl (J0 1 rfl (QK rfl rfl .nil (fun w1 hs1 => ?_))); exact ⟨rfl, _, List.mem_cons_self, hs1⟩
theorem Jzi (a b c d : Nat) (bits : List Bool) (pb : Pl) (items : List Vl) (pi : Pl) (pick : Int) : Jez 255 (.mk a b c d bits pb items pi pick) (.mk 0 0 0 0 bits pb [] none 0) := fun r1 rr hne => by
 refine X9 (fun p hp => by rw [List.mem_singleton.1 hp]; exact hne) Tryz.func255 rfl rfl fun w => JN (Jt 3 rfl (LR rfl (Jd rfl (JG (k := 0) rfl) rfl rfl) (LS 2 [] rfl rfl ?_)))
 refine LT 0 rfl rfl (J0 1 rfl (QK rfl rfl .nil (fun w1 hs1 => ?_))); exact ⟨rfl, _, List.mem_cons_self, hs1⟩
theorem Jzj (a b c d : Nat) (bits : List Bool) (pb : Pl) (items : List Vl) (pi : Pl) (pick : Int) : Jez 256 (.mk a b c d bits pb items pi pick) (.mk 0 0 0 0 [] none items pi pick) := fun r1 rr hne => by
 refine X9 (fun p hp => by rw [List.mem_singleton.1 hp]; exact hne) Tryz.func256 rfl rfl fun w => JN ?_
 refine JD [] [(0, .pure), (1, .pure), (2, .pure), (3, .pure), (4, .pure), (5, .pure), (6, .pure), (7, .pure), (8, .turn), (9, .pure), (10, .pure), (11, .turn)] 12 [0, 1, 2, 3, 4, 5, 6, 7, 8, 9, 10, 11] m5 m5 m6 (Jk (k := 0) rfl rfl rfl rfl rfl (fun _ hS => (Jg rfl)) (Jk (k := 1) rfl rfl rfl rfl rfl (fun _ hS => (Jg rfl)) ?_))
 refine Jk (k := 2) rfl rfl rfl rfl rfl (fun _ hS => (Jw rfl rfl rfl)) (Jk (k := 3) rfl rfl rfl rfl rfl (fun _ hS => (Jd rfl (JG (k := 0) rfl) rfl rfl)) ?_)
 refine Jk (k := 4) rfl rfl rfl rfl rfl (fun _ hS => (Jw rfl rfl rfl)) (Jk (k := 5) rfl rfl rfl rfl rfl (fun _ hS => (Jd rfl (JG (k := 0) rfl) rfl rfl)) (Jk (k := 6) rfl rfl rfl rfl rfl (fun _ hS => (Ju rfl rfl rfl)) ?_))
 refine Jk (k := 7) rfl rfl rfl rfl rfl (fun _ hS => (Jw rfl rfl rfl)) ?_
 refine Xk (k := 8) (q := 0) rfl rfl rfl rfl rfl rfl rfl rfl rfl mi mj m6 (Jk (k := 9) rfl rfl rfl rfl rfl (fun _ hS => (Ju rfl rfl rfl)) ?_)
 refine Jk (k := 10) rfl rfl rfl rfl rfl (fun _ hS => (Jw rfl rfl rfl)) ?_
 refine Xk (k := 11) (q := 0) rfl rfl rfl rfl rfl rfl rfl rfl rfl mi mj m6 (Kc (J0 1 rfl (QK rfl rfl .nil (fun w1 hs1 => ?_)))); exact ⟨rfl, _, List.mem_cons_self, hs1⟩
theorem Jca  {out : Vl} {f : FuncId} (ef : Enters Tryz.prog f) (hv : v.In R) (ho : out.In R) (hk : Jez f v out) (hr : WE rv v ∈ R) : PureR Tryz.prog 250 [v.val, clV f rv].toArray (.bool (XR v out)) R := by
 have hsm := Jzg hv out ho
 obtain ⟨a, b, c, d, bits, pb, items, pi, pick⟩ := v
 obtain ⟨a', b', c', d', bits', pb', items', pi', pick'⟩ := out
 refine Ja Tryz.func250 rfl rfl fun w => Nl fun r1 => ?_; refine kB ?_; refine LN rfl fun r2 => kB ?_; refine Jlt (k := 0) rfl rfl rfl ef rfl (fun hne => hk rv r2 (hne _ List.mem_cons_self)) (fun q hq => by rw [List.mem_singleton.1 hq]; exact hr) rfl (XO 6 [1, 0] rfl rfl (Jc rfl rfl rfl (enters_of Tryz.func265 m5 rfl) hsm oR ?_)); exact NS
theorem wM  {a : Nat} {bits : List Bool} {items : List Vl} {pick : Int} (h : Vl.In R (.mk a b c d bits pb items pi pick)) : Vl.In R (.mk a b c d [] none [] none 0) ∧ Vl.In R (.mk 0 0 0 0 [] none items pi 0) ∧ Vl.In R (.mk 0 0 0 0 bits pb [] none 0) ∧ Vl.In R (.mk 0 0 0 0 [] none items pi pick) := by
 cases h with
 | mk ha hb hc hd hlb hsb hl hs hp hi =>
 have z : XD 0 := by unfold XD; omega
 have i0 : Zy 0 := by unfold Zy; omega
 refine ⟨.mk ha hb hc hd mh rfl mh rfl i0 mh, .mk z z z z mh rfl hl hs i0 hi, .mk z z z z hlb hsb mh rfl i0 mh, .mk z z z z mh rfl hl hs hp hi⟩
theorem zu (l : List Vl) : Wy l l = true := WY.2 ⟨rfl, fun i x y hx hy => by rw [hx] at hy; cases hy; exact Jg2 x⟩
theorem Jab (l : List Vl) : Wy l [] = decide (l.length = 0) := by cases l <;> simp [Wy]
theorem Je0 {a : Nat} {bits : List Bool} {items : List Vl} {pick : Int} : XR (.mk a b c d bits pb items pi pick) (.mk a b c d [] none [] none 0) = Vo (.mk a b c d bits pb items pi pick) true false false false := by
 rw [ZR, Q0, Jab]
 by_cases h1 : bits = [] <;> by_cases h2 : items = [] <;> by_cases h3 : pick = 0 <;> simp [h1, h2, h3]
theorem Jhz {a : Nat} {bits : List Bool} {items : List Vl} {pick : Int} : XR (.mk a b c d bits pb items pi pick) (.mk 0 0 0 0 [] none items pi 0) = Vo (.mk a b c d bits pb items pi pick) false false true false := by
 rw [ZR, Q0, zu]
 by_cases h1 : bits = [] <;> by_cases h3 : pick = 0 <;> simp [h1, h3]
theorem Jmq {a : Nat} {bits : List Bool} {items : List Vl} {pick : Int} : XR (.mk a b c d bits pb items pi pick) (.mk 0 0 0 0 bits pb [] none 0) = Vo (.mk a b c d bits pb items pi pick) false true false false := by
 rw [ZR, Q0, Jab]
 by_cases h2 : items = [] <;> by_cases h3 : pick = 0 <;> simp [h2, h3]
theorem Jmr {a : Nat} {bits : List Bool} {items : List Vl} {pick : Int} : XR (.mk a b c d bits pb items pi pick) (.mk 0 0 0 0 [] none items pi pick) = Vo (.mk a b c d bits pb items pi pick) false false true true := by
 rw [ZR, Q0, zu]
 by_cases h1 : bits = [] <;> simp [h1]
theorem Xp (hv : v.In R) : PureR Tryz.prog 200 [v.val].toArray (.bool (Vo v true false false false)) R := by
 obtain ⟨a, b, c, d, bits, pb, items, pi, pick⟩ := v
 have hb4 := wM hv
 refine Ja Tryz.func200 rfl rfl fun w => JN ?_; rw [← Je0 (pb := pb) (pi := pi)]; refine HJ fun r1 => ?_
 refine Jc (Rl := WE r1 (.mk a b c d bits pb items pi pick) :: R) rfl rfl rfl Jj4 (Jca (enters_of Tryz.func251 m5 rfl) (hv.mono fun q hq => List.mem_cons_of_mem _ hq) (hb4.1.mono fun q hq => List.mem_cons_of_mem _ hq) (Jq3 a b c d bits pb items pi pick) List.mem_cons_self) (fun q hq => by rcases List.mem_cons.1 hq with rfl | hq; exact .inl List.mem_cons_self; exact .inr hq) ?_; exact NS
theorem Yu (hv : v.In R) : PureR Tryz.prog 212 [v.val].toArray (.bool (Vo v false false true false)) R := by
 obtain ⟨a, b, c, d, bits, pb, items, pi, pick⟩ := v
 have hb4 := wM hv
 refine Ja Tryz.func212 rfl rfl fun w => JN ?_; rw [← Jhz (pb := pb) (pi := pi)]; refine HJ fun r1 => ?_
 refine Jc (Rl := WE r1 (.mk a b c d bits pb items pi pick) :: R) rfl rfl rfl Jj4 (Jca (enters_of Tryz.func254 m5 rfl) (hv.mono fun q hq => List.mem_cons_of_mem _ hq) (hb4.2.1.mono fun q hq => List.mem_cons_of_mem _ hq) (Jv2 a b c d bits pb items pi pick) List.mem_cons_self) (fun q hq => by rcases List.mem_cons.1 hq with rfl | hq; exact .inl List.mem_cons_self; exact .inr hq) ?_; exact NS
theorem ZW (hv : v.In R) : PureR Tryz.prog 219 [v.val].toArray (.bool (Vo v false true false false)) R := by
 obtain ⟨a, b, c, d, bits, pb, items, pi, pick⟩ := v
 have hb4 := wM hv
 refine Ja Tryz.func219 rfl rfl fun w => JN ?_; rw [← Jmq (pb := pb) (pi := pi)]; refine HJ fun r1 => ?_
 refine Jc (Rl := WE r1 (.mk a b c d bits pb items pi pick) :: R) rfl rfl rfl Jj4 (Jca (enters_of Tryz.func255 m5 rfl) (hv.mono fun q hq => List.mem_cons_of_mem _ hq) (hb4.2.2.1.mono fun q hq => List.mem_cons_of_mem _ hq) (Jzi a b c d bits pb items pi pick) List.mem_cons_self) (fun q hq => by rcases List.mem_cons.1 hq with rfl | hq; exact .inl List.mem_cons_self; exact .inr hq) ?_; exact NS
theorem ZX (hv : v.In R) : PureR Tryz.prog 228 [v.val].toArray (.bool (Vo v false false true true)) R := by
 obtain ⟨a, b, c, d, bits, pb, items, pi, pick⟩ := v
 have hb4 := wM hv
 refine Ja Tryz.func228 rfl rfl fun w => JN ?_; rw [← Jmr (pb := pb) (pi := pi)]; refine HJ fun r1 => ?_
 refine Jc (Rl := WE r1 (.mk a b c d bits pb items pi pick) :: R) rfl rfl rfl Jj4 (Jca (enters_of Tryz.func256 m5 rfl) (hv.mono fun q hq => List.mem_cons_of_mem _ hq) (hb4.2.2.2.mono fun q hq => List.mem_cons_of_mem _ hq) (Jzj a b c d bits pb items pi pick) List.mem_cons_self) (fun q hq => by rcases List.mem_cons.1 hq with rfl | hq; exact .inl List.mem_cons_self; exact .inr hq) ?_; exact NS
theorem wd {l : List Nat} (hl : WOk l) : (!xH [1, 0, 0, 0] l) = (decide (l = [0, 0, 0, 0]) || decide (l = [1, 0, 0, 0])) := by
 have h0 : WOk [0, 0, 0, 0] := ⟨rfl, fun x hx => by simp at hx; omega⟩
 have h1 : WOk [1, 0, 0, 0] := ⟨rfl, fun x hx => by simp at hx; omega⟩
 rw [Jow h1 hl, show wN [1, 0, 0, 0] = 1 from rfl]
 by_cases e0 : l = [0, 0, 0, 0]
 ·subst e0; rfl
 by_cases e1 : l = [1, 0, 0, 0]
 ·subst e1; rfl
 have n0 : wN l ≠ 0 := fun h => e0 (Jot hl h0 h)
 have n1 : wN l ≠ 1 := fun h => e1 (Jot hl h1 h)
 simp [e0, e1]
 omega
theorem O_1 {n : Int} {p : Pl} {ins : List Ty} (ht : Ty.In R (.mk 1 n p ins)) (hv : v.In R) : PureR Tryz.prog 199 [Ty.val (.mk 1 n p ins), v.val].toArray (.bool (xx 1 n ins.length v)) R := by
 have hnu := Xp hv
 have hit := Yu hv
 have hbi := ZW hv
 have hpk := ZX hv
 cases ht with
 | mk hk hn hlt hst hit0 =>
 cases hv with
 | @mk a b c d bits pb items pi pick ha hb hc hd hlb hsb hl hs hp hi =>
 have hw : WOk [a, b, c, d] := ⟨rfl, fun x hx => by simp at hx; rcases hx with rfl | rfl | rfl | rfl <;> assumption⟩
 have hw1 : WOk [1, 0, 0, 0] := ⟨rfl, fun x hx => by simp at hx; omega⟩
 have hl1 := wd hw
 refine gw ?_; refine Ja Tryz.func199 rfl rfl fun w => NA fun r1 r2 => ?_; refine G5 ?_; refine JR 12 m5 m5 (Gm ?_); refine V8 rfl rfl rfl (enters_of Tryz.func200 m5 rfl) hnu oR (Nm ?_)
 refine jm 7 rfl (fun gb => ?_) (fun gb => ?_) <;> (try simp only [ZZ] at gb) <;> first | (refine Jb rfl rfl rfl (Jw rfl rfl rfl) ?_) | (refine JT rfl rfl rfl ?_)
 all_goals refine GI ?_
 all_goals first | (refine Qk rfl rfl rfl (enters_of Tryz.func201 m5 rfl) (q6 hw) ?_) | refine JT rfl rfl rfl ?_
 all_goals refine kX ?_
 all_goals (
  refine Jb rfl rfl rfl (JA rfl) (Kn (J0 1 rfl (X6 2 rfl ?_))); refine Nk fun w1 hs1 => ?_
  simp_all [J6]
  skip)
theorem O_2 {n : Int} {p : Pl} {ins : List Ty} (ht : Ty.In R (.mk 2 n p ins)) (hv : v.In R) : PureR Tryz.prog 205 [Ty.val (.mk 2 n p ins), v.val].toArray (.bool (xx 2 n ins.length v)) R := by
 have hnu := Xp hv
 have hit := Yu hv
 have hbi := ZW hv
 have hpk := ZX hv
 cases ht with
 | mk hk hn hlt hst hit0 =>
 cases hv with
 | @mk a b c d bits pb items pi pick ha hb hc hd hlb hsb hl hs hp hi =>
 have hw : WOk [a, b, c, d] := ⟨rfl, fun x hx => by simp at hx; rcases hx with rfl | rfl | rfl | rfl <;> assumption⟩
 have hw1 : WOk [1, 0, 0, 0] := ⟨rfl, fun x hx => by simp at hx; omega⟩
 have hl1 := wd hw
 refine gw ?_; refine Ja Tryz.func205 rfl rfl fun w => NA fun r1 r2 => ?_; refine G5 ?_; refine JR 10 m5 m5 (Gm ?_); refine V8 rfl rfl rfl (enters_of Tryz.func200 m5 rfl) hnu oR (Nm ?_)
 refine jm 7 rfl (fun gb => ?_) (fun gb => ?_) <;> (try simp only [ZZ] at gb) <;> first | (refine Qk rfl rfl rfl Jp9 (YH ..) ?_) | (refine JT rfl rfl rfl ?_)
 all_goals first | refine Jb rfl rfl rfl (Jw rfl rfl rfl) ?_ | refine JT rfl rfl rfl ?_
 all_goals refine GI ?_
 all_goals first | (refine Qk rfl rfl rfl (enters_of Tryz.func206 m5 rfl) (Jeu hw1 hw) ?_) | refine JT rfl rfl rfl ?_
 all_goals first | refine Jb rfl rfl rfl (Ju rfl rfl rfl) ?_ | refine JT rfl rfl rfl ?_
 all_goals refine D3 ?_
 all_goals (
  refine Jb rfl rfl rfl (JA rfl) (Kn (J0 1 rfl (X6 2 rfl ?_))); refine Nk fun w1 hs1 => ?_
  simp_all [J6]
  skip)
theorem O_3 {n : Int} {p : Pl} {ins : List Ty} (ht : Ty.In R (.mk 3 n p ins)) (hv : v.In R) : PureR Tryz.prog 211 [Ty.val (.mk 3 n p ins), v.val].toArray (.bool (xx 3 n ins.length v)) R := by
 have hnu := Xp hv
 have hit := Yu hv
 have hbi := ZW hv
 have hpk := ZX hv
 cases ht with
 | mk hk hn hlt hst hit0 =>
 cases hv with
 | @mk a b c d bits pb items pi pick ha hb hc hd hlb hsb hl hs hp hi =>
 have hw : WOk [a, b, c, d] := ⟨rfl, fun x hx => by simp at hx; rcases hx with rfl | rfl | rfl | rfl <;> assumption⟩
 have hw1 : WOk [1, 0, 0, 0] := ⟨rfl, fun x hx => by simp at hx; omega⟩
 have hl1 := wd hw
 refine gw ?_; refine Ja Tryz.func211 rfl rfl fun w => Df fun r1 r2 => ?_; refine Nw ?_; refine Jc rfl rfl rfl Jqp hit oR (DL ?_)
 refine Jo 7 rfl (fun gb => ?_) (fun gb => ?_) <;> (try simp only [ZZ] at gb) <;> first | (refine LR rfl (Jw rfl rfl rfl) ?_) | (refine LK rfl ?_)
 all_goals refine Np ?_
 all_goals refine Nx ?_
 all_goals (
  refine LW 4 [1] rfl rfl (J0 1 rfl (X6 2 rfl ?_)); refine Nk fun w1 hs1 => ?_
  simp_all [J6]
  all_goals first | done | rfl | omega | (rw [Bool.eq_iff_iff]; simp only [Bool.and_eq_true, Bool.or_eq_true, decide_eq_true_eq, beq_iff_eq]; omega) | (simp only [decide_eq_true_eq, decide_eq_false_iff_not]; omega)
  skip)
theorem O_4 {n : Int} {p : Pl} {ins : List Ty} (ht : Ty.In R (.mk 4 n p ins)) (hv : v.In R) : PureR Tryz.prog 216 [Ty.val (.mk 4 n p ins), v.val].toArray (.bool (xx 4 n ins.length v)) R := by
 have hnu := Xp hv
 have hit := Yu hv
 have hbi := ZW hv
 have hpk := ZX hv
 cases ht with
 | mk hk hn hlt hst hit0 =>
 cases hv with
 | @mk a b c d bits pb items pi pick ha hb hc hd hlb hsb hl hs hp hi =>
 have hw : WOk [a, b, c, d] := ⟨rfl, fun x hx => by simp at hx; rcases hx with rfl | rfl | rfl | rfl <;> assumption⟩
 have hw1 : WOk [1, 0, 0, 0] := ⟨rfl, fun x hx => by simp at hx; omega⟩
 have hl1 := wd hw
 refine gw ?_; refine Ja Tryz.func216 rfl rfl fun w => Df fun r1 r2 => ?_; refine Nw ?_; refine Jc rfl rfl rfl Jqp hit oR (DP fun w1 hs1 => ?_)
 simp_all [J6]
theorem O_5 {n : Int} {p : Pl} {ins : List Ty} (ht : Ty.In R (.mk 5 n p ins)) (hv : v.In R) : PureR Tryz.prog 218 [Ty.val (.mk 5 n p ins), v.val].toArray (.bool (xx 5 n ins.length v)) R := by
 have hnu := Xp hv
 have hit := Yu hv
 have hbi := ZW hv
 have hpk := ZX hv
 cases ht with
 | mk hk hn hlt hst hit0 =>
 cases hv with
 | @mk a b c d bits pb items pi pick ha hb hc hd hlb hsb hl hs hp hi =>
 have hw : WOk [a, b, c, d] := ⟨rfl, fun x hx => by simp at hx; rcases hx with rfl | rfl | rfl | rfl <;> assumption⟩
 have hw1 : WOk [1, 0, 0, 0] := ⟨rfl, fun x hx => by simp at hx; omega⟩
 have hl1 := wd hw
 refine gw ?_; refine Ja Tryz.func218 rfl rfl fun w => Df fun r1 r2 => ?_; refine Nw ?_; refine Jc rfl rfl rfl (enters_of Tryz.func219 m5 rfl) hbi oR (DL ?_)
 refine Jo 7 rfl (fun gb => ?_) (fun gb => ?_) <;> (try simp only [ZZ] at gb) <;> first | (refine LR rfl (Jw rfl rfl rfl) ?_) | (refine LK rfl ?_)
 all_goals refine gC ?_
 all_goals refine H2 ?_
 all_goals refine Nx ?_
 all_goals (
  refine LW 4 [1] rfl rfl (J0 1 rfl (X6 2 rfl ?_)); refine Nk fun w1 hs1 => ?_
  simp_all [J6]
  all_goals first | done | rfl | omega | (rw [Bool.eq_iff_iff]; simp only [Bool.and_eq_true, Bool.or_eq_true, decide_eq_true_eq, beq_iff_eq]; omega) | (simp only [decide_eq_true_eq, decide_eq_false_iff_not]; omega)
  skip)
theorem O_6 {n : Int} {p : Pl} {ins : List Ty} (ht : Ty.In R (.mk 6 n p ins)) (hv : v.In R) : PureR Tryz.prog 222 [Ty.val (.mk 6 n p ins), v.val].toArray (.bool (xx 6 n ins.length v)) R := by
 have hnu := Xp hv
 have hit := Yu hv
 have hbi := ZW hv
 have hpk := ZX hv
 cases ht with
 | mk hk hn hlt hst hit0 =>
 cases hv with
 | @mk a b c d bits pb items pi pick ha hb hc hd hlb hsb hl hs hp hi =>
 have hw : WOk [a, b, c, d] := ⟨rfl, fun x hx => by simp at hx; rcases hx with rfl | rfl | rfl | rfl <;> assumption⟩
 have hw1 : WOk [1, 0, 0, 0] := ⟨rfl, fun x hx => by simp at hx; omega⟩
 have hl1 := wd hw
 refine gw ?_; refine Ja Tryz.func222 rfl rfl fun w => Df fun r1 r2 => ?_; refine Nw ?_; refine Jc rfl rfl rfl (enters_of Tryz.func219 m5 rfl) hbi oR (DP fun w1 hs1 => ?_)
 simp_all [J6]
theorem O_7 {n : Int} {p : Pl} {ins : List Ty} (ht : Ty.In R (.mk 7 n p ins)) (hv : v.In R) : PureR Tryz.prog 224 [Ty.val (.mk 7 n p ins), v.val].toArray (.bool (xx 7 n ins.length v)) R := by
 have hnu := Xp hv
 have hit := Yu hv
 have hbi := ZW hv
 have hpk := ZX hv
 cases ht with
 | mk hk hn hlt hst hit0 =>
 cases hv with
 | @mk a b c d bits pb items pi pick ha hb hc hd hlb hsb hl hs hp hi =>
 have hw : WOk [a, b, c, d] := ⟨rfl, fun x hx => by simp at hx; rcases hx with rfl | rfl | rfl | rfl <;> assumption⟩
 have hw1 : WOk [1, 0, 0, 0] := ⟨rfl, fun x hx => by simp at hx; omega⟩
 have hl1 := wd hw
 refine gw ?_; refine Ja Tryz.func224 rfl rfl fun w => Df fun r1 r2 => ?_; refine Nw ?_; refine Jc rfl rfl rfl Jqp hit oR (DL ?_)
 refine Jo 7 rfl (fun gb => ?_) (fun gb => ?_) <;> (try simp only [ZZ] at gb) <;> first | (refine LR rfl (Jw rfl rfl rfl) ?_) | (refine LK rfl ?_)
 all_goals refine Np ?_
 all_goals refine gP ?_
 all_goals (
  refine gM ?_; refine Nk fun w1 hs1 => ?_
  simp_all [J6]
  all_goals first | done | rfl | omega | (rw [Bool.eq_iff_iff]; simp only [Bool.and_eq_true, Bool.or_eq_true, decide_eq_true_eq, beq_iff_eq]; omega) | (simp only [decide_eq_true_eq, decide_eq_false_iff_not]; omega)
  skip)
theorem O_8 {n : Int} {p : Pl} {ins : List Ty} (ht : Ty.In R (.mk 8 n p ins)) (hv : v.In R) : PureR Tryz.prog 227 [Ty.val (.mk 8 n p ins), v.val].toArray (.bool (xx 8 n ins.length v)) R := by
 have hnu := Xp hv
 have hit := Yu hv
 have hbi := ZW hv
 have hpk := ZX hv
 cases ht with
 | mk hk hn hlt hst hit0 =>
 cases hv with
 | @mk a b c d bits pb items pi pick ha hb hc hd hlb hsb hl hs hp hi =>
 have hw : WOk [a, b, c, d] := ⟨rfl, fun x hx => by simp at hx; rcases hx with rfl | rfl | rfl | rfl <;> assumption⟩
 have hw1 : WOk [1, 0, 0, 0] := ⟨rfl, fun x hx => by simp at hx; omega⟩
 have hl1 := wd hw
 refine gw ?_; refine Ja Tryz.func227 rfl rfl fun w => Df fun r1 r2 => ?_; refine Nw ?_; refine Jc rfl rfl rfl (enters_of Tryz.func228 m5 rfl) hpk oR (DL ?_)
 refine Jo 7 rfl (fun gb => ?_) (fun gb => ?_) <;> (try simp only [ZZ] at gb) <;> first | (refine LR rfl (Jw rfl rfl rfl) ?_) | (refine LK rfl ?_)
 all_goals refine Gc ?_
 all_goals first | refine LK rfl ?_ | (refine Jo 13 rfl (fun gb => ?_) (fun gb => ?_) <;> (try simp only [ZZ] at gb) <;> first | (refine LR rfl (Jw rfl rfl rfl) ?_) | (refine LK rfl ?_))
 all_goals refine Hm ?_
 all_goals first | refine LK rfl ?_ | (refine Jo 18 rfl (fun gb => ?_) (fun gb => ?_) <;> (try simp only [ZZ] at gb) <;> first | (refine LR rfl (Jw rfl rfl rfl) ?_) | (refine LK rfl ?_))
 all_goals refine gC ?_
 all_goals refine gP ?_
 all_goals (
  refine gM ?_; refine Nk fun w1 hs1 => ?_
  simp_all [J6]
  all_goals first | done | rfl | omega | (rw [Bool.eq_iff_iff]; simp only [Bool.and_eq_true, Bool.or_eq_true, decide_eq_true_eq, beq_iff_eq]; omega) | (simp only [decide_eq_true_eq, decide_eq_false_iff_not]; omega)
  skip)
theorem J08 {k n : Int} {p : Pl} {ins : List Ty} (ht : Ty.In R (.mk k n p ins)) (hv : v.In R) (h : isK k = true) : Enters Tryz.prog (ofF k) ∧ PureR Tryz.prog (ofF k) [Ty.val (.mk k n p ins), v.val].toArray (.bool (xx k n ins.length v)) R := by
 have := Xg.1 h
 have : k = 1 ∨ k = 2 ∨ k = 3 ∨ k = 4 ∨ k = 5 ∨ k = 6 ∨ k = 7 ∨ k = 8 := by omega
 rcases this with rfl | rfl | rfl | rfl | rfl | rfl | rfl | rfl
 ·exact ⟨enters_of Tryz.func199 m5 rfl, O_1 ht hv⟩
 ·exact ⟨enters_of Tryz.func205 m5 rfl, O_2 ht hv⟩
 ·exact ⟨enters_of Tryz.func211 m5 rfl, O_3 ht hv⟩
 ·exact ⟨enters_of Tryz.func216 m5 rfl, O_4 ht hv⟩
 ·exact ⟨enters_of Tryz.func218 m5 rfl, O_5 ht hv⟩
 ·exact ⟨enters_of Tryz.func222 m5 rfl, O_6 ht hv⟩
 ·exact ⟨enters_of Tryz.func224 m5 rfl, O_7 ht hv⟩
 ·exact ⟨enters_of Tryz.func227 m5 rfl, O_8 ht hv⟩
def VM (r : Nat) (t : Ty) : Nat × Obj := (r, .cells t.cells.toArray 76 (0, 0))
instance : Inhabited Vl := ⟨zVl⟩
def X0 (l : List Vl) (i : Nat) : Vl := l.getD i default
theorem VK {l : List Vl} (h : i < l.length) : l[i]? = some (X0 l i) ∧ X0 l i ∈ l := by
 unfold X0
 exact DF
theorem Je1 (t : Ty) (v : Vl) : PureE (α := Nat × Nat) Tryz.prog 162 [t.val, v.val].toArray (fun p => .func (.func 229) #[] #[.pointer (some ⟨p.2, 0, none⟩), .pointer (some ⟨p.1, 0, none⟩)])
  (fun p => [WE p.2 v, VM p.1 t]) := by
 obtain ⟨k, n, p, ins⟩ := t
 obtain ⟨a, b, c, d, bits, pb, items, pi, pick⟩ := v
 refine VP Tryz.func162 rfl rfl fun w => Df fun r1 r2 => ?_; exact kN
def Jac (k pick : Int) (ins : List Ty) (items : List Vl) (i : Nat) : List Value := [(JF k pick ins i).val, (X0 items i).val]
theorem Je2 {k n : Int} {p : Pl} {ins : List Ty} {a : Nat} {bits : List Bool} {items : List Vl} {pick : Int} (hl : items.length ≤ 9223372036854775807) (hlt : ins.length ≤ 9223372036854775807) (hs : Seg R items.length (KL items) pi) (hst : Seg R ins.length (xu ins) p)
    (hx : ∀ i, i < items.length → VF k pick i < ins.length) (hp8 : k = 8 → 0 ≤ pick) (rt rv : Nat) :
    Ja2 Tryz.prog 229 [.pointer (some ⟨rv, 0, none⟩), .pointer (some ⟨rt, 0, none⟩)] (WE rv (.mk a b c d bits pb items pi pick) :: VM rt (.mk k n p ins) :: R) 0 (nxN (Jac k pick ins items) items.length) (Jgq items.length) := by
  have hs := hs.mono (R' := WE rv (.mk a b c d bits pb items pi pick) :: VM rt (.mk k n p ins) :: R) fun q hq => List.mem_cons_of_mem _ (List.mem_cons_of_mem _ hq)
  have hst := hst.mono (R' := WE rv (.mk a b c d bits pb items pi pick) :: VM rt (.mk k n p ins) :: R) fun q hq => List.mem_cons_of_mem _ (List.mem_cons_of_mem _ hq)
  refine WW Tryz.func229 rfl rfl fun q xids w2 XI XF hY => JN (GN ?_); refine GZ ?_; refine HU ?_; refine Js (σ := Nat) (fun i => i ≤ items.length) (fun i => [(0, .func (.yield q) #[] #[]), (1, .pointer (some ⟨rv, 0, none⟩)), (2, .pointer (some ⟨rt, 0, none⟩)), (8, KE items.length pi), (9, .int .i64 (items.length : Int)), (10, .int .i64 (i : Int))]) (fun _ => []) (fun i => XI i) (fun i => items.length - i) 0 (Nat.zero_le _) (lK rfl) (List.nil_sublist _) (fun _ _ h => h) ?_; intro i hi; refine NK ?_; refine cD (fun g => ?_) fun g => ?_
  · refine gr ?_
    have hil : i < items.length := by omega
    have hix := VK hil
    have hty := KC (hx i hil)
    refine kj ?_; refine Dv ?_; refine LR rfl (KV oR rfl hs hix.1 rfl rfl) (LN rfl fun r1 => Vb rfl (Jv (k := 0) (n := 7) (ys := (X0 items i).cells) rfl rfl rfl rfl rfl (X0 items i).len rfl (X0 items i).one rfl (JK 11 rfl ?_))); refine H0 ?_; refine HN ?_; refine cD (fun g => ?_) fun g => ?_
    · refine E3 ?_; refine NG ?_; refine Kn (Xi (XT := XI (i + 1)) (XF := XF) rfl rfl rfl rfl (hY i (Jac k pick ins items i) (i + 1) ⟨hil, rfl, rfl⟩) ?_ ?_)
      all_goals (
       refine HV ?_; refine JI rfl (fun g => ?_) (fun g => ?_)
       · try exact Bool.noConfusion g
         all_goals try simp only [ZZ] at g
         all_goals (
          exact Nv
          skip)
       · try exact Bool.noConfusion g
         all_goals try simp only [ZZ] at g
         all_goals (
          refine GX ?_; exact kr
          skip)
       skip)
    · refine NK ?_; refine cD (fun g => ?_) fun g => ?_
      · refine kj ?_; refine GZ ?_; refine JP 5 rfl (NG ?_); refine Kn (Xi (XT := XI (i + 1)) (XF := XF) rfl rfl rfl rfl (hY i (Jac k pick ins items i) (i + 1) ⟨hil, rfl, rfl⟩) ?_ ?_)
        all_goals (
         refine HV ?_; refine JI rfl (fun g => ?_) (fun g => ?_)
         · try exact Bool.noConfusion g
           all_goals try simp only [ZZ] at g
           all_goals (
            exact Nv
            skip)
         · try exact Bool.noConfusion g
           all_goals try simp only [ZZ] at g
           all_goals (
            refine GX ?_; exact kr
            skip)
         skip)
      · refine J9 4 rfl (NG ?_); refine Kn (Xi (XT := XI (i + 1)) (XF := XF) rfl rfl rfl rfl (hY i (Jac k pick ins items i) (i + 1) ⟨hil, rfl, rfl⟩) ?_ ?_)
        all_goals (
         refine HV ?_; refine JI rfl (fun g => ?_) (fun g => ?_)
         · try exact Bool.noConfusion g
           all_goals try simp only [ZZ] at g
           all_goals (
            exact Nv
            skip)
         · try exact Bool.noConfusion g
           all_goals try simp only [ZZ] at g
           all_goals (
            refine GX ?_; exact kr
            skip)
         skip)
  · refine Ga fun w1 hs1 => ?_
    obtain ⟨xs1, hx1⟩ := hs1.now
    exact ⟨⟨_, rfl⟩, hs1.keep, .inl ⟨i, _, (by show i = items.length; omega), hx1⟩⟩
theorem Xa {a : Nat} {bits : List Bool} {items : List Vl} {pick k n : Int} {p : Pl} {ins : List Ty} (h1 : ¬ ((k = 4 ∧ n < items.length) ∨ (k = 6 ∧ n < bits.length))) (h2 : xx k n ins.length (.mk a b c d bits pb items pi pick) = true) : Ku (.mk a b c d bits pb items pi pick) (.mk k n p ins) = Qz items k pick ins 0 := by
 rw [Ku, if_neg h1, if_neg (by rw [h2]; simp)]
theorem Jzk (hv : v.In R) : ∀ (t : Ty) (dp : Int), t.In R → Vp t dp = 0 → PureR Tryz.prog 113 [t.val, v.val].toArray (.int .i64 (Ku v t)) R := by
  have hv0 := hv
  induction hv with
  | @mk a b c d bits pb items pi pick ha hb hc hd hlb hsb hl hs hp hi ih =>
  intro t dp ht hck
  have ht0 := ht
  cases ht with
  | @mk k n p ins hk hn hlt hst hit =>
  obtain ⟨hk8, ho, h6, hci⟩ := QE hck
  have hkk := Xg.2 hk8
  have hO := J08 ht0 hv0 hkk
  refine Ja Tryz.func113 rfl rfl fun w => NA fun r1 r2 => ?_; refine LN rfl fun r3 => XO 11 [2] rfl rfl ?_
  refine Jo 12 rfl (fun gb => ?_) (fun gb => ?_) <;> (try simp only [ZZ] at gb) <;> first | (refine LR rfl (Jw rfl rfl rfl) ?_) | (refine LK rfl ?_)
  all_goals refine LW 1 [1] rfl rfl ?_
  all_goals first | refine LR rfl (Jl rfl hs rfl) ?_ | refine LK rfl ?_
  all_goals refine Nx ?_
  all_goals (
   refine LW 4 [2] rfl rfl (J0 1 rfl (ZE 1 rfl ?_)); refine JI rfl (fun g => ?_) (fun g => ?_)
   · try exact Bool.noConfusion g
     all_goals try simp only [ZZ] at g
     all_goals (
      refine J9 2 rfl (cD (fun g => ?_) fun g => ?_)
      refine kj ?_
      refine E8 ?_
      first
        | (refine QY (k := 0) rfl rfl ?_
           refine Gr fun w1 hs1 => ?_
           first | exact ⟨by rw [hfo, ← he]; rfl, hs1.keep⟩ | exact ⟨by rw [hfo, hz]; rfl, hs1.keep⟩)
        | (refine Jn rfl rfl (.cons (Qj rfl (kn 0 rfl) rfl rfl) .nil) (fun w1 hs1 => ?_)
           first | exact ⟨by rw [Ku, if_pos m0]; rfl, hs1.keep⟩ | exact ⟨by rw [Ku, if_neg m0, if_pos m9]; rfl, hs1.keep⟩)
        | (refine Jn rfl rfl (.cons (Qj rfl (kn 1 rfl) rfl rfl) .nil) (fun w1 hs1 => ?_)
           first | exact ⟨by rw [Ku, if_pos m0]; rfl, hs1.keep⟩ | exact ⟨by rw [Ku, if_neg m0, if_pos m9]; rfl, hs1.keep⟩)
      refine He ?_
      refine JD [] [(0, .grow (KA 0 (fun r : Nat => Value.map (some r)) (fun r => [(r, Jmp)]))), (1, .pure), (4, .pure), (8, .pure), (9, .pure)] 10 [1, 2, 5, 6, 0, 3, 4, 7, 8, 9] m5 m5 m6 ?_
      refine kH fun mr => ?_; refine Dp ?_; refine HY ?_; refine cD (fun g => ?_) fun g => ?_
      refine kj ?_
      refine Eo ?_; refine gt ?_
      (refine Jn rfl rfl (.cons (Qj rfl (kn 1 rfl) rfl rfl) .nil) (fun w1 hs1 => ?_)
       first | exact ⟨by rw [Ku, if_pos m0]; rfl, hs1.keep⟩ | exact ⟨by rw [Ku, if_neg m0, if_pos m9]; rfl, hs1.keep⟩)
      refine gr ?_
      have hfo := Xa (a := a) (b := b) (c := c) (d := d) (pb := pb) (pi := pi) (p := p) Mh m9
      have hxl : ∀ i, i < items.length → VF k pick i < ins.length := fun i hi => Y4 (v := .mk a b c d bits pb items pi pick) hck m9 hi
      have hp8 : k = 8 → 0 ≤ pick := fun h => by subst h; exact Jqv (v := .mk a b c d bits pb items pi pick) m9
      refine E5 fun pp => ?_
      obtain ⟨rt, rv⟩ := pp
      refine Hp ?_
      refine XB (τ := Int) (fun i (_ : Unit) => i ≤ items.length ∧ Qz (items.drop i) k pick ins i = Qz items k pick ins 0) (fun _ => [(r3, .cells #[.int .i64 (0)] 27 (0, 0))]) (fun j e => j = .ret ∧ e = Qz items k pick ins 0) (fun e => [(r3, .cells #[.int .i64 (e)] 27 (0, 0))]) [WE rv (.mk a b c d bits pb items pi pick), VM rt (.mk k n p ins), _, _, _] () rfl rfl (enters_of Tryz.func229 m5 rfl) (Je2 (n := n) (a := a) (b := b) (c := c) (d := d) (bits := bits) (pb := pb) hl hlt hs hst hxl hp8 rt rv) mI rfl (fun q hq => by rcases List.mem_cons.1 hq with rfl | hq; exact .inl mh; rcases List.mem_cons.1 hq with rfl | hq; exact .inl mh; exact .inr hq) rfl ⟨Nat.zero_le _, rfl⟩ ?_ ?_ ?_
      rintro q Xr Xb w3 i _ _ ⟨⟩ ⟨hii, rfl, rfl⟩ ⟨hil, hinv⟩ Kr hKr; refine inR ?_
      have hix := VK hii
      have hty := KC (hxl i hii)
      rw [X7 hix.1, Qz] at hinv
      unfold Jac
      refine kj ?_; refine LN rfl fun r4 => D7 ?_; refine LN rfl fun r5 => GA ?_; refine Gv ?_; clear hKr; refine kZ ?_; refine cD (fun g => ?_) fun g => ?_
      refine GN ?_
      refine LT 2 rfl rfl (Ge ?_); refine Qm [2] (L' := [_]) m7 rfl (xF (Ku (X0 items i) (JF k pick ins i)) ⟨rfl, by rw [if_neg m9] at hinv; exact hinv⟩ rfl)
      refine KQ 2 rfl (Qm [2] (L' := [_]) m7 rfl (Vg () ⟨by omega, by rw [if_pos m9] at hinv; exact hinv⟩ rfl))
      rintro D i ⟨⟩ hfi ⟨hil, hinv⟩
      have hin : i = items.length := hfi
      have hz : Qz items k pick ins 0 = 0 := by rw [← hinv, hin, List.drop_length, Qz]
      refine gqo 4 rfl ?_
      refine Eo ?_; refine Ha ?_
      (refine QY (k := 0) rfl rfl ?_
       refine Gr fun w1 hs1 => ?_
       first | exact ⟨by rw [hfo, ← he]; rfl, hs1.keep⟩ | exact ⟨by rw [hfo, hz]; rfl, hs1.keep⟩)
      rintro D j e ⟨rfl, he⟩
      refine KQ 3 rfl ?_
      first
        | (refine QY (k := 0) rfl rfl ?_
           refine Gr fun w1 hs1 => ?_
           first | exact ⟨by rw [hfo, ← he]; rfl, hs1.keep⟩ | exact ⟨by rw [hfo, hz]; rfl, hs1.keep⟩)
        | (refine Jn rfl rfl (.cons (Qj rfl (kn 0 rfl) rfl rfl) .nil) (fun w1 hs1 => ?_)
           first | exact ⟨by rw [Ku, if_pos m0]; rfl, hs1.keep⟩ | exact ⟨by rw [Ku, if_neg m0, if_pos m9]; rfl, hs1.keep⟩)
        | (refine Jn rfl rfl (.cons (Qj rfl (kn 1 rfl) rfl rfl) .nil) (fun w1 hs1 => ?_)
           first | exact ⟨by rw [Ku, if_pos m0]; rfl, hs1.keep⟩ | exact ⟨by rw [Ku, if_neg m0, if_pos m9]; rfl, hs1.keep⟩)
      skip)
   · try simp only [ZZ] at g
     refine QZ 5 [2] rfl rfl ?_
     refine Jo 23 rfl (fun gb => ?_) (fun gb => ?_) <;> (try simp only [ZZ] at gb) <;> first | (refine LR rfl (Jw rfl rfl rfl) ?_) | (refine LK rfl ?_)
     all_goals refine LW 1 [1] rfl rfl ?_
     all_goals refine H2 ?_
     all_goals refine Nx ?_
     all_goals (
      refine LW 4 [2] rfl rfl (J0 1 rfl (ZE 1 rfl ?_)); refine JI rfl (fun g => ?_) (fun g => ?_)
      · try exact Bool.noConfusion g
        all_goals try simp only [ZZ] at g
        all_goals (
         refine kj ?_
         refine E8 ?_
         first
           | (refine QY (k := 0) rfl rfl ?_
              refine Gr fun w1 hs1 => ?_
              first | exact ⟨by rw [hfo, ← he]; rfl, hs1.keep⟩ | exact ⟨by rw [hfo, hz]; rfl, hs1.keep⟩)
           | (refine Jn rfl rfl (.cons (Qj rfl (kn 0 rfl) rfl rfl) .nil) (fun w1 hs1 => ?_)
              first | exact ⟨by rw [Ku, if_pos m0]; rfl, hs1.keep⟩ | exact ⟨by rw [Ku, if_neg m0, if_pos m9]; rfl, hs1.keep⟩)
           | (refine Jn rfl rfl (.cons (Qj rfl (kn 1 rfl) rfl rfl) .nil) (fun w1 hs1 => ?_)
              first | exact ⟨by rw [Ku, if_pos m0]; rfl, hs1.keep⟩ | exact ⟨by rw [Ku, if_neg m0, if_pos m9]; rfl, hs1.keep⟩)
         skip)
      try simp only [ZZ] at g
      refine He ?_
      refine JD [] [(0, .grow (KA 0 (fun r : Nat => Value.map (some r)) (fun r => [(r, Jmp)]))), (1, .pure), (4, .pure), (8, .pure), (9, .pure)] 10 [1, 2, 5, 6, 0, 3, 4, 7, 8, 9] m5 m5 m6 ?_
      refine kH fun mr => ?_; refine Dp ?_; refine HY ?_; refine cD (fun g => ?_) fun g => ?_
      refine kj ?_
      refine Eo ?_; refine gt ?_
      (refine Jn rfl rfl (.cons (Qj rfl (kn 1 rfl) rfl rfl) .nil) (fun w1 hs1 => ?_)
       first | exact ⟨by rw [Ku, if_pos m0]; rfl, hs1.keep⟩ | exact ⟨by rw [Ku, if_neg m0, if_pos m9]; rfl, hs1.keep⟩)
      refine gr ?_
      have hfo := Xa (a := a) (b := b) (c := c) (d := d) (pb := pb) (pi := pi) (p := p) Mh m9
      have hxl : ∀ i, i < items.length → VF k pick i < ins.length := fun i hi => Y4 (v := .mk a b c d bits pb items pi pick) hck m9 hi
      have hp8 : k = 8 → 0 ≤ pick := fun h => by subst h; exact Jqv (v := .mk a b c d bits pb items pi pick) m9
      refine E5 fun pp => ?_
      obtain ⟨rt, rv⟩ := pp
      refine Hp ?_
      refine XB (τ := Int) (fun i (_ : Unit) => i ≤ items.length ∧ Qz (items.drop i) k pick ins i = Qz items k pick ins 0) (fun _ => [(r3, .cells #[.int .i64 (0)] 27 (0, 0))]) (fun j e => j = .ret ∧ e = Qz items k pick ins 0) (fun e => [(r3, .cells #[.int .i64 (e)] 27 (0, 0))]) [WE rv (.mk a b c d bits pb items pi pick), VM rt (.mk k n p ins), _, _, _] () rfl rfl (enters_of Tryz.func229 m5 rfl) (Je2 (n := n) (a := a) (b := b) (c := c) (d := d) (bits := bits) (pb := pb) hl hlt hs hst hxl hp8 rt rv) mI rfl (fun q hq => by rcases List.mem_cons.1 hq with rfl | hq; exact .inl mh; rcases List.mem_cons.1 hq with rfl | hq; exact .inl mh; exact .inr hq) rfl ⟨Nat.zero_le _, rfl⟩ ?_ ?_ ?_
      rintro q Xr Xb w3 i _ _ ⟨⟩ ⟨hii, rfl, rfl⟩ ⟨hil, hinv⟩ Kr hKr; refine inR ?_
      have hix := VK hii
      have hty := KC (hxl i hii)
      rw [X7 hix.1, Qz] at hinv
      unfold Jac
      refine kj ?_; refine LN rfl fun r6 => D7 ?_; refine LN rfl fun r7 => GA ?_; refine Gv ?_; clear hKr; refine kZ ?_; refine cD (fun g => ?_) fun g => ?_
      refine GN ?_
      refine LT 2 rfl rfl (Ge ?_); refine Qm [2] (L' := [_]) m7 rfl (xF (Ku (X0 items i) (JF k pick ins i)) ⟨rfl, by rw [if_neg m9] at hinv; exact hinv⟩ rfl)
      refine KQ 2 rfl (Qm [2] (L' := [_]) m7 rfl (Vg () ⟨by omega, by rw [if_pos m9] at hinv; exact hinv⟩ rfl))
      rintro D i ⟨⟩ hfi ⟨hil, hinv⟩
      have hin : i = items.length := hfi
      have hz : Qz items k pick ins 0 = 0 := by rw [← hinv, hin, List.drop_length, Qz]
      refine gqo 4 rfl ?_
      refine Eo ?_; refine Ha ?_
      (refine QY (k := 0) rfl rfl ?_
       refine Gr fun w1 hs1 => ?_
       first | exact ⟨by rw [hfo, ← he]; rfl, hs1.keep⟩ | exact ⟨by rw [hfo, hz]; rfl, hs1.keep⟩)
      rintro D j e ⟨rfl, he⟩
      refine KQ 3 rfl ?_
      first
        | (refine QY (k := 0) rfl rfl ?_
           refine Gr fun w1 hs1 => ?_
           first | exact ⟨by rw [hfo, ← he]; rfl, hs1.keep⟩ | exact ⟨by rw [hfo, hz]; rfl, hs1.keep⟩)
        | (refine Jn rfl rfl (.cons (Qj rfl (kn 0 rfl) rfl rfl) .nil) (fun w1 hs1 => ?_)
           first | exact ⟨by rw [Ku, if_pos m0]; rfl, hs1.keep⟩ | exact ⟨by rw [Ku, if_neg m0, if_pos m9]; rfl, hs1.keep⟩)
        | (refine Jn rfl rfl (.cons (Qj rfl (kn 1 rfl) rfl rfl) .nil) (fun w1 hs1 => ?_)
           first | exact ⟨by rw [Ku, if_pos m0]; rfl, hs1.keep⟩ | exact ⟨by rw [Ku, if_neg m0, if_pos m9]; rfl, hs1.keep⟩)
      skip)
   skip)
theorem Jq4 (ht : t.In R) (hv : v.In R) : PureR Tryz.prog 76 [t.val, v.val].toArray (.int .i64 (Vc t v)) R := by
 have h1 := Jb7 ht
 have h2 := Jzk hv t 0 ht
 obtain ⟨k, n, p, ins⟩ := t
 obtain ⟨a, b, c, d, bits, pb, items, pi, pick⟩ := v
 refine Ja Tryz.func76 rfl rfl fun w => NA fun r1 r2 => ?_; refine G1 ?_; refine DZ ?_; refine Jc rfl rfl rfl Jzf h1 oR (HN ?_); refine cD (fun g => ?_) fun g => ?_
 refine Hx fun w1 hs1 => ?_; rw [Vc, if_neg m9]; rfl
 ·refine QZ 6 [1, 0] rfl rfl (Jc rfl rfl rfl Jqe (h2 m9) oR (DP fun w1 hs1 => ?_)); rw [Vc, if_pos m9]; rfl
theorem zv {n : Nat} (h : n < 256) : UInt8.ofNat n = 0 ↔ n = 0 := by
 constructor
 ·intro e
  have := congrArg UInt8.toNat e
  rw [UInt8.toNat_ofNat', Nat.mod_eq_of_lt h] at this; exact this
 ·rintro rfl; rfl
theorem q9 (l : List Nat) : ∀ n k, (Lib.trimLeftB (Yz l n) 0).length ≤ k ↔ ∀ t, k ≤ t → t < n → dg l t = 0
 | 0, k => by simp [Yz, Lib.trimLeftB]
 | n + 1, k => by
  have ih := q9 l n k
  by_cases hz : dg l n = 0
  ·have e : Lib.trimLeftB (Yz l (n + 1)) 0 = Lib.trimLeftB (Yz l n) 0 := by simp [Yz, Lib.trimLeftB, hz]
   rw [e, ih]
   constructor
   ·intro h t h1 h2
    by_cases ht : t = n
    ·rw [ht]; exact hz
    ·exact h t h1 m0
   ·intro h t h1 h2; exact h t h1 m0
  ·have hne : ¬ UInt8.ofNat (dg l n) = 0 := fun e => hz ((zv (Jdr l n)).1 e)
   have e : Lib.trimLeftB (Yz l (n + 1)) 0 = Yz l (n + 1) := by simp [Yz, Lib.trimLeftB, hne]
   rw [e, QC]
   constructor
   ·intro h t h1 h2; omega
   ·intro h
    rcases Nat.lt_or_ge n k with hk | hk
    ·omega
    ·exact absurd (h n hk m0) hz
theorem Jad {l : List Nat} (hl : WOk l) : XQ l = decide ((Wu l).length ≤ 8) := by
 unfold XQ Wu
 rw [decide_eq_decide, q9]
 constructor
 ·intro h t h1 h2
  have hj : t / 8 = 1 ∨ t / 8 = 2 ∨ t / 8 = 3 := by omega
  rw [h]
  rcases hj with e | e | e <;> simp [dg, e]
 ·intro h
  have hz : ∀ j, 1 ≤ j → j < 4 → l.getD j 0 = 0 := fun j h1 h2 => by
   rw [← Jds hl h2]
   have : ∀ m, m ≤ 8 → pw (dg l) j m = 0 := by
    intro m
    induction m with
    | zero => intro _; rfl
    | succ m ih => intro hm; simp only [pw]; rw [ih m0, h (8 * j + m) m0 m0]; simp
   exact this 8 m0
  obtain ⟨a, b, c, d, rfl, _⟩ := hl.four
  have e1 := hz 1 m7 m7
  have e2 := hz 2 m7 m7
  have e3 := hz 3 m7 m7
  simp only [List.getD_cons_zero, List.getD_cons_succ] at e1 e2 e3 ⊢; rw [e1, e2, e3]
theorem jO : ∀ n, Lib.repeatL [0] n = List.replicate n 0
 | 0 => rfl
 | n + 1 => by rw [Lib.repeatL, jO n]; rfl
theorem Je3 (t : List UInt8) : ∃ k, t = List.replicate k 0 ++ Lib.trimLeftB t 0 := by
 induction t with
 | nil => exact ⟨0, rfl⟩
 | cons x t ih =>
  by_cases hx : x = 0
  ·subst hx
   obtain ⟨k, hk⟩ := ih
   refine ⟨k + 1, ?_⟩; simp only [Lib.trimLeftB, if_true, List.replicate_succ, List.cons_append] at hk ⊢
   simpa using hk
  ·exact ⟨0, by simp [Lib.trimLeftB, hx]⟩
theorem Jh0 (l : List Nat) : (Wu l).length ≤ 32 := by
 obtain ⟨k, hk⟩ := Je3 (Yz l 32)
 have h := congrArg List.length hk
 rw [QC, List.length_append, List.length_replicate] at h
 unfold Wu; omega
theorem Je4 (n : Nat) : XQ [n, 0, 0, 0] = true := by simp [XQ]
theorem Jq5 {l : List Nat} (h : XQ l = true) : [l.getD 0 0, 0, 0, 0] = l := by
 simp only [XQ, decide_eq_true_eq] at h; exact h.symm
theorem Jq6 {n : Nat} (h : n < 18446744073709551616) : WOk [n, 0, 0, 0] := ⟨rfl, fun x hx => by simp at hx; rcases hx with rfl | rfl <;> simp_all⟩
def beN (n : Nat) : List UInt8 := Wu [n, 0, 0, 0]
theorem Jh1 {n t : Nat} (h : t < 8) : dg [n, 0, 0, 0] t = n / 256 ^ t % 256 := by
 have e : t / 8 = 0 := by omega
 have e2 : t % 8 = t := by omega
 simp only [dg, e, e2, List.getD_cons_zero]; rw [show (256 : Nat) = 2 ^ 8 from rfl, ← Nat.pow_mul, Nat.mul_comm]
theorem Jq7 {n t : Nat} (h : 8 ≤ t) (h2 : t < 32) : dg [n, 0, 0, 0] t = 0 := by
 have hj : t / 8 = 1 ∨ t / 8 = 2 ∨ t / 8 = 3 := by omega
 rcases hj with e | e | e <;> simp [dg, e]
theorem Jka {n k : Nat} (hn : n < 18446744073709551616) (hk : k ≤ 8) : (beN n).length ≤ k ↔ n < 256 ^ k := by
 unfold beN Wu
 rw [q9]
 constructor
 ·intro h
  have h' : ∀ t, k ≤ t → t < 8 → n / 256 ^ t % 256 = 0 := fun t h1 h2 => by rw [← Jh1 h2]; exact h t h1 m0
  have key : ∀ j, k ≤ j → j ≤ 8 → n < 256 ^ j → n < 256 ^ k := by
   intro j
   induction j with
   | zero => intro h1 _ h3; rw [show k = 0 from by omega]; exact h3
   | succ j ih =>
    intro h1 h2 h3
    by_cases e : k = j + 1
    ·rw [e]; exact h3
    ·refine ih m0 m0 ?_
     have h4 := h' j m0 m0
     have h5 : n / 256 ^ j < 256 := by
      rw [Nat.div_lt_iff_lt_mul (Nat.pow_pos m7)]; rw [Nat.pow_succ, Nat.mul_comm] at h3; exact h3
     rw [Nat.mod_eq_of_lt h5] at h4
     rcases Nat.div_eq_zero_iff.1 h4 with h6 | h6
     ·have := Nat.pow_pos (n := j) (show 0 < 256 by decide); omega
     ·exact h6
  exact key 8 hk (Nat.le_refl _) hn
 ·intro h t h1 h2
  by_cases ht : t < 8
  ·rw [Jh1 ht, Nat.div_eq_of_lt (Nat.lt_of_lt_of_le h (Nat.pow_le_pow_right m7 h1))]
  ·exact Jq7 m0 h2
theorem Jq8 {n : Nat} (hn : n < 18446744073709551616) : Pure Tryz.prog 232 [uV n].toArray (.string (bs (beN n))) := by
 refine Jz Tryz.func232 rfl rfl fun w => HH ?_; refine J2 rfl rfl rfl Jp9 (YH n) (J2 rfl rfl rfl (enters_of Tryz.func201 m5 rfl) (q6 (Jq6 hn)) ?_); exact NS
theorem Jq9 {n : Nat} (hn : n < 18446744073709551616) : Pure Tryz.prog 235 [uV n].toArray (.string (bs (beN n))) := by
 refine Jz Tryz.func235 rfl rfl fun w => HH ?_; refine kI ?_; refine J2 rfl rfl rfl (enters_of Tryz.func234 m5 rfl) (wb (l := [n, 0, 0, 0]) (Jq6 hn)) ?_; exact NS
def qA (n : Nat) (w : Int) : List UInt8 × Int := if w < 1 ∨ w > 8 ∨ ((beN n).length : Int) > w then ([], 1) else (Y5 n w.toNat, 0)
def YI (p : List UInt8 × Int) : Value := .tuple #[.string (bs p.1), .int .i64 p.2]
theorem Jv3 {n k : Nat} (h : i < k) : ((Y5 n i ++ List.replicate (k - i) 0).map bV).set i (bV (UInt8.ofNat (n / 2 ^ (8 * i) % 256))) = (Y5 n (i + 1) ++ List.replicate (k - (i + 1)) 0).map bV := by
 rw [← List.map_set, List.set_append_right _ _ (by rw [QG]; exact Nat.le_refl _), QG, Nat.sub_self, show k - i = (k - (i + 1)) + 1 from by omega, List.replicate_succ, List.set_cons_zero, yB, List.append_assoc]; rw [show (256 : Nat) ^ i = 2 ^ (8 * i) from by rw [show (256 : Nat) = 2 ^ 8 from rfl, ← Nat.pow_mul]]
 rfl
theorem Je5 {n : Nat} (hn : n < 18446744073709551616) (k : Int) : Pure Tryz.prog 166 [uV n, .int .i64 k].toArray (YI (qA n k)) := by
  refine Jz Tryz.func166 rfl rfl fun w => JN (Jt 12 rfl ?_)
  refine Jo 10 rfl (fun gb => ?_) (fun gb => ?_) <;> (try simp only [ZZ] at gb) <;> first | (refine Vb rfl ?_) | (refine LK rfl ?_)
  all_goals refine LW 3 [] rfl rfl ?_
  all_goals first | refine LK rfl ?_ | (refine Jo 14 rfl (fun gb => ?_) (fun gb => ?_) <;> (try simp only [ZZ] at gb) <;> first | (refine Vb rfl ?_) | (refine LK rfl ?_))
  all_goals first | (refine J2 rfl rfl rfl (enters_of Tryz.func232 m5 rfl) (Jq8 hn) ?_) | refine LK rfl ?_
  all_goals refine kP ?_
  all_goals (
   refine Ee ?_; refine JI rfl (fun g => ?_) (fun g => ?_)
   try simp only [ZZ] at g
   exact EE
   · try exact Bool.noConfusion g
     all_goals try simp only [ZZ] at g
     all_goals (
      refine Da ?_
      have hk1 : 1 ≤ k ∧ k ≤ 8 ∧ ((beN n).length : Int) ≤ k := by omega
      have hlr : qA n k = (Y5 n k.toNat, 0) := by unfold qA; rw [if_neg m0]
      obtain ⟨k, rfl⟩ : ∃ j : Nat, k = j := ⟨k.toNat, by omega⟩
      rw [Int.toNat_natCast] at hlr; refine kj ?_; refine Wq (n := k) (b := 1) rfl rfl rfl rfl rfl rfl rfl rfl rfl m0 m0 fun r2 => Gq ?_; refine gg ?_; refine G5 ?_; refine Js (σ := Nat) (fun i => i ≤ k) (fun i => [(0, uV n), (6, .slice (some ⟨r2, 0, none⟩) k k), (24, .int .i64 (k : Int)), (25, .int .i64 (i : Int))]) (fun i => [(r2, .cells ((Y5 n i ++ List.replicate (k - i) 0).map bV).toArray 5 (0, 0))]) (fun _ _ _ => True) (fun i => k - i) 0 (Nat.zero_le _) (lK rfl) (by simp [Y5, bV]) (fun _ _ h => h) ?_; intro i hi; refine NK ?_; refine cD (fun g => ?_) fun g => ?_
      refine Jt 16 rfl (Jj nq (LR rfl (jE (n := 8 * i) rfl rfl m0 mL m0 (Zc _ _)) (Vf rfl (Jj (show _ = bV (UInt8.ofNat (n / 2 ^ (8 * i) % 256)) from qm _) (LR rfl (Kg (j := i) (m := 1) (off' := i) rfl rfl rfl rfl m0 m0 m0) ?_))))); refine Ks (k := 0) (off := i) (xs := (Y5 n i ++ List.replicate (k - i) 0).map bV) (ys := (Y5 n (i + 1) ++ List.replicate (k - (i + 1)) 0).map bV) rfl rfl rfl rfl rfl rfl (by simp [QG]; omega) (Jv3 m0) rfl (kB ?_); exact Hz
      refine NK ?_
      have hik : k = i := by omega
      subst hik; refine kj ?_; refine LR rfl (KB (b := Y5 n k) (row := some (r2, k, [])) (e := 5) (show _ = some (J3 (Y5 n k).length (some (r2, k, []))) from by rw [QG]; rfl) ⟨by simp [QG], by simp [QG]⟩ (fun p hp => .inl MM) rfl rfl rfl) (gt ?_); refine NL fun w1 hs1 => ?_; rw [hlr]; rfl
      skip)
   skip)
theorem Jra (n d i : Nat) : n / d ^ (i + 1) = n / d ^ i / d := by rw [Nat.pow_succ, Nat.div_div_eq_div_mul]
theorem Jms (n i : Nat) : (Y5 n (i + 1)).map bV = (Y5 n i).map bV ++ [bV (UInt8.ofNat (n / 256 ^ i % 256))] := by rw [yB]; simp
theorem Jrb {n : Nat} (hn : n < 18446744073709551616) (k : Int) : Pure Tryz.prog 169 [uV n, .int .i64 k].toArray (YI (qA n k)) := by
  refine Jz Tryz.func169 rfl rfl fun w => JN (Jt 12 rfl ?_)
  refine Jo 10 rfl (fun gb => ?_) (fun gb => ?_) <;> (try simp only [ZZ] at gb) <;> first | (refine Vb rfl ?_) | (refine LK rfl ?_)
  all_goals refine LW 3 [] rfl rfl ?_
  all_goals first | refine LK rfl ?_ | (refine Jo 14 rfl (fun gb => ?_) (fun gb => ?_) <;> (try simp only [ZZ] at gb) <;> first | (refine Vb rfl ?_) | (refine LK rfl ?_))
  all_goals first | (refine J2 rfl rfl rfl (enters_of Tryz.func235 m5 rfl) (Jq9 hn) ?_) | refine LK rfl ?_
  all_goals refine kP ?_
  all_goals (
   refine Ee ?_; refine JI rfl (fun g => ?_) (fun g => ?_)
   try simp only [ZZ] at g
   exact EE
   · try exact Bool.noConfusion g
     all_goals try simp only [ZZ] at g
     all_goals (
      refine J9 9 rfl ?_
      have hk1 : 1 ≤ k ∧ k ≤ 8 ∧ ((beN n).length : Int) ≤ k := by omega
      have hlr : qA n k = (Y5 n k.toNat, 0) := by unfold qA; rw [if_neg m0]
      obtain ⟨k, rfl⟩ : ∃ j : Nat, k = j := ⟨k.toNat, by omega⟩
      rw [Int.toNat_natCast] at hlr; refine gr ?_; refine Js (σ := Nat × List Value × Vn) (fun q => q.1 ≤ k ∧ q.2.1 = (Y5 n q.1).map bV ∧ rowOk 1 q.1 q.2.1 q.2.2) (fun q => [(0, uV (n / 256 ^ q.1)), (1, .int .i64 (k : Int)), (6, J3 q.1 q.2.2), (7, .int .i64 (q.1 : Int))]) (fun q => JJ 5 q.2.1 q.2.2) (fun _ _ _ => True) (fun q => k - q.1) (0, [], none) ⟨by simp, rfl, ⟨rfl, rfl⟩⟩ (.cons (by simp only [Nat.pow_zero, Nat.div_one]; rfl) (lK rfl)) (List.nil_sublist _) (fun _ _ h => h) ?_; rintro ⟨i, xs, row⟩ ⟨hi, hxs, hrow⟩; simp only at hi hxs hrow ⊢; refine J9 8 rfl (cD (fun g => ?_) fun g => ?_)
      refine Jt 9 rfl (Jj (show _ = uV (n / 256 ^ i % 256) from congrArg (Value.int .u64) (KM _ 256)) (Vf rfl (Jj (show _ = bV (UInt8.ofNat (n / 256 ^ i % 256)) from Jbc (Nat.mod_lt _ m7)) ?_))); refine kc fun r1 => ?_; refine JB (L0 := [_]) (xs := xs) (row := row) (n := i) (sz := 1) (b := 1) (news := [_]) (List.perm_append_comm (l₁ := [_])) rfl rfl rfl rfl (kn 0 rfl) rfl rfl rfl rfl rfl m7 rfl rfl rfl m7 hrow m0 m0 fun ra cap sp hra => G1 ?_; refine Jj (show _ = uV (n / 256 ^ (i + 1)) from congrArg (Value.int .u64) (by rw [Jra]; exact J2p (by have := Nat.div_le_self n (256 ^ i); omega))) (DC ?_); refine Qm [0] (L' := [_]) m7 rfl ?_; exact Jm (i + 1, xs ++ [bV (UInt8.ofNat (n / 256 ^ i % 256))], some (ra, cap, sp)) ⟨by simp only; omega, by simp only; rw [Jms, hxs], hra⟩ ml (lK rfl) (List.Sublist.refl _) (fun _ _ h => h)
      refine NK ?_
      have hik : k = i := by omega
      subst hik; refine kj ?_; refine LR rfl (KB (b := Y5 n k) (row := row) (e := 5) (show _ = some (J3 (Y5 n k).length row) from by rw [QG]; rfl) (by rw [QG, ← hxs]; exact hrow) (fun p hp => .inl (by rw [hxs]; exact hp)) rfl rfl rfl) (gt ?_); refine NL fun w1 hs1 => ?_; rw [hlr]; rfl
      skip)
   skip)
def zw (s : List UInt8) : Nat × Int := if s.length < 1 ∨ s.length > 8 then (0, 2) else (Xj s, 0)
def J09 (p : Nat × Int) : Value := .tuple #[uV p.1, .int .i64 p.2]
theorem Jrc {s : List UInt8} (h : i < s.length) : Xj (s.take (i + 1)) = Xj (s.take i) + (s.getD i 0).toNat * 2 ^ (8 * i) := by
 rw [List.take_succ, List.getElem?_eq_getElem h]; simp only [Option.toList_some]; rw [Jdu, List.length_take, Nat.min_eq_left m0, show (256 : Nat) = 2 ^ 8 from rfl, ← Nat.pow_mul, List.getD_eq_getElem?_getD, List.getElem?_eq_getElem h]; rfl
theorem we {s : List UInt8} (h : i ≤ s.length) : Xj (s.take i) < 2 ^ (8 * i) := by
 have := Jgz (s.take i)
 rw [List.length_take, Nat.min_eq_left h, show (256 : Nat) = 2 ^ 8 from rfl, ← Nat.pow_mul] at this; exact this
theorem J1a (h : i ≤ 8) : 2 ^ (8 * i) ≤ 18446744073709551616 := Nat.pow_le_pow_right (n := 2) m7 (by omega : 8 * i ≤ 64)
theorem Jh2 (s : List UInt8) : Pure Tryz.prog 246 [.string (bs s)].toArray (J09 (zw s)) := by
  refine Jz Tryz.func246 rfl rfl fun w => JN (Jt 10 rfl (LR rfl (V5 rfl rfl) (DL ?_)))
  refine Jo 8 rfl (fun gb => ?_) (fun gb => ?_) <;> (try simp only [ZZ] at gb) <;> first | (refine Vb rfl ?_) | (refine LK rfl ?_)
  all_goals refine kP ?_
  all_goals (
   refine gi ?_; refine JI rfl (fun g => ?_) (fun g => ?_)
   try simp only [ZZ] at g
   refine KQ 8 rfl (NL fun w1 hs1 => ?_)
   rw [show zw s = (0, 2) from by unfold zw; rw [if_pos (by first | omega | (left; rw [‹s = []›]; decide))]]; rfl
   · try exact Bool.noConfusion g
     all_goals try simp only [ZZ] at g
     all_goals (
      refine Da ?_
      have hl : 1 ≤ s.length ∧ s.length ≤ 8 := by
        have : s ≠ [] := by assumption
        have := List.length_pos_iff.2 this
        omega
      have hur : zw s = (Xj s, 0) := by unfold zw; rw [if_neg m0]
      refine Jt 8 rfl (kG ?_); refine G5 ?_; refine Js (σ := Nat) (fun i => i ≤ s.length) (fun i => [(0, .string (bs s)), (4, uV (Xj (s.take i))), (14, .int .i64 (s.length : Nat)), (15, .int .i64 (i : Int))]) (fun i => []) (fun _ _ _ => True) (fun i => s.length - i) 0 (Nat.zero_le _) (lK rfl) (List.nil_sublist _) (fun _ _ h => h) ?_; intro i hi; refine NK ?_; refine cD (fun g => ?_) fun g => ?_
      refine Jt 14 rfl (LR rfl (Vt (j := i) rfl rfl rfl rfl m0 rfl) (D0 ?_)); refine Jj mR (NZ ?_); refine Jj nq (LR rfl (ZI (n := 8 * i) rfl rfl rfl mL (ql (qk (Vh _) m0))) (LR rfl (Qa (op := .or) (b := ((Xj (s.take (i + 1)) : Nat) : Int)) rfl rfl rfl (Nat.lt_of_lt_of_le (we m0) (J1a m0)) (qk (Vh _) m0) (congrArg (fun z : Nat => (z : Int)) (by rw [Jrc m0]; exact Joq (we m0)))) (G1 ?_))); refine Nn ?_; exact kr
      refine NK ?_
      have hik : s.length = i := by omega
      have htk : s.take i = s := by rw [← hik, List.take_length]
      refine KQ 7 rfl (NL fun w1 hs1 => ?_); rw [htk, hur]; rfl
      skip)
   skip)
mutual
def wV : Vl → Nat
 | .mk _ _ _ _ bits _ items _ _ => 1 + bits.length / 8 + wL items
def wL : List Vl → Nat
 | [] => 0
 | x :: xs => wV x + wL xs
end
def XZ (head : Nat) : List (Ty × List UInt8) → List UInt8 → List UInt8 → List UInt8
 | [], f, th => f ++ th
 | (x, s) :: l, f, th => if JL x then XZ head l (f ++ s) th else XZ head l (f ++ (qA (head + th.length) 4).1) (th ++ s)
def Xq (x : Ty) : Int := if JL x then JV x else 4
def Kp : List Ty → Int
 | [] => 0
 | x :: l => Xq x + Kp l
mutual
def Vj : Vl → Ty → List UInt8
 | .mk a b c d bits _ items _ pick, t =>
  if t.k = 1 then wp [a, b, c, d] t.n.toNat else if t.k = 2 then wp [a, b, c, d] 1 else if t.k = 5 then V9 bits else if t.k = 6 then V9 (bits ++ [true])
  else if t.k = 8 then UInt8.ofNat pick.toNat :: ((Qf items t.k pick t.ins 0).headD (default, [])).2
  else XZ (Kp ((Qf items t.k pick t.ins 0).map Prod.fst)).toNat (Qf items t.k pick t.ins 0) [] []
def Qf : List Vl → Int → Int → List Ty → Nat → List (Ty × List UInt8)
 | [], _, _, _, _ => []
 | x :: xs, k, pick, ins, i => (JF k pick ins i, Vj x (JF k pick ins i)) :: Qf xs k pick ins (i + 1)
end
theorem zx (n : Nat) : (qA n 4).1.length ≤ 4 := by
 unfold qA
 split
 ·exact Nat.zero_le _
 ·rw [QG]; decide
theorem zy (head : Nat) : ∀ (l : List (Ty × List UInt8)) (f th : List UInt8), (XZ head l f th).length ≤ f.length + th.length + (l.map fun p => p.2.length + 4).sum
 | [], f, th => by rw [XZ, List.length_append]; simp
 | (x, s) :: l, f, th => by
  rw [XZ, List.map_cons, List.sum_cons]
  have h4 := zx (head + th.length)
  split
  ·have := zy head l (f ++ s) th
   rw [List.length_append] at this
   simp only
   omega
  ·have := zy head l (f ++ (qA (head + th.length) 4).1) (th ++ s)
   rw [List.length_append, List.length_append] at this
   simp only
   omega
theorem qB (v : Vl) : ∀ t : Ty, (Vj v t).length + 4 ≤ 40 * wV v := by
 induction v using Vl.ind with
 | h a b c d bits pb items pi pick ih =>
  intro t
  have key : ∀ (l : List Vl) (i : Nat), (∀ x ∈ l, x ∈ items) → ((Qf l t.k pick t.ins i).map fun p => p.2.length + 4).sum ≤ 40 * wL l := by
   intro l
   induction l with
   | nil => intro i _; rw [Qf, wL]; exact Nat.zero_le _
   | cons x xs ihl =>
    intro i hs; rw [Qf, wL, List.map_cons, List.sum_cons]
    have h1 := ih x (hs x List.mem_cons_self) (JF t.k pick t.ins i)
    have h2 := ihl (i + 1) fun y hy => hs y (List.mem_cons_of_mem _ hy)
    simp only at h1 ⊢; omega
  have hk := key items 0 fun _ h => h
  have hle : ∀ n, (wp [a, b, c, d] n).length ≤ 32 := fun n => by unfold wp; rw [List.length_take, List.length_reverse, QC]; omega
  rw [Vj, wV]
  split
  ·have := hle t.n.toNat; omega
  ·split
   ·have := hle 1; omega
   ·split
    ·rw [WZ]; omega
    ·split
     ·rw [WZ, List.length_append]; simp only [List.length_cons, List.length_nil]; omega
     ·split
      ·rw [List.length_cons]
       cases items with
       | nil => rw [Qf]; simp only [List.headD_nil, List.length_nil]; omega
       | cons x xs =>
        rw [Qf, List.headD_cons]
        have h1 := ih x List.mem_cons_self (JF t.k pick t.ins 0)
        rw [wL]
        simp only
        omega
      ·have h1 := zy (Kp ((Qf items t.k pick t.ins 0).map Prod.fst)).toNat (Qf items t.k pick t.ins 0) [] []
       simp only [List.length_nil] at h1; omega
def ZY (t : Ty) (v : Vl) : List UInt8 × Int := if Vc t v ≠ 0 then ([], Vc t v) else if (Vj v t).length > 65536 then ([], 5) else (Vj v t, 0)
theorem Jx5 {n k : Nat} (hn : n < 18446744073709551616) (hk : k < 9223372036854775808) : Pure Tryz.prog 274 [uV n, .int .i64 (k : Int)].toArray (uV (Je n k)) := by
 refine Jz Tryz.func274 rfl rfl fun w => JN ?_
 have hk6 : k % 64 < 64 := Nat.mod_lt _ m7
 refine Jt 9 rfl (Jj (show _ = uV k from congrArg (Value.int .u64) (wrap_u64 m0 m0)) (LR rfl (Qa (op := .and) (b := ((k % 64 : Nat) : Int)) rfl rfl rfl m0 m7 (congrArg (fun z : Nat => (z : Int)) (Nat.and_two_pow_sub_one_eq_mod k 6))) (Gq ?_))); refine DO ?_; refine Jj (show _ = uV (64 - k % 64) from congrArg (Value.int .u64) (by rw [wrap_u64 m0 m0]; omega)) (LR rfl (jE (n := 64 - k % 64) rfl rfl rfl mL m0 (Zc _ _)) ?_); exact Hb
theorem Jcb : Pure Tryz.prog 273 [].toArray (.func (.func 282) #[] #[]) := by
 refine Jz Tryz.func273 rfl rfl fun w => JN (KQ 11 rfl ?_); exact Nz
def Jrd (i : Nat) : List Value := [.int .i64 (i : Int), .agg [.int .i64 ((i % 5 : Nat) : Int), .int .i64 ((i / 5 : Nat) : Int)].toArray]
theorem Jcc : Ja2 Tryz.prog 282 [] [] 0 (nxN Jrd 25) (Jgq 25) := by
  refine WW Tryz.func282 rfl rfl fun q xids w2 XI XF hY => JN (NK ?_); refine Js (σ := Nat) (fun i => i ≤ 25) (fun i => [(0, .func (.yield q) #[] #[]), (3, .int .i64 (i : Int))]) (fun _ => []) (fun i => XI i) (fun i => 25 - i) 0 (Nat.zero_le _) (lK rfl) (List.nil_sublist _) (fun _ _ h => h) ?_; intro i hi; refine NK ?_; refine cD (fun g => ?_) fun g => ?_
  · refine Jt 16 rfl (Jj (show _ = Value.int .i64 ((i % 5 : Nat) : Int) from congrArg (Value.int .i64) (KM _ 5)) (NZ ?_)); refine Jj nl (LR rfl (J5 (r := [_, _]) rfl rfl) (Xi (XT := XI (i + 1)) (XF := XF) rfl rfl rfl rfl (hY i (Jrd i) (i + 1) ⟨by omega, rfl, rfl⟩) ?_ ?_))
    all_goals (
     refine HV ?_; refine JI rfl (fun g => ?_) (fun g => ?_)
     · try exact Bool.noConfusion g
       all_goals try simp only [ZZ] at g
       all_goals (
        exact Nv
        skip)
     · try exact Bool.noConfusion g
       all_goals try simp only [ZZ] at g
       all_goals (
        refine GX ?_; exact kr
        skip)
     skip)
  · refine Ga fun w1 hs1 => ?_
    obtain ⟨xs1, hx1⟩ := hs1.now
    exact ⟨⟨_, rfl⟩, hs1.keep, .inl ⟨i, _, (by show i = 25; omega), hx1⟩⟩
def kO (a : List Nat) : Obj := .cells (a.map uV).toArray 216 (0, 0)
def cO (c : List Nat) : Obj := .cells (c.map uV).toArray 235 (0, 0)
theorem Jmt (ha : SOk 25 a) (r : Nat) : PureM Tryz.prog 272 [.pointer (some ⟨r, 0, none⟩)].toArray (.tuple #[]) r (kO a) (kO (Jbk a)) := by
 refine vO Tryz.func272 rfl rfl fun w => JN ?_
 have hal := ha.1
 obtain ⟨cc, hcc⟩ : ∃ c, c = cS a 25 := ⟨_, rfl⟩
 have hc : SOk 5 cc := by rw [hcc]; exact yH ha 25
 have hmx : Jbk a = mS cc a 25 := by rw [hcc]; rfl
 refine kj ?_; refine LN rfl fun r1 => GU ?_; refine KK (cs := ((cS a 0).map uV).toArray) rfl rfl rfl rfl fun r2 => kB ?_; refine Em ?_; refine Y8 (τ := Unit) (fun i (s : List Nat) => s = cS a i ∧ i ≤ 25) (fun s => [(r2, cO s)]) (fun _ _ => False) (fun _ => []) [(r1, _), (r, kO a)] (cS a 0) rfl rfl Jj6 Jcc mI rfl mh rfl ⟨rfl, by decide⟩ ?_ ?_ ?_
 rintro q Xr Xb w3 i _ _ s ⟨hi, rfl, rfl⟩ ⟨hs, -⟩ Kr hKr; refine inR ?_
 have hsk : SOk 5 s := by rw [hs]; exact yH ha i
 have hsl := hsk.1
 refine H8 ?_; refine LN rfl fun r2 => ?_
 refine kq ?_; refine Gv ?_; clear hKr; refine He ?_; refine JR 11 m5 m5 ?_
 refine HE ?_; refine Gg ?_; refine DK ?_; refine H9 ?_; refine gk ?_; refine NQ ?_; refine Jb rfl rfl rfl (JX rfl (JG (k := 1) rfl) rfl (Kj (by rw [hal]; omega))) (Jb rfl rfl rfl (Qa (op := .xor) (b := ((s.getD (i % 5) 0 ^^^ a.getD i 0 : Nat) : Int)) rfl rfl rfl (hsk.get _) (ha.get _) rfl) (Gg ?_)); refine Kn (Ks (k := 1) (off := i % 5) (xs := s.map uV) (ys := (cS a (i + 1)).map uV) rfl rfl rfl rfl rfl rfl nW (QV (by rw [hs]; rfl)) rfl (Hh ?_)); exact Vg (cS a (i + 1)) ⟨rfl, by omega⟩ rfl
 rintro D i s hfi ⟨hs, -⟩
 have hi25 : i = 25 := hfi
 subst hi25; rw [← hcc] at hs
 have hs := hs.symm
 subst hs; refine gqo 4 rfl (Em ?_); refine YZ [3, 0, 1, 2] m7 rfl (Y8 (τ := Unit) (fun i (s : List Nat) => s = mS cc a i ∧ i ≤ 25) (fun s => [(r, kO s)]) (fun _ _ => False) (fun _ => []) [(D, _), (r2, cO cc), (r1, _)] (a) rfl rfl Jj6 Jcc mI rfl mh rfl ⟨rfl, by decide⟩ ?_ ?_ ?_)
 rintro q Xr Xb w3 i _ _ s ⟨hi, rfl, rfl⟩ ⟨hs, -⟩ Kr hKr; refine inR ?_
 have hsk : SOk 25 s := by rw [hs]; exact Jd0 hc ha i
 have hsl := hsk.1
 refine H8 ?_; refine LN rfl fun r3 => ?_
 refine kq ?_; refine Gv ?_; clear hKr; refine GN ?_
 refine Du ?_; refine Goc 4 [0] rfl rfl (JR 21 m5 m5 (Jb rfl rfl rfl (Jd rfl (JG (k := 2) rfl) rfl rfl) (gk ?_))); refine NQ ?_; refine DK ?_; refine gk ?_; refine Kz (show _ = Value.int .i64 ((i % 5 + 5 : Nat) : Int) from congrArg (Value.int .i64) ma) (No ?_); refine HP ?_; refine Jb rfl rfl rfl (JX rfl (JG (k := 1) rfl) rfl (Kj Nb)) (Hv ?_); refine Jb rfl rfl rfl (JX rfl (JG (k := 1) rfl) rfl (Kj Nb)) (Qk rfl rfl rfl (enters_of Tryz.func274 m5 rfl) (Jx5 (k := 1) (hc.get _) m7) (Jb rfl rfl rfl (Qa (op := .xor) (b := ((cc.getD ((i % 5 + 5 - 1) % 5) 0 ^^^ Je (cc.getD ((i % 5 + 1) % 5) 0) 1 : Nat) : Int)) rfl rfl rfl (hc.get _) (jw (hc.get _) 1) rfl) (Jb rfl rfl rfl (Qa (op := .xor) (b := ((s.getD i 0 ^^^ (cc.getD ((i % 5 + 5 - 1) % 5) 0 ^^^ Je (cc.getD ((i % 5 + 1) % 5) 0) 1) : Nat) : Int)) rfl rfl rfl (hsk.get _) (Wj (hc.get _) (jw (hc.get _) 1)) rfl) (No ?_)))); refine NQ ?_; refine Kn (Ks (k := 1) (off := i) (xs := s.map uV) (ys := (mS cc a (i + 1)).map uV) rfl rfl rfl rfl rfl rfl nW (QV (by rw [hs]; rfl)) rfl (Hh ?_)); exact Vg (mS cc a (i + 1)) ⟨rfl, by omega⟩ rfl
 rintro D2 i s hfi ⟨hs, -⟩
 have hi25 : i = 25 := hfi
 subst hi25; refine X6 1 rfl (DX ?_); refine QY (k := 2) rfl rfl (Jn rfl rfl .nil (fun w1 hs1 => ?_)); exact ⟨rfl, _, List.mem_cons_of_mem _ (by rw [hmx, ← hs]; exact List.mem_cons_self), hs1⟩
 exact Gb
 ·exact Gb
theorem Jv4 (ha : SOk 25 a) {n : Nat} (hn : n < 18446744073709551616) {by_ : List Nat} (hbl : by_.length = 25) (hby : ∀ i, by_.getD i 0 < 9223372036854775808) (r : Nat) :
  PureM Tryz.prog 260 [.pointer (some ⟨r, 0, none⟩), uV n, .agg (by_.map iV).toArray].toArray (.tuple #[]) r (kO a) (kO (yI by_ a n)) := by
 refine vO Tryz.func260 rfl rfl fun w => JN ?_
 obtain ⟨m, hm⟩ : ∃ m, m = Jbk a := ⟨_, rfl⟩
 have hmk : SOk 25 m := by rw [hm]; exact Zh ha
 have hml := hmk.1
 have hbk := xM by_ hmk 25
 obtain ⟨b, hb⟩ : ∃ b, b = rS m by_ 25 := ⟨_, rfl⟩
 have hbk : SOk 25 b := by rw [hb]; exact xM by_ hmk 25
 have hbln := hbk.1
 have hra : yI by_ a n = Ji5 (xS b m 25) n := by rw [hb, hm]; rfl
 refine kj ?_; refine LN rfl fun r1 => Qp (cs := (by_.map iV).toArray) rfl rfl rfl rfl fun r2 => GU ?_; refine LR rfl (Jd rfl (kn 1 rfl) rfl rfl) (Jdv (k := 2) rfl rfl rfl (enters_of Tryz.func272 m5 rfl) rfl (Jmt ha r) rfl ?_); rw [← hm]; refine GU ?_; refine E4 fun r3 => ?_; refine kB ?_; refine Em ?_; refine Y8 (τ := Unit) (fun i (s : List Nat) => s = rS m by_ i ∧ i ≤ 25) (fun s => [(r3, kO s)]) (fun _ _ => False) (fun _ => []) [(r2, _), (r1, _), (r, kO m)] (z25) rfl rfl Jj6 Jcc mI rfl mh rfl ⟨rfl, by decide⟩ ?_ ?_ ?_
 rintro q Xr Xb w3 i _ _ s ⟨hi, rfl, rfl⟩ ⟨hs, -⟩ Kr hKr; refine inR ?_
 have hsk : SOk 25 s := by rw [hs]; exact xM by_ hmk i
 have hsl := hsk.1
 refine H8 ?_; refine LN rfl fun r2 => ?_
 refine kq ?_; refine Gv ?_; clear hKr; refine J9 2 rfl (JR 6 m5 m5 ?_)
 refine HE ?_
 refine Jb rfl rfl rfl (J7 (j := 1) rfl rfl rfl rfl rfl mM mb) (Jb rfl rfl rfl (Jd rfl (kn 0 rfl) rfl rfl) (Jb rfl rfl rfl (JA rfl) (ku ?_))); refine HY ?_; refine JR 19 m5 m5 (kp ?_); refine No ?_; refine Kz nj (gk ?_); refine Kz nk (No ?_); refine Kz n9 (No ?_); refine Kz mZ (No ?_); refine Kz n5 (No ?_); refine Kz mX (Jb rfl rfl rfl (Jd rfl (JG (k := 1) rfl) rfl rfl) (gk ?_)); refine NQ ?_; refine Jb rfl rfl rfl (JX rfl (JG (k := 2) rfl) rfl (Kj (by rw [hml]; omega))) (Nm ?_); refine NQ ?_; refine Jb rfl rfl rfl (JX rfl (JG (k := 0) rfl) rfl (Jor (by rw [hbl]; omega))) (Qk rfl rfl rfl (enters_of Tryz.func274 m5 rfl) (Jx5 (k := by_.getD i 0) (hmk.get _) (hby i)) (Jb rfl rfl rfl (J7 (j := (i / 5 + 5 * ((2 * (i % 5) + 3 * (i / 5)) % 5))) (m := 1) (off' := (i / 5 + 5 * ((2 * (i % 5) + 3 * (i / 5)) % 5))) rfl rfl rfl rfl m0 m0 m0) (Kn (Ks (k := 1) (off := i / 5 + 5 * ((2 * (i % 5) + 3 * (i / 5)) % 5)) (xs := s.map uV) (ys := (rS m by_ (i + 1)).map uV) rfl rfl rfl rfl rfl rfl nW (QV (by rw [hs]; rfl)) rfl (Hh ?_))))); exact Vg (rS m by_ (i + 1)) ⟨rfl, by omega⟩ rfl
 rintro D i s hfi ⟨hs, -⟩
 have hi25 : i = 25 := hfi
 subst hi25; rw [← hb] at hs
 have hs := hs.symm
 subst hs; refine gqo 5 rfl (Em ?_); refine YZ [4, 0, 1, 2, 3] m7 rfl (Y8 (τ := Unit) (fun i (s : List Nat) => s = xS b m i ∧ i ≤ 25) (fun s => [(r, kO s)]) (fun _ _ => False) (fun _ => []) [(D, _), (r3, kO b), (r2, _), (r1, _)] (m) rfl rfl Jj6 Jcc mI rfl mh rfl ⟨rfl, by decide⟩ ?_ ?_ ?_)
 rintro q Xr Xb w3 i _ _ s ⟨hi, rfl, rfl⟩ ⟨hs, -⟩ Kr hKr; refine inR ?_
 have hsk : SOk 25 s := by rw [hs]; exact xN hbk hmk i
 have hsl := hsk.1
 refine H8 ?_; refine LN rfl fun r3 => ?_
 refine kq ?_; refine Gv ?_; clear hKr; refine J9 2 rfl (JR 8 m5 m5 ?_)
 refine HE ?_; refine Nm ?_
 refine HE ?_; refine No ?_; refine Kz (show _ = Value.int .i64 ((i - i % 5 : Nat) : Int) from congrArg (Value.int .i64) ma) (Jb rfl rfl rfl (JA rfl) (ku ?_)); refine HY ?_; refine JR 24 m5 m5 (Jb rfl rfl rfl (Jd rfl (JG (k := 3) rfl) rfl rfl) (kp ?_)); refine NQ ?_; refine D8 ?_; refine kp ?_; refine No ?_; refine Kz mO (No ?_); refine Kz mJ (No ?_); refine Kz (show _ = Value.int .i64 ((i - i % 5 + (i % 5 + 1) % 5 : Nat) : Int) from congrArg (Value.int .i64) ma) (Jb rfl rfl rfl (J7 (j := (i - i % 5 + (i % 5 + 1) % 5)) (m := 1) (off' := (i - i % 5 + (i % 5 + 1) % 5)) rfl rfl rfl rfl m0 m0 m0) (D8 ?_)); refine Jb rfl rfl rfl (Jup rfl (hbk.get _)) (kp ?_); refine No ?_; refine Kz (show _ = Value.int .i64 ((i % 5 + 2 : Nat) : Int) from congrArg (Value.int .i64) ma) (No ?_); refine Kz (show _ = Value.int .i64 (((i % 5 + 2) % 5 : Nat) : Int) from congrArg (Value.int .i64) mg) (No ?_); refine Kz (show _ = Value.int .i64 ((i - i % 5 + (i % 5 + 2) % 5 : Nat) : Int) from congrArg (Value.int .i64) ma) (Jb rfl rfl rfl (J7 (j := (i - i % 5 + (i % 5 + 2) % 5)) (m := 1) (off' := (i - i % 5 + (i % 5 + 2) % 5)) rfl rfl rfl rfl m0 m0 m0) (D8 ?_)); refine Jb rfl rfl rfl (Qa (op := .and) (b := (((18446744073709551615 ^^^ b.getD (i - i % 5 + (i % 5 + 1) % 5) 0) &&& b.getD (i - i % 5 + (i % 5 + 2) % 5) 0 : Nat) : Int)) rfl rfl rfl (Wj m7 (hbk.get _)) (hbk.get _) rfl) (Jb rfl rfl rfl (Qa (op := .xor) (b := ((WA b i : Nat) : Int)) rfl rfl rfl (hbk.get _) (yG (hbk.get _)) rfl) (No ?_)); refine NQ ?_; refine Kn (Ks (k := 1) (off := i) (xs := s.map uV) (ys := (xS b m (i + 1)).map uV) rfl rfl rfl rfl rfl rfl nW (QV (by rw [hs]; rfl)) rfl (Hh ?_)); exact Vg (xS b m (i + 1)) ⟨rfl, by omega⟩ rfl
 rintro D2 i s hfi ⟨hs, -⟩
 have hi25 : i = 25 := hfi
 subst hi25
 have hsk : SOk 25 s := by rw [hs]; exact xN hbk hmk 25
 have hsl := hsk.1
 refine ZE 2 rfl (JR 8 m5 m5 (Jb rfl rfl rfl (Jd rfl (kn 5 rfl) rfl rfl) (No ?_)))
 refine kR ?_; refine DK ?_; refine Nm ?_; refine Jb rfl rfl rfl (Qa (op := .xor) (b := ((s.getD 0 0 ^^^ n : Nat) : Int)) rfl rfl rfl (hsk.get _) (hn) rfl) (No ?_)
 refine kR ?_; refine Kn (Ks (k := 1) (off := 0) (xs := s.map uV) (ys := (Ji5 s n).map uV) rfl rfl rfl rfl rfl rfl nW (QV rfl) rfl (J0 1 rfl (DX ?_))); refine QY (k := 2) rfl rfl (Jn rfl rfl .nil (fun w1 hs1 => ?_)); exact ⟨rfl, _, List.mem_cons_of_mem _ (by rw [hra, ← hs]; exact List.mem_cons_self), hs1⟩
 exact Gb
 ·exact Gb
theorem Jv5 : Pure Tryz.prog 258 [].toArray (.agg (turnsL.map iV).toArray) := by
 refine Jz Tryz.func258 rfl rfl fun w => Nl fun r1 => ?_; refine GU ?_; refine LR rfl (J5 (r := turnsL.map iV) rfl m5) (Jv (k := 0) (n := 25) (ys := turnsL.map iV) rfl rfl rfl rfl rfl rfl rfl rfl rfl (Ha ?_)); refine Jn rfl rfl (.cons (J4 (vs := turnsL.map iV) rfl (kn 0 rfl) rfl rfl) .nil) (fun w1 hs1 => ?_); exact Ns
theorem Jmu : Pure Tryz.prog 259 [].toArray (.agg (numsL.map uV).toArray) := by
 refine Jz Tryz.func259 rfl rfl fun w => Nl fun r1 => ?_; refine GU ?_; refine LR rfl (J5 (r := numsL.map uV) rfl m5) (Jv (k := 0) (n := 24) (ys := numsL.map uV) rfl rfl rfl rfl rfl rfl rfl rfl rfl (Ha ?_)); refine Jn rfl rfl (.cons (J4 (vs := numsL.map uV) rfl (kn 0 rfl) rfl rfl) .nil) (fun w1 hs1 => ?_); exact Ns
theorem Jre (i : Nat) : turnsL.getD i 0 < 9223372036854775808 := by
 by_cases h : i < 25
 ·have : turnsL.all (fun x => decide (x < 9223372036854775808)) = true := by decide
  have hm : turnsL.getD i 0 ∈ turnsL := by simp [List.getD_eq_getElem?_getD, show i < turnsL.length from h]
  exact of_decide_eq_true (List.all_eq_true.1 this _ hm)
 ·rw [List.getD_eq_getElem?_getD, List.getElem?_eq_none (by simpa [turnsL] using h)]; decide
theorem Jmv (ha : SOk 25 a) : Pure Tryz.prog 238 [.agg (a.map uV).toArray].toArray (.agg ((qr a).map uV).toArray) := by
 refine Jz Tryz.func238 rfl rfl fun w => JN ?_
 have hal := ha.1
 obtain ⟨tu, htu⟩ : ∃ t, t = turnsL := ⟨_, rfl⟩
 have htul : tu.length = 25 := by rw [htu]; rfl
 have htub : ∀ i, tu.getD i 0 < 9223372036854775808 := by rw [htu]; exact Jre
 obtain ⟨nu, hnu⟩ : ∃ t, t = numsL := ⟨_, rfl⟩
 have hnuk : SOk 24 nu := by rw [hnu]; exact numsL_ok
 have hnul := hnuk.1
 have hPt : Pure Tryz.prog 258 [].toArray (.agg (tu.map iV).toArray) := by rw [htu]; exact Jv5
 have hPn : Pure Tryz.prog 259 [].toArray (.agg (nu.map uV).toArray) := by rw [hnu]; exact Jmu
 refine kK fun r1 r2 => ?_; refine GU ?_; refine LR rfl (Ji (xs := a.map uV) (n := 25) rfl (kn 1 rfl) rfl rfl (by rw [List.length_map, hal])) (E4 fun r3 => ?_); refine Jv (k := 0) (n := 25) (ys := a.map uV) rfl rfl rfl rfl rfl (by rw [List.length_map, hal]) rfl (VQ _) rfl (GU ?_); refine J2 rfl rfl rfl (enters_of Tryz.func258 m5 rfl) hPt (KK (cs := ((List.replicate 25 0).map iV).toArray) rfl rfl rfl rfl fun r4 => Jv (k := 0) (n := 25) (ys := tu.map iV) rfl rfl rfl rfl rfl (by rw [List.length_map, htul]) rfl (by simp [iV, Va, List.all_map, List.all_eq_true]) rfl (kB ?_)); refine J2 rfl rfl rfl (enters_of Tryz.func259 m5 rfl) hPn (G5 ?_); refine Js (σ := Nat) (fun i => i ≤ 24) (fun i => [(2, .pointer (some ⟨r2, 0, none⟩)), (3, .pointer (some ⟨r3, 0, none⟩)), (4, .pointer (some ⟨r4, 0, none⟩)), (9, .agg (nu.map uV).toArray), (10, .int .i64 (i : Int))]) (fun i => [(r4, .cells (tu.map iV).toArray 229 (0, 0)), (r3, kO (Xl a i)), (r2, .cells (z25.map uV).toArray 188 (0, 0)), (r1, .cells (a.map uV).toArray 188 (0, 0))]) (fun _ _ _ => True) (fun i => 24 - i) 0 (Nat.zero_le _) (lK rfl) (List.Sublist.refl _) (fun _ _ h => h) ?_; intro i hi; refine NK ?_; refine cD (fun g => ?_) fun g => ?_
 refine H8 ?_; refine LR rfl (Jn5 (j := i) rfl rfl rfl rfl rfl rfl m0 (Jod (Kj (by rw [hnul]; omega)))) (kB ?_); refine LR rfl (Ji (xs := tu.map iV) (n := 25) rfl (kn 0 rfl) rfl rfl (by rw [List.length_map, htul])) (Jdv (k := 1) rfl rfl rfl (enters_of Tryz.func260 m5 rfl) rfl (Jv4 (XV ha i) (n := nu.getD i 0) (hnuk.get i) htul htub r3) rfl (kB ?_)); refine Nn ?_; exact Jm (i + 1) m0 m0 (lK rfl) (by rw [show Xl a (i + 1) = yI tu (Xl a i) (nu.getD i 0) from by rw [htu, hnu]; rfl]; exact List.Sublist.refl _) (fun _ _ h => h)
 ·refine NK ?_
  have hi24 : 24 = i := by omega
  subst hi24; refine Dq ?_; refine LR rfl (Ji (xs := (Xl a 24).map uV) (n := 25) rfl (kn 1 rfl) rfl rfl (by rw [List.length_map, (XV ha 24).1])) (Jv (k := 2) (n := 25) (ys := (Xl a 24).map uV) rfl rfl rfl rfl rfl (by rw [List.length_map, (XV ha 24).1]) rfl (VQ _) rfl (Ha ?_)); refine Jn rfl rfl (.cons (J4 (vs := (Xl a 24).map uV) rfl (kn 2 rfl) rfl (by rw [List.length_map, (XV ha 24).1]; rfl)) .nil) (fun w1 hs1 => ?_); exact Ns
theorem zz {l : List UInt8} (h : j < l.length) : (l.map bV)[j]? = some (.int .u8 ((l.getD j 0).toNat : Nat)) := by
 simp [h, bV, List.getD_eq_getElem?_getD]
theorem J1b {n : Nat} (hn : n ≤ 1099511627776) : Pure Tryz.prog 237 [.int .i64 (n : Int)].toArray (.tuple #[.string (bs (Zi n)), .int .i64 0]) := by
 refine Jz Tryz.func237 rfl rfl fun w => JN ?_
 obtain ⟨k, hk⟩ : ∃ k, k = 135 - n % 136 := ⟨_, rfl⟩
 have hn1 : n % 136 < 136 := Nat.mod_lt _ m7
 obtain ⟨x, hx⟩ : ∃ x : UInt8, x = (1 :: List.replicate k 0 : List UInt8).getD k 0 := ⟨_, rfl⟩
 have hxl := x.toNat_lt
 have hpl : (1 :: List.replicate k 0 : List UInt8).set k (UInt8.ofNat (x.toNat ||| 128)) = Zi n := by
  unfold Zi
  cases k with
  | zero => rw [if_pos m0, hx]; rfl
  | succ k =>
   rw [if_neg m0, hx]
   have e1 : (1 :: List.replicate (k + 1) 0 : List UInt8).getD (k + 1) 0 = 0 := by simp [List.getD_eq_getElem?_getD]
   rw [e1, show 134 - n % 136 = k from by omega]; simp only [List.set_cons_succ]
   congr 1
   rw [List.replicate_succ', List.set_append_right _ _ mh, List.length_replicate, Nat.sub_self]; rfl
 refine J9 17 rfl (cD (fun g => ?_) fun g => ?_)
 refine KQ 8 rfl (Nr fun w1 hs1 => ?_)
 first | (exact ⟨rfl, hs1.keep⟩) | (exfalso; omega)
 ·refine H8 ?_; refine Jj (show _ = Value.int .i64 ((n % 136 : Nat) : Int) from congrArg (Value.int .i64) mg) (D0 ?_); refine Jj (show _ = Value.int .i64 ((k + 1 : Nat) : Int) from congrArg (Value.int .i64) ma) (Wq (n := k + 1) (b := 1) rfl rfl rfl rfl rfl rfl rfl rfl rfl m0 m0 fun r2 => G1 ?_); refine LR rfl (Kg (j := 0) (m := 1) (off' := 0) rfl rfl rfl rfl rfl m0 rfl) (Ks (k := 0) (off := 0) (xs := List.replicate (k + 1) (.int .u8 0)) (ys := (1 :: List.replicate k 0 : List UInt8).map bV) rfl rfl rfl rfl rfl rfl mh (by rw [List.replicate_succ]; simp [bV]) rfl (G1 ?_)); refine gg ?_; refine D0 ?_; refine Jj (show _ = Value.int .i64 ((k : Nat) : Int) from congrArg (Value.int .i64) ma) (LR rfl (Kg (j := k) (m := 1) (off' := k) rfl rfl rfl rfl rfl m0 m0) (LR rfl (JX rfl (kn 0 rfl) rfl (zz mh)) ?_)); rw [← hx]
  refine LR rfl (wE (op := .or) (b := ((x.toNat ||| 128 : Nat) : Int)) rfl rfl rfl hxl m7 rfl) ?_; refine Jj (show _ = bV (UInt8.ofNat (x.toNat ||| 128)) from yv (Nat.or_lt_two_pow (n := 8) hxl m7)) ?_; refine LR rfl (Kg (j := k) (m := 1) (off' := k) rfl rfl rfl rfl rfl m0 m0) ?_; refine Ks (k := 0) (off := k) (xs := (1 :: List.replicate k 0 : List UInt8).map bV) (ys := (Zi n).map bV) rfl rfl rfl rfl rfl rfl mh (by rw [← hpl, List.map_set]) rfl ?_; refine kB ?_; refine LR rfl (KB (b := Zi n) (row := some (r2, k + 1, [])) (e := 5) (show _ = some (J3 (Zi n).length (some (r2, k + 1, []))) from by rw [Xm, show 136 - n % 136 = k + 1 from by omega]; rfl) ⟨by simp, by simp [Xm]; omega⟩ (fun p hp => .inl MM) rfl rfl rfl) ?_; refine gt ?_; refine Nr fun w1 hs1 => ?_
  first | (exact ⟨rfl, hs1.keep⟩) | (exfalso; omega)
def chL (rb n cap : Nat) (p : Nat × Nat) : Jp := [(p.2, .cells #[.int .i64 136] 3 (0, 0)), (p.1, .cells #[.slice (some ⟨rb, 0, none⟩) n cap] 55 (0, 0))]
theorem Jv6 (rb n cap : Nat) : PureE (α := Nat × Nat) Tryz.prog 236 [.slice (some ⟨rb, 0, none⟩) n cap, .int .i64 136].toArray (fun p => .func (.func 257) #[] #[.pointer (some ⟨p.1, 0, none⟩), .pointer (some ⟨p.2, 0, none⟩)]) (chL rb n cap) := by
 refine VP Tryz.func236 rfl rfl fun w => NA fun r1 r2 => ?_; refine Goc 10 [0] rfl rfl (JI rfl (fun h4 => ?_) (fun h4 => ?_))
 exact absurd h4 m7
 ·try simp only [ZZ] at h4
  refine GO ?_; exact kN
def Jkb (rb j : Nat) : List Value := [.slice (some ⟨rb, 136 * j, none⟩) 136 136]
theorem Jv7 {n : Nat} (hn : n = 136 * N) (hcap : n ≤ cap) (hlim : n ≤ 2199023255552) (p1 p2 : Nat) : Ja2 Tryz.prog 257 [.pointer (some ⟨p1, 0, none⟩), .pointer (some ⟨p2, 0, none⟩)] (chL rb n cap (p1, p2)) 0 (nxN (Jkb rb) N) (Jgq N) := by
  refine WW Tryz.func257 rfl rfl fun q xids w2 XI XF hY => JN (NK ?_); refine Js (σ := Nat) (fun i => i ≤ N) (fun i => [(0, .func (.yield q) #[] #[]), (1, .pointer (some ⟨p1, 0, none⟩)), (2, .pointer (some ⟨p2, 0, none⟩)), (4, .int .i64 ((136 * i : Nat) : Int))]) (fun _ => []) (fun i => XI i) (fun i => N - i) 0 (Nat.zero_le _) (lK rfl) (List.nil_sublist _) (fun _ _ h => h) ?_; intro i hi; refine GO ?_; refine H0 ?_; refine gg ?_; refine kU ?_; refine cD (fun g => ?_) fun g => ?_
  · refine gr ?_; refine EA ?_; refine Jb rfl rfl rfl (JZ (kl := some (136 * i)) (kh := none) (km := none) (sz := 1) (m := 136 * i) (q := n) (z := cap) rfl rfl rfl ⟨_, rfl⟩ trivial trivial rfl rfl rfl m0 hcap (Nat.le_refl _) (fun _ => rfl) rfl) (Jb rfl rfl rfl (KS rfl rfl) (Jb rfl rfl rfl (Jg0 (r := 136) rfl rfl (by rw [if_neg m0])) (ku ?_))); refine kB ?_; refine H0 ?_; refine LS 4 [] rfl rfl (Jj nh (GK ?_)); refine Jj nh ?_
    refine LR rfl (JZ (kl := some (136 * i)) (kh := some (136 * i + 136)) (km := some (136 * i + 136)) (sz := 1) (m := 136 * i) (q := 136 * i + 136) (z := 136 * i + 136) (off' := 136 * i) rfl rfl rfl ⟨_, rfl⟩ ⟨_, rfl⟩ ⟨_, rfl⟩ rfl rfl rfl m0 (Nat.le_refl _) m0 (fun h => by cases h) mz) ?_; refine Jj (show _ = Value.slice (some ⟨rb, 136 * i, none⟩) 136 136 from by congr 1 <;> omega) ?_; refine Xi (XT := XI (i + 1)) (XF := XF) rfl rfl rfl rfl (hY i (Jkb rb i) (i + 1) ⟨by omega, rfl, rfl⟩) ?_ ?_
    all_goals (
     refine HV ?_; refine JI rfl (fun g => ?_) (fun g => ?_)
     · try exact Bool.noConfusion g
       all_goals try simp only [ZZ] at g
       all_goals (
        exact Nv
        skip)
     · try exact Bool.noConfusion g
       all_goals try simp only [ZZ] at g
       all_goals (
        refine gH ?_; refine GZ ?_; refine D0 ?_; refine Jj (show _ = Value.int .i64 ((136 * (i + 1) : Nat) : Int) from congrArg (Value.int .i64) ma) (HG ?_); exact kr
        skip)
     skip)
  · exact Hg
theorem Jrf (h : i < 32) : ((Yj a i ++ List.replicate (32 - i) 0).map bV).set i (bV (UInt8.ofNat (a.getD (i / 8) 0 / 2 ^ (i % 8 * 8) % 256))) = (Yj a (i + 1) ++ List.replicate (32 - (i + 1)) 0).map bV := by
 rw [← List.map_set, List.set_append_right _ _ (by rw [Wk]; exact Nat.le_refl _), Wk, Nat.sub_self, show 32 - i = (32 - (i + 1)) + 1 from by omega, List.replicate_succ, List.set_cons_zero, Yj, List.append_assoc]
 rfl
theorem Jv8 {t : List UInt8} {k : Nat} (h : 136 * j + i < t.length) : (t.map bV ++ List.replicate k (Value.int .u8 0))[136 * j + i]? = some (.int .u8 (((t.drop (136 * j)).getD i 0).toNat : Nat)) := by
 rw [List.getElem?_append_left M6, zz h]
 simp [List.getD_eq_getElem?_getD]
theorem Je6 {s : List UInt8} (hs : s.length ≤ 1099511627776) : Pure Tryz.prog 174 [.string (bs s)].toArray (.string (bs (WO s))) := by
 refine Jz Tryz.func174 rfl rfl fun w => JN ?_
 have hpl := Xm s.length
 obtain ⟨t, ht⟩ : ∃ t, t = s ++ Zi s.length := ⟨_, rfl⟩
 obtain ⟨N, hN⟩ : ∃ N, N = t.length / 136 := ⟨_, rfl⟩
 have htl : t.length = 136 * N := by have := yM s; rw [← ht] at this; omega
 have hlim : t.length ≤ 2199023255552 := by rw [ht, List.length_append]; omega
 have hkec : WO s = Yj (qt t N) 32 := by unfold WO; rw [← ht, ← hN]
 refine Jt 8 rfl (kG ?_); refine J2 rfl rfl rfl (enters_of Tryz.func237 m5 rfl) (J1b hs) (JK 9 rfl (KK (cs := (z25.map uV).toArray) rfl rfl rfl rfl fun r1 => Gq ?_)); refine LR rfl (Qc rfl rfl m0) ?_; rw [← ht]; refine Yp rfl rfl rfl rfl rfl rfl fun rb kb => VD rfl rfl rfl (enters_of Tryz.func236 m5 rfl) (Jv6 rb t.length (t.length + kb)) fun pp => ?_
 obtain ⟨p1, p2⟩ := pp
 change HL _ _ _ [(p2, _), (p1, _), (rb, _), (r1, _)] _ _ _ _; refine kU ?_; refine YZ [3, 0, 1, 2] m7 rfl (Y8 (τ := Unit) (fun j (s : List Nat) => s = qt t j ∧ j ≤ N) (fun s => [(r1, kO s)]) (fun _ _ => False) (fun _ => []) [(p2, _), (p1, _), (rb, _)] z25 rfl rfl (enters_of Tryz.func257 m5 rfl) (Jv7 (rb := rb) (cap := t.length + kb) htl m0 hlim p1 p2) mI rfl (by simp [chL]) rfl ⟨rfl, Nat.zero_le _⟩ ?_ ?_ ?_)
 rintro q Xr Xb w3 jj _ _ a ⟨hi, rfl, rfl⟩ ⟨hsa, -⟩ Kr hKr; refine inR ?_
 have hak : SOk 25 a := by rw [hsa]; exact qu t jj
 obtain ⟨u, hu⟩ : ∃ u, u = t.drop (136 * jj) := ⟨_, rfl⟩
 have habk := yK u hak
 refine KQ 3 rfl (hKr _ _ (JN ?_)); clear hKr; refine gH ?_; refine gg ?_; refine G5 ?_; refine Js (σ := Nat) (fun i => i ≤ 136) (fun i => [(5, .pointer (some ⟨r1, 0, none⟩)), (23, .slice (some ⟨rb, 136 * jj, none⟩) 136 136), (24, .int .i64 136), (25, .int .i64 (i : Int))]) (fun i => [(r1, kO (abS a u i))]) (fun _ => Xb) (fun i => 136 - i) 0 (Nat.zero_le _) (lK rfl) (List.Sublist.refl _) (fun _ _ h => h) ?_; intro i hi; refine NK ?_; refine cD (fun g => ?_) fun g => ?_
 refine Jt 7 rfl (LR rfl (Kg (j := i) (m := 1) (off' := 136 * jj + i) rfl rfl rfl rfl rfl m0 m0) (LR rfl (JX rfl (JG (k := 2) rfl) rfl (Jv8 m0)) ?_)); rw [← hu]; refine G5 ?_; refine JR 12 m5 m5 (gk ?_); refine Kz mt (Gh ?_); refine Jb rfl rfl rfl (JX rfl (kn 0 rfl) rfl (Kj (by rw [(habk i).1]; omega))) (gk ?_); refine Kz n6 (gk ?_); refine Kz mB (No ?_); refine Kz mD (gX ?_); refine Gh ?_; refine Hc ?_; refine kB ?_; exact Hz
 refine gr ?_
 have hi136 : 136 = i := by omega
 subst hi136; refine DT ?_; refine J2 rfl rfl rfl (enters_of Tryz.func238 m5 rfl) (Jmv (habk 136)) (Dr ?_); refine J0 2 rfl (Vg (qt t (jj + 1)) ⟨rfl, by omega⟩ ?_); rw [show qt t (jj + 1) = qr (abS a u 136) from by rw [hu, hsa]; rfl]; rfl
 rintro D jj a hfi ⟨hsa, -⟩
 have hjN : jj = N := hfi
 have hak : SOk 25 a := by rw [hsa]; exact qu t jj
 have hkec2 : WO s = Yj a 32 := by rw [hkec, hsa, hjN]
 refine gqo 4 rfl (Wq (n := 32) (b := 1) rfl rfl rfl rfl rfl rfl rfl rfl rfl m7 m7 fun r2 => Gq ?_); refine gg ?_; refine G5 ?_; refine Js (σ := Nat) (fun i => i ≤ 32) (fun i => [(5, .pointer (some ⟨r1, 0, none⟩)), (9, .slice (some ⟨r2, 0, none⟩) 32 32), (47, .int .i64 32), (48, .int .i64 (i : Int))]) (fun i => [(r2, .cells ((Yj a i ++ List.replicate (32 - i) 0).map bV).toArray 5 (0, 0)), (D, .deferred (some [])), (r1, kO a)]) (fun _ _ _ => True) (fun i => 32 - i) 0 (Nat.zero_le _) (lK rfl) (.cons_cons _ (.cons_cons _ (.cons_cons _ (List.nil_sublist _)))) (fun _ _ h => h) ?_; intro i hi; refine NK ?_; refine cD (fun g => ?_) fun g => ?_
 refine Jt 15 rfl (Jj mt (D5 ?_)); refine LR rfl (JX rfl (kn 2 rfl) rfl (Kj (by rw [hak.1]; omega))) (NZ ?_); refine Jj mB (D0 ?_); refine Jj mD (LR rfl (jE (n := i % 8 * 8) rfl rfl rfl mL m0 (Zc _ _)) (Vf rfl (Jj (show _ = bV (UInt8.ofNat (a.getD (i / 8) 0 / 2 ^ (i % 8 * 8) % 256)) from qm _) (LR rfl (Kg (j := i) (m := 1) (off' := i) rfl rfl rfl rfl rfl m0 m0) ?_)))); refine Ks (k := 0) (off := i) (xs := (Yj a i ++ List.replicate (32 - i) 0).map bV) (ys := (Yj a (i + 1) ++ List.replicate (32 - (i + 1)) 0).map bV) rfl rfl rfl rfl rfl rfl (by simp [Wk]; omega) (Jrf m0) rfl (kB ?_); exact Hz
 refine NK ?_
 have hi32 : 32 = i := by omega
 subst hi32; refine kj ?_; refine LR rfl (KB (b := Yj a 32) (row := some (r2, 32, [])) (e := 5) (show _ = some (J3 (Yj a 32).length (some (r2, 32, []))) from by rw [Wk]; rfl) ⟨by simp [Wk], by simp [Wk]⟩ (fun p hp => .inl MM) rfl rfl rfl) (Ge ?_); refine QY (k := 1) rfl rfl ?_; exact Ez
 ·exact Gb
section
variable {c : Cx} {l : Kx} {L : Jp} {X : XP} {d : List Deferred}
variable {i : Nat} {v : Value} {t : TypeId} {ps : String} {af : Array Edge} {gd : Option (Nat × Bool)} {ty t2 : TypeId}
theorem Jzm {x : Operand} {n : Nat} (hx : Kq l x = some (.int .i64 (m : Int))) (hy : Kq l y = some (.int .i64 (n : Int))) (hm : m < 9223372036854775808) (hn : n < 9223372036854775808) :
  JC c d l L X ⟨some i, .binOp .xor t x y t2, ty, ps, af, gd⟩ (.int .i64 ((m ^^^ n : Nat) : Int)) := fun a' w hfr _ => by
 have e1 : (BitVec.ofInt 64 (m : Int)).toNat = m := by simp [BitVec.toNat_ofInt]; omega
 have e2 : (BitVec.ofInt 64 (n : Int)).toNat = n := by simp [BitVec.toNat_ofInt]; omega
 have hx3 : m ^^^ n < 2 ^ 63 := Nat.xor_lt_two_pow (n := 63) hm hn
 have wr : IntKind.i64.wrap ((m ^^^ n : Nat) : Int) = ((m ^^^ n : Nat) : Int) := wrap_i64 m0 m0
 simp only [execOp]; rw [hfr.eval hx, hfr.eval hy]
 have e3 : (BitVec.ofInt 64 (m : Int) ^^^ BitVec.ofInt 64 (n : Int)).toNat = m ^^^ n := by rw [BitVec.toNat_xor, e1, e2]
 show Sem.run c.P (pure (Next.value (Value.int .i64 (IntKind.i64.wrap (((BitVec.ofInt 64 (m : Int) ^^^ BitVec.ofInt 64 (n : Int)).toNat : Nat) : Int))))) w = _
 rw [e3, wr]; rfl
end
theorem Jrg {n k : Nat} (hn : n < 18446744073709551616) (hk : k % 64 = 0) : Je n k = n := by
 unfold Je
 rw [hk, Nat.pow_zero, Nat.mul_one, Nat.mod_eq_of_lt hn, show 2 ^ (64 - 0) = 18446744073709551616 from rfl, Nat.div_eq_of_lt hn, Nat.or_zero]
theorem zA {n k : Nat} (hn : n < 18446744073709551616) (hk : k < 9223372036854775808) : Pure Tryz.prog 261 [uV n, .int .i64 (k : Int)].toArray (uV (Je n k)) := by
 refine Jz Tryz.func261 rfl rfl fun w => JN ?_
 have hk6 : k % 64 < 64 := Nat.mod_lt _ m7
 refine Jt 9 rfl (Jj (show _ = Value.int .i64 ((k % 64 : Nat) : Int) from congrArg (Value.int .i64) mg) (DE ?_)); refine cD (fun g => ?_) fun g => ?_
 refine KQ 8 rfl (ke fun w1 hs1 => ?_); exact ⟨by rw [Jrg hn m0]; rfl, hs1.keep⟩
 ·refine Jt 7 rfl (Jj (show _ = uV (k % 64) from congrArg (Value.int .u64) (wrap_u64 (z := ((k % 64 : Nat) : Int)) m0 m0)) (DO ?_)); refine Jj (show _ = Value.int .i64 ((64 - k % 64 : Nat) : Int) from congrArg (Value.int .i64) ma) (Vf rfl (Jj (show _ = uV (64 - k % 64) from congrArg (Value.int .u64) (wrap_u64 (z := ((64 - k % 64 : Nat) : Int)) m0 m0)) (LR rfl (jE (n := 64 - k % 64) rfl rfl rfl mL m0 (Zc _ _)) ?_))); exact Hb
def zB : Nat → Nat
 | 0 => 1
 | i + 1 => if zB i * 2 ≥ 256 then zB i * 2 ^^^ 369 else zB i * 2
theorem Jrh : ∀ i, zB i < 256
 | 0 => by decide
 | i + 1 => by
  have h := Jrh i
  have key : ∀ v : Fin 256, (if v.val * 2 ≥ 256 then v.val * 2 ^^^ 369 else v.val * 2) < 256 := by decide +kernel
  exact key ⟨zB i, h⟩
theorem J1c (h : zB i * 2 < 256) : zB (i + 1) = zB i * 2 := by
 show (if zB i * 2 ≥ 256 then zB i * 2 ^^^ 369 else zB i * 2) = _; rw [if_neg m0]
theorem J1d (h : 256 ≤ zB i * 2) : zB (i + 1) = (zB i * 2) ^^^ 369 := by
 show (if zB i * 2 ≥ 256 then zB i * 2 ^^^ 369 else zB i * 2) = _; rw [if_pos h]
def Jv9 (n : Nat) : Nat := zB (n % 255) % 2
theorem Jh3 {n : Nat} (hn : n < 9223372036854775808) : Pure Tryz.prog 262 [.int .i64 (n : Int)].toArray (uV (Jv9 n)) := by
 refine Jz Tryz.func262 rfl rfl fun w => JN (J9 17 rfl (Js (σ := Nat) (fun i => i ≤ n % 255) (fun i => [(0, .int .i64 (n : Int)), (3, .int .i64 (zB i : Int)), (4, .int .i64 (i : Int))]) (fun _ => []) (fun _ _ _ => True) (fun i => n % 255 - i) 0 (Nat.zero_le _) (lK rfl) (List.nil_sublist _) (fun _ _ h => h) ?_)); intro i hi
 have hlf := Jrh i
 refine H8 ?_; refine Jj (show _ = Value.int .i64 ((n % 255 : Nat) : Int) from congrArg (Value.int .i64) mg) (kU ?_); refine cD (fun g => ?_) fun g => ?_
 refine Jt 8 rfl (Jj (show _ = Value.int .i64 ((zB i * 2 : Nat) : Int) from congrArg (Value.int .i64) ma) (HN ?_)); refine cD (fun g => ?_) fun g => ?_
 refine kj ?_; refine LR rfl (Jzm (n := 369) rfl rfl m0 m7) (DC ?_); exact Jm (i + 1) m0 m0 (.cons rfl (.cons (by rw [J1d (i := i) m0]; rfl) (.cons rfl .nil))) (List.nil_sublist _) (fun _ _ h => h)
 refine H8 ?_; refine Nn ?_; exact Jm (i + 1) m0 m0 (.cons rfl (.cons (by rw [J1c (i := i) m0]; rfl) (.cons rfl .nil))) (List.nil_sublist _) (fun _ _ h => h)
 ·refine NK ?_
  have hin : n % 255 = i := by omega
  refine GN ?_; refine Jj (show _ = Value.int .i64 ((zB i % 2 : Nat) : Int) from congrArg (Value.int .i64) mg) (Vf rfl (Jj (show _ = uV (zB i % 2) from congrArg (Value.int .u64) (wrap_u64 (z := ((zB i % 2 : Nat) : Int)) m0 m0)) (J0 4 rfl ?_))); refine ke fun w1 hs1 => ?_; exact ⟨by unfold Jv9; rw [hin]; rfl, hs1.keep⟩
def nbS (i : Nat) : Nat → Nat
 | 0 => 0
 | j + 1 => nbS i j ||| Jv9 (7 * i + j) * 2 ^ (2 ^ j - 1)
theorem Jcd (n : Nat) : Jv9 n < 2 := Nat.mod_lt _ m7
theorem Jh4 {k : Nat} (hb : b < 2) (hk : k ≤ 63) : b * 2 ^ k < 18446744073709551616 := by
 have h1 : (2 : Nat) ^ k ≤ 2 ^ 63 := Nat.pow_le_pow_right m7 hk
 have h2 : b * 2 ^ k ≤ 1 * 2 ^ k := Nat.mul_le_mul_right _ m0
 omega
theorem J1f (h : j < 7) : 1 ≤ 2 ^ j ∧ 2 ^ j ≤ 64 := by
 have h1 : (2 : Nat) ^ j ≤ 2 ^ 6 := Nat.pow_le_pow_right m7 m0
 exact ⟨Nat.one_le_two_pow, h1⟩
theorem Jri (i : Nat) : ∀ j, j ≤ 7 → nbS i j < 18446744073709551616
 | 0, _ => by show 0 < 18446744073709551616; decide
 | j + 1, h => Ji4 (Jri i j m0) (Jh4 (Jcd _) (by have := J1f (j := j) m0; omega))
theorem Jrj : ∀ i : Fin 24, nbS i.val 7 = numsL.getD i.val 0 := by decide +kernel
theorem xy {n : Nat} (hn : n < 24) : Pure Tryz.prog 243 [.int .i64 (n : Int)].toArray (uV (numsL.getD n 0)) := by
 refine Jz Tryz.func243 rfl rfl fun w => JN (J9 22 rfl (Js (σ := Nat) (fun i => i ≤ 7) (fun i => [(0, .int .i64 (n : Int)), (3, uV (nbS n i)), (4, .int .i64 ((2 ^ i : Nat) : Int)), (5, .int .i64 (i : Int))]) (fun _ => []) (fun _ _ _ => True) (fun i => 7 - i) 0 (Nat.zero_le _) (lK rfl) (List.nil_sublist _) (fun _ _ h => h) ?_)); intro i hi; refine E3 ?_; refine cD (fun g => ?_) fun g => ?_
 refine gr ?_
 have hpw := J1f (j := i) m0
 refine GO ?_; refine Jj (show _ = Value.int .i64 ((7 * n : Nat) : Int) from congrArg (Value.int .i64) ma) (NZ ?_); refine Jj (show _ = Value.int .i64 ((7 * n + i : Nat) : Int) from congrArg (Value.int .i64) ma) (J2 rfl rfl rfl (enters_of Tryz.func262 m5 rfl) (Jh3 (n := 7 * n + i) m0) (NZ ?_)); refine Jj (show _ = Value.int .i64 ((2 ^ i - 1 : Nat) : Int) from congrArg (Value.int .i64) ma) (Vf rfl (Jj (show _ = uV (2 ^ i - 1) from congrArg (Value.int .u64) (wrap_u64 (z := ((2 ^ i - 1 : Nat) : Int)) m0 m0)) (LR rfl (ZI (n := 2 ^ i - 1) rfl rfl rfl mL (ql (Jh4 (Jcd _) m0))) ?_))); refine LR rfl (Qa (op := .or) (b := ((nbS n (i + 1) : Nat) : Int)) rfl rfl rfl (Jri n i m0) (Jh4 (Jcd _) m0) rfl) (G1 ?_); refine Jj (show _ = Value.int .i64 ((2 ^ (i + 1) : Nat) : Int) from congrArg (Value.int .i64) (by rw [Nat.pow_succ, wrap_i64 m0 m0]; omega)) (DC ?_); exact kr
 ·refine NK ?_
  have hi7 : 7 = i := by omega
  subst hi7; refine KQ 6 rfl (ke fun w1 hs1 => ?_); exact ⟨by rw [← Jrj ⟨n, hn⟩]; rfl, hs1.keep⟩
def lO (a : List Nat) : Obj := .cells (a.map uV).toArray 188 (0, 0)
theorem Jh5 (ha : SOk 25 a) : Pure Tryz.prog 242 [.agg (a.map uV).toArray].toArray (.agg ((Jbk a).map uV).toArray) := by
 refine Jz Tryz.func242 rfl rfl fun w => JN ?_
 have hal := ha.1
 obtain ⟨cc, hcc⟩ : ∃ c, c = cS a 25 := ⟨_, rfl⟩
 have hc : SOk 5 cc := by rw [hcc]; exact yH ha 25
 have hmx : Jbk a = mS cc a 25 := by rw [hcc]; rfl
 have hck := fun i => yH ha i
 have hmk := fun i => Jd0 hc ha i
 rw [hmx]; refine kK fun r1 r2 => ?_; refine GU ?_; refine KK (cs := ((cS a 0).map uV).toArray) rfl rfl rfl rfl fun r3 => HN ?_; refine Js (σ := Nat) (fun i => i ≤ 25) (fun i => [(1, .pointer (some ⟨r1, 0, none⟩)), (2, .pointer (some ⟨r2, 0, none⟩)), (3, .pointer (some ⟨r3, 0, none⟩)), (4, .int .i64 (i : Int))]) (fun i => [(r3, cO (cS a i)), (r2, lO z25), (r1, lO a)]) (fun _ _ _ => True) (fun i => 25 - i) 0 (Nat.zero_le _) (lK rfl) (List.Sublist.refl _) (fun _ _ h => h) ?_; intro i hi; refine E3 ?_; refine cD (fun g => ?_) fun g => ?_
 refine J9 4 rfl (JR 11 m5 m5 (gk ?_)); refine Kz mC (gk ?_); refine Kz mC (Gg ?_); refine Jb rfl rfl rfl (JX rfl (kn 0 rfl) rfl (Kj (by rw [(hck i).1]; omega))) (Nm ?_); refine NQ ?_; refine Jb rfl rfl rfl (JX rfl (kn 2 rfl) rfl (Kj (by rw [hal]; omega))) (Jb rfl rfl rfl (Qa (op := .xor) (b := (((cS a i).getD (i % 5) 0 ^^^ a.getD i 0 : Nat) : Int)) rfl rfl rfl ((hck i).get _) (ha.get _) rfl) (Gg ?_)); refine Kn (Ks (k := 0) (off := i % 5) (xs := (cS a i).map uV) (ys := (cS a (i + 1)).map uV) rfl rfl rfl rfl rfl rfl (by rw [List.length_map, (hck i).1]; omega) (QV rfl) rfl (G1 ?_)); exact Hz
 ·refine E3 ?_
  have hi25 : 25 = i := by omega
  subst hi25; rw [← hcc]; refine gr ?_; refine Js (σ := Nat) (fun i => i ≤ 25) (fun i => [(1, .pointer (some ⟨r1, 0, none⟩)), (2, .pointer (some ⟨r2, 0, none⟩)), (3, .pointer (some ⟨r3, 0, none⟩)), (5, .int .i64 (i : Int))]) (fun i => [(r3, cO cc), (r2, lO z25), (r1, lO (mS cc a i))]) (fun _ _ _ => True) (fun i => 25 - i) 0 (Nat.zero_le _) (lK rfl) (List.Sublist.refl _) (fun _ _ h => h) ?_; intro i hi; refine E3 ?_; refine cD (fun g => ?_) fun g => ?_
  refine Jt 8 rfl (Jj mC (kU ?_)); refine JR 18 m5 m5 (kp ?_); refine NQ ?_; refine Jb rfl rfl rfl (JX rfl (kn 2 rfl) rfl (Kj (by rw [(hmk i).1]; omega))) (gk ?_); refine HP ?_; refine Jb rfl rfl rfl (JX rfl (kn 0 rfl) rfl (Kj Nb)) (Jb rfl rfl rfl (Qa (op := .xor) (b := (((mS cc a i).getD i 0 ^^^ cc.getD ((i % 5 + 5 - 1) % 5) 0 : Nat) : Int)) rfl rfl rfl ((hmk i).get _) (hc.get _) rfl) (Hv ?_)); refine Jb rfl rfl rfl (JX rfl (kn 0 rfl) rfl (Kj Nb)) (Qk rfl rfl rfl (enters_of Tryz.func261 m5 rfl) (zA (k := 1) (hc.get _) m7) (Jb rfl rfl rfl (Qa (op := .xor) (b := (((mS cc a i).getD i 0 ^^^ (cc.getD ((i % 5 + 5 - 1) % 5) 0 ^^^ Je (cc.getD ((i % 5 + 1) % 5) 0) 1) : Nat) : Int)) rfl rfl rfl (Wj ((hmk i).get _) (hc.get _)) (jw (hc.get _) 1) (congrArg (fun z : Nat => (z : Int)) (Nat.xor_assoc _ _ _))) (NQ ?_))); refine Kn (Ks (k := 2) (off := i) (xs := (mS cc a i).map uV) (ys := (mS cc a (i + 1)).map uV) rfl rfl rfl rfl rfl rfl (by rw [List.length_map, (hmk i).1]; omega) (QV rfl) rfl (G1 ?_)); exact Hz
  ·refine NK ?_
   have hi25 : 25 = i := by omega
   subst hi25; refine Dq ?_; refine LR rfl (Ji (xs := (mS cc a 25).map uV) (n := 25) rfl (kn 2 rfl) rfl rfl (by rw [List.length_map, (hmk 25).1])) (Jv (k := 1) (n := 25) (ys := (mS cc a 25).map uV) rfl rfl rfl rfl rfl (by rw [List.length_map, (hmk 25).1]) rfl (VQ _) rfl (Ha ?_)); refine Jn rfl rfl (.cons (J4 (vs := (mS cc a 25).map uV) rfl (kn 1 rfl) rfl (by rw [List.length_map, (hmk 25).1]; rfl)) .nil) (fun w1 hs1 => ?_); exact Ns
def tXY : Nat → Nat × Nat
 | 0 => (1, 0)
 | t + 1 => ((tXY t).2, (2 * (tXY t).1 + 3 * (tXY t).2) % 5)
def tX (t : Nat) : Nat := (tXY t).1
def tY (t : Nat) : Nat := (tXY t).2
theorem Jrk : ∀ t, tX t < 5 ∧ tY t < 5
 | 0 => by decide
 | t + 1 => ⟨(Jrk t).2, Nat.mod_lt _ m7⟩
def tS (a : List Nat) : Nat → List Nat
 | 0 => a
 | t + 1 => (tS a t).set (tX t + 5 * tY t) (Je ((tS a t).getD (tX t + 5 * tY t) 0) ((t + 1) * (t + 2) / 2))
theorem Jkc {a : List Nat} (h : SOk 25 a) : ∀ t, SOk 25 (tS a t)
 | 0 => h
 | t + 1 => (Jkc h t).set _ (jw ((Jkc h t).get _) _)
def bS (a : List Nat) : Nat → List Nat
 | 0 => z25
 | i + 1 => (bS a i).set (i / 5 + 5 * ((2 * (i % 5) + 3 * (i / 5)) % 5)) (a.getD i 0)
theorem Jx6 {a : List Nat} (h : SOk 25 a) : ∀ i, SOk 25 (bS a i)
 | 0 => Jg7
 | i + 1 => (Jx6 h i).set _ (h.get _)
theorem Jrl (h : a.length = 25) : ∃ a0 a1 a2 a3 a4 a5 a6 a7 a8 a9 a10 a11 a12 a13 a14 a15 a16 a17 a18 a19 a20 a21 a22 a23 a24, a = [a0, a1, a2, a3, a4, a5, a6, a7, a8, a9, a10, a11, a12, a13, a14, a15, a16, a17, a18, a19, a20, a21, a22, a23, a24] := by
 match a, h with
 | [a0, a1, a2, a3, a4, a5, a6, a7, a8, a9, a10, a11, a12, a13, a14, a15, a16, a17, a18, a19, a20, a21, a22, a23, a24], _ => exact ⟨_, _, _, _, _, _, _, _, _, _, _, _, _, _, _, _, _, _, _, _, _, _, _, _, _, rfl⟩
theorem Jmw (a0 a1 a2 a3 a4 a5 a6 a7 a8 a9 a10 a11 a12 a13 a14 a15 a16 a17 a18 a19 a20 a21 a22 a23 a24 : Nat) : rS [a0, a1, a2, a3, a4, a5, a6, a7, a8, a9, a10, a11, a12, a13, a14, a15, a16, a17, a18, a19, a20, a21, a22, a23, a24] turnsL 25 = [Je a0 0, Je a6 44, Je a12 43, Je a18 21, Je a24 14, Je a3 28, Je a9 20, Je a10 3, Je a16 45, Je a22 61, Je a1 1, Je a7 6, Je a13 25, Je a19 8, Je a20 18, Je a4 27, Je a5 36, Je a11 10, Je a17 15, Je a23 56, Je a2 62, Je a8 55, Je a14 39, Je a15 41, Je a21 2] := by kernel_rfl
theorem Jh6 (a0 a1 a2 a3 a4 a5 a6 a7 a8 a9 a10 a11 a12 a13 a14 a15 a16 a17 a18 a19 a20 a21 a22 a23 a24 : Nat) : tS [a0, a1, a2, a3, a4, a5, a6, a7, a8, a9, a10, a11, a12, a13, a14, a15, a16, a17, a18, a19, a20, a21, a22, a23, a24] 24 = [a0, Je a1 1, Je a2 190, Je a3 28, Je a4 91, Je a5 36, Je a6 300, Je a7 6, Je a8 55, Je a9 276, Je a10 3, Je a11 10, Je a12 171, Je a13 153, Je a14 231, Je a15 105, Je a16 45, Je a17 15, Je a18 21, Je a19 136, Je a20 210, Je a21 66, Je a22 253, Je a23 120, Je a24 78] := by
 have h1 : tS [a0, a1, a2, a3, a4, a5, a6, a7, a8, a9, a10, a11, a12, a13, a14, a15, a16, a17, a18, a19, a20, a21, a22, a23, a24] 1 = [a0, Je a1 1, a2, a3, a4, a5, a6, a7, a8, a9, a10, a11, a12, a13, a14, a15, a16, a17, a18, a19, a20, a21, a22, a23, a24] := by
  show (tS [a0, a1, a2, a3, a4, a5, a6, a7, a8, a9, a10, a11, a12, a13, a14, a15, a16, a17, a18, a19, a20, a21, a22, a23, a24] 0).set (tX 0 + 5 * tY 0) (Je ((tS [a0, a1, a2, a3, a4, a5, a6, a7, a8, a9, a10, a11, a12, a13, a14, a15, a16, a17, a18, a19, a20, a21, a22, a23, a24] 0).getD (tX 0 + 5 * tY 0) 0) ((0 + 1) * (0 + 2) / 2)) = _
  rw [show tS [a0, a1, a2, a3, a4, a5, a6, a7, a8, a9, a10, a11, a12, a13, a14, a15, a16, a17, a18, a19, a20, a21, a22, a23, a24] 0 = [a0, a1, a2, a3, a4, a5, a6, a7, a8, a9, a10, a11, a12, a13, a14, a15, a16, a17, a18, a19, a20, a21, a22, a23, a24] from rfl, show tX 0 + 5 * tY 0 = 1 from rfl]; rfl
 have h2 : tS [a0, a1, a2, a3, a4, a5, a6, a7, a8, a9, a10, a11, a12, a13, a14, a15, a16, a17, a18, a19, a20, a21, a22, a23, a24] 2 = [a0, Je a1 1, a2, a3, a4, a5, a6, a7, a8, a9, Je a10 3, a11, a12, a13, a14, a15, a16, a17, a18, a19, a20, a21, a22, a23, a24] := by
  show (tS [a0, a1, a2, a3, a4, a5, a6, a7, a8, a9, a10, a11, a12, a13, a14, a15, a16, a17, a18, a19, a20, a21, a22, a23, a24] 1).set (tX 1 + 5 * tY 1) (Je ((tS [a0, a1, a2, a3, a4, a5, a6, a7, a8, a9, a10, a11, a12, a13, a14, a15, a16, a17, a18, a19, a20, a21, a22, a23, a24] 1).getD (tX 1 + 5 * tY 1) 0) ((1 + 1) * (1 + 2) / 2)) = _
  rw [h1, show tX 1 + 5 * tY 1 = 10 from rfl]; rfl
 have h3 : tS [a0, a1, a2, a3, a4, a5, a6, a7, a8, a9, a10, a11, a12, a13, a14, a15, a16, a17, a18, a19, a20, a21, a22, a23, a24] 3 = [a0, Je a1 1, a2, a3, a4, a5, a6, Je a7 6, a8, a9, Je a10 3, a11, a12, a13, a14, a15, a16, a17, a18, a19, a20, a21, a22, a23, a24] := by
  show (tS [a0, a1, a2, a3, a4, a5, a6, a7, a8, a9, a10, a11, a12, a13, a14, a15, a16, a17, a18, a19, a20, a21, a22, a23, a24] 2).set (tX 2 + 5 * tY 2) (Je ((tS [a0, a1, a2, a3, a4, a5, a6, a7, a8, a9, a10, a11, a12, a13, a14, a15, a16, a17, a18, a19, a20, a21, a22, a23, a24] 2).getD (tX 2 + 5 * tY 2) 0) ((2 + 1) * (2 + 2) / 2)) = _
  rw [h2, show tX 2 + 5 * tY 2 = 7 from rfl]; rfl
 have h4 : tS [a0, a1, a2, a3, a4, a5, a6, a7, a8, a9, a10, a11, a12, a13, a14, a15, a16, a17, a18, a19, a20, a21, a22, a23, a24] 4 = [a0, Je a1 1, a2, a3, a4, a5, a6, Je a7 6, a8, a9, Je a10 3, Je a11 10, a12, a13, a14, a15, a16, a17, a18, a19, a20, a21, a22, a23, a24] := by
  show (tS [a0, a1, a2, a3, a4, a5, a6, a7, a8, a9, a10, a11, a12, a13, a14, a15, a16, a17, a18, a19, a20, a21, a22, a23, a24] 3).set (tX 3 + 5 * tY 3) (Je ((tS [a0, a1, a2, a3, a4, a5, a6, a7, a8, a9, a10, a11, a12, a13, a14, a15, a16, a17, a18, a19, a20, a21, a22, a23, a24] 3).getD (tX 3 + 5 * tY 3) 0) ((3 + 1) * (3 + 2) / 2)) = _
  rw [h3, show tX 3 + 5 * tY 3 = 11 from rfl]; rfl
 have h5 : tS [a0, a1, a2, a3, a4, a5, a6, a7, a8, a9, a10, a11, a12, a13, a14, a15, a16, a17, a18, a19, a20, a21, a22, a23, a24] 5 = [a0, Je a1 1, a2, a3, a4, a5, a6, Je a7 6, a8, a9, Je a10 3, Je a11 10, a12, a13, a14, a15, a16, Je a17 15, a18, a19, a20, a21, a22, a23, a24] := by
  show (tS [a0, a1, a2, a3, a4, a5, a6, a7, a8, a9, a10, a11, a12, a13, a14, a15, a16, a17, a18, a19, a20, a21, a22, a23, a24] 4).set (tX 4 + 5 * tY 4) (Je ((tS [a0, a1, a2, a3, a4, a5, a6, a7, a8, a9, a10, a11, a12, a13, a14, a15, a16, a17, a18, a19, a20, a21, a22, a23, a24] 4).getD (tX 4 + 5 * tY 4) 0) ((4 + 1) * (4 + 2) / 2)) = _
  rw [h4, show tX 4 + 5 * tY 4 = 17 from rfl]; rfl
 have h6 : tS [a0, a1, a2, a3, a4, a5, a6, a7, a8, a9, a10, a11, a12, a13, a14, a15, a16, a17, a18, a19, a20, a21, a22, a23, a24] 6 = [a0, Je a1 1, a2, a3, a4, a5, a6, Je a7 6, a8, a9, Je a10 3, Je a11 10, a12, a13, a14, a15, a16, Je a17 15, Je a18 21, a19, a20, a21, a22, a23, a24] := by
  show (tS [a0, a1, a2, a3, a4, a5, a6, a7, a8, a9, a10, a11, a12, a13, a14, a15, a16, a17, a18, a19, a20, a21, a22, a23, a24] 5).set (tX 5 + 5 * tY 5) (Je ((tS [a0, a1, a2, a3, a4, a5, a6, a7, a8, a9, a10, a11, a12, a13, a14, a15, a16, a17, a18, a19, a20, a21, a22, a23, a24] 5).getD (tX 5 + 5 * tY 5) 0) ((5 + 1) * (5 + 2) / 2)) = _
  rw [h5, show tX 5 + 5 * tY 5 = 18 from rfl]; rfl
 have h7 : tS [a0, a1, a2, a3, a4, a5, a6, a7, a8, a9, a10, a11, a12, a13, a14, a15, a16, a17, a18, a19, a20, a21, a22, a23, a24] 7 = [a0, Je a1 1, a2, Je a3 28, a4, a5, a6, Je a7 6, a8, a9, Je a10 3, Je a11 10, a12, a13, a14, a15, a16, Je a17 15, Je a18 21, a19, a20, a21, a22, a23, a24] := by
  show (tS [a0, a1, a2, a3, a4, a5, a6, a7, a8, a9, a10, a11, a12, a13, a14, a15, a16, a17, a18, a19, a20, a21, a22, a23, a24] 6).set (tX 6 + 5 * tY 6) (Je ((tS [a0, a1, a2, a3, a4, a5, a6, a7, a8, a9, a10, a11, a12, a13, a14, a15, a16, a17, a18, a19, a20, a21, a22, a23, a24] 6).getD (tX 6 + 5 * tY 6) 0) ((6 + 1) * (6 + 2) / 2)) = _
  rw [h6, show tX 6 + 5 * tY 6 = 3 from rfl]; rfl
 have h8 : tS [a0, a1, a2, a3, a4, a5, a6, a7, a8, a9, a10, a11, a12, a13, a14, a15, a16, a17, a18, a19, a20, a21, a22, a23, a24] 8 = [a0, Je a1 1, a2, Je a3 28, a4, Je a5 36, a6, Je a7 6, a8, a9, Je a10 3, Je a11 10, a12, a13, a14, a15, a16, Je a17 15, Je a18 21, a19, a20, a21, a22, a23, a24] := by
  show (tS [a0, a1, a2, a3, a4, a5, a6, a7, a8, a9, a10, a11, a12, a13, a14, a15, a16, a17, a18, a19, a20, a21, a22, a23, a24] 7).set (tX 7 + 5 * tY 7) (Je ((tS [a0, a1, a2, a3, a4, a5, a6, a7, a8, a9, a10, a11, a12, a13, a14, a15, a16, a17, a18, a19, a20, a21, a22, a23, a24] 7).getD (tX 7 + 5 * tY 7) 0) ((7 + 1) * (7 + 2) / 2)) = _
  rw [h7, show tX 7 + 5 * tY 7 = 5 from rfl]; rfl
 have h9 : tS [a0, a1, a2, a3, a4, a5, a6, a7, a8, a9, a10, a11, a12, a13, a14, a15, a16, a17, a18, a19, a20, a21, a22, a23, a24] 9 = [a0, Je a1 1, a2, Je a3 28, a4, Je a5 36, a6, Je a7 6, a8, a9, Je a10 3, Je a11 10, a12, a13, a14, a15, Je a16 45, Je a17 15, Je a18 21, a19, a20, a21, a22, a23, a24] := by
  show (tS [a0, a1, a2, a3, a4, a5, a6, a7, a8, a9, a10, a11, a12, a13, a14, a15, a16, a17, a18, a19, a20, a21, a22, a23, a24] 8).set (tX 8 + 5 * tY 8) (Je ((tS [a0, a1, a2, a3, a4, a5, a6, a7, a8, a9, a10, a11, a12, a13, a14, a15, a16, a17, a18, a19, a20, a21, a22, a23, a24] 8).getD (tX 8 + 5 * tY 8) 0) ((8 + 1) * (8 + 2) / 2)) = _
  rw [h8, show tX 8 + 5 * tY 8 = 16 from rfl]; rfl
 have h10 : tS [a0, a1, a2, a3, a4, a5, a6, a7, a8, a9, a10, a11, a12, a13, a14, a15, a16, a17, a18, a19, a20, a21, a22, a23, a24] 10 = [a0, Je a1 1, a2, Je a3 28, a4, Je a5 36, a6, Je a7 6, Je a8 55, a9, Je a10 3, Je a11 10, a12, a13, a14, a15, Je a16 45, Je a17 15, Je a18 21, a19, a20, a21, a22, a23, a24] := by
  show (tS [a0, a1, a2, a3, a4, a5, a6, a7, a8, a9, a10, a11, a12, a13, a14, a15, a16, a17, a18, a19, a20, a21, a22, a23, a24] 9).set (tX 9 + 5 * tY 9) (Je ((tS [a0, a1, a2, a3, a4, a5, a6, a7, a8, a9, a10, a11, a12, a13, a14, a15, a16, a17, a18, a19, a20, a21, a22, a23, a24] 9).getD (tX 9 + 5 * tY 9) 0) ((9 + 1) * (9 + 2) / 2)) = _
  rw [h9, show tX 9 + 5 * tY 9 = 8 from rfl]; rfl
 have h11 : tS [a0, a1, a2, a3, a4, a5, a6, a7, a8, a9, a10, a11, a12, a13, a14, a15, a16, a17, a18, a19, a20, a21, a22, a23, a24] 11 = [a0, Je a1 1, a2, Je a3 28, a4, Je a5 36, a6, Je a7 6, Je a8 55, a9, Je a10 3, Je a11 10, a12, a13, a14, a15, Je a16 45, Je a17 15, Je a18 21, a19, a20, Je a21 66, a22, a23, a24] := by
  show (tS [a0, a1, a2, a3, a4, a5, a6, a7, a8, a9, a10, a11, a12, a13, a14, a15, a16, a17, a18, a19, a20, a21, a22, a23, a24] 10).set (tX 10 + 5 * tY 10) (Je ((tS [a0, a1, a2, a3, a4, a5, a6, a7, a8, a9, a10, a11, a12, a13, a14, a15, a16, a17, a18, a19, a20, a21, a22, a23, a24] 10).getD (tX 10 + 5 * tY 10) 0) ((10 + 1) * (10 + 2) / 2)) = _
  rw [h10, show tX 10 + 5 * tY 10 = 21 from rfl]; rfl
 have h12 : tS [a0, a1, a2, a3, a4, a5, a6, a7, a8, a9, a10, a11, a12, a13, a14, a15, a16, a17, a18, a19, a20, a21, a22, a23, a24] 12 = [a0, Je a1 1, a2, Je a3 28, a4, Je a5 36, a6, Je a7 6, Je a8 55, a9, Je a10 3, Je a11 10, a12, a13, a14, a15, Je a16 45, Je a17 15, Je a18 21, a19, a20, Je a21 66, a22, a23, Je a24 78] := by
  show (tS [a0, a1, a2, a3, a4, a5, a6, a7, a8, a9, a10, a11, a12, a13, a14, a15, a16, a17, a18, a19, a20, a21, a22, a23, a24] 11).set (tX 11 + 5 * tY 11) (Je ((tS [a0, a1, a2, a3, a4, a5, a6, a7, a8, a9, a10, a11, a12, a13, a14, a15, a16, a17, a18, a19, a20, a21, a22, a23, a24] 11).getD (tX 11 + 5 * tY 11) 0) ((11 + 1) * (11 + 2) / 2)) = _
  rw [h11, show tX 11 + 5 * tY 11 = 24 from rfl]; rfl
 have h13 : tS [a0, a1, a2, a3, a4, a5, a6, a7, a8, a9, a10, a11, a12, a13, a14, a15, a16, a17, a18, a19, a20, a21, a22, a23, a24] 13 = [a0, Je a1 1, a2, Je a3 28, Je a4 91, Je a5 36, a6, Je a7 6, Je a8 55, a9, Je a10 3, Je a11 10, a12, a13, a14, a15, Je a16 45, Je a17 15, Je a18 21, a19, a20, Je a21 66, a22, a23, Je a24 78] := by
  show (tS [a0, a1, a2, a3, a4, a5, a6, a7, a8, a9, a10, a11, a12, a13, a14, a15, a16, a17, a18, a19, a20, a21, a22, a23, a24] 12).set (tX 12 + 5 * tY 12) (Je ((tS [a0, a1, a2, a3, a4, a5, a6, a7, a8, a9, a10, a11, a12, a13, a14, a15, a16, a17, a18, a19, a20, a21, a22, a23, a24] 12).getD (tX 12 + 5 * tY 12) 0) ((12 + 1) * (12 + 2) / 2)) = _
  rw [h12, show tX 12 + 5 * tY 12 = 4 from rfl]; rfl
 have h14 : tS [a0, a1, a2, a3, a4, a5, a6, a7, a8, a9, a10, a11, a12, a13, a14, a15, a16, a17, a18, a19, a20, a21, a22, a23, a24] 14 = [a0, Je a1 1, a2, Je a3 28, Je a4 91, Je a5 36, a6, Je a7 6, Je a8 55, a9, Je a10 3, Je a11 10, a12, a13, a14, Je a15 105, Je a16 45, Je a17 15, Je a18 21, a19, a20, Je a21 66, a22, a23, Je a24 78] := by
  show (tS [a0, a1, a2, a3, a4, a5, a6, a7, a8, a9, a10, a11, a12, a13, a14, a15, a16, a17, a18, a19, a20, a21, a22, a23, a24] 13).set (tX 13 + 5 * tY 13) (Je ((tS [a0, a1, a2, a3, a4, a5, a6, a7, a8, a9, a10, a11, a12, a13, a14, a15, a16, a17, a18, a19, a20, a21, a22, a23, a24] 13).getD (tX 13 + 5 * tY 13) 0) ((13 + 1) * (13 + 2) / 2)) = _
  rw [h13, show tX 13 + 5 * tY 13 = 15 from rfl]; rfl
 have h15 : tS [a0, a1, a2, a3, a4, a5, a6, a7, a8, a9, a10, a11, a12, a13, a14, a15, a16, a17, a18, a19, a20, a21, a22, a23, a24] 15 = [a0, Je a1 1, a2, Je a3 28, Je a4 91, Je a5 36, a6, Je a7 6, Je a8 55, a9, Je a10 3, Je a11 10, a12, a13, a14, Je a15 105, Je a16 45, Je a17 15, Je a18 21, a19, a20, Je a21 66, a22, Je a23 120, Je a24 78] := by
  show (tS [a0, a1, a2, a3, a4, a5, a6, a7, a8, a9, a10, a11, a12, a13, a14, a15, a16, a17, a18, a19, a20, a21, a22, a23, a24] 14).set (tX 14 + 5 * tY 14) (Je ((tS [a0, a1, a2, a3, a4, a5, a6, a7, a8, a9, a10, a11, a12, a13, a14, a15, a16, a17, a18, a19, a20, a21, a22, a23, a24] 14).getD (tX 14 + 5 * tY 14) 0) ((14 + 1) * (14 + 2) / 2)) = _
  rw [h14, show tX 14 + 5 * tY 14 = 23 from rfl]; rfl
 have h16 : tS [a0, a1, a2, a3, a4, a5, a6, a7, a8, a9, a10, a11, a12, a13, a14, a15, a16, a17, a18, a19, a20, a21, a22, a23, a24] 16 = [a0, Je a1 1, a2, Je a3 28, Je a4 91, Je a5 36, a6, Je a7 6, Je a8 55, a9, Je a10 3, Je a11 10, a12, a13, a14, Je a15 105, Je a16 45, Je a17 15, Je a18 21, Je a19 136, a20, Je a21 66, a22, Je a23 120, Je a24 78] := by
  show (tS [a0, a1, a2, a3, a4, a5, a6, a7, a8, a9, a10, a11, a12, a13, a14, a15, a16, a17, a18, a19, a20, a21, a22, a23, a24] 15).set (tX 15 + 5 * tY 15) (Je ((tS [a0, a1, a2, a3, a4, a5, a6, a7, a8, a9, a10, a11, a12, a13, a14, a15, a16, a17, a18, a19, a20, a21, a22, a23, a24] 15).getD (tX 15 + 5 * tY 15) 0) ((15 + 1) * (15 + 2) / 2)) = _
  rw [h15, show tX 15 + 5 * tY 15 = 19 from rfl]; rfl
 have h17 : tS [a0, a1, a2, a3, a4, a5, a6, a7, a8, a9, a10, a11, a12, a13, a14, a15, a16, a17, a18, a19, a20, a21, a22, a23, a24] 17 = [a0, Je a1 1, a2, Je a3 28, Je a4 91, Je a5 36, a6, Je a7 6, Je a8 55, a9, Je a10 3, Je a11 10, a12, Je a13 153, a14, Je a15 105, Je a16 45, Je a17 15, Je a18 21, Je a19 136, a20, Je a21 66, a22, Je a23 120, Je a24 78] := by
  show (tS [a0, a1, a2, a3, a4, a5, a6, a7, a8, a9, a10, a11, a12, a13, a14, a15, a16, a17, a18, a19, a20, a21, a22, a23, a24] 16).set (tX 16 + 5 * tY 16) (Je ((tS [a0, a1, a2, a3, a4, a5, a6, a7, a8, a9, a10, a11, a12, a13, a14, a15, a16, a17, a18, a19, a20, a21, a22, a23, a24] 16).getD (tX 16 + 5 * tY 16) 0) ((16 + 1) * (16 + 2) / 2)) = _
  rw [h16, show tX 16 + 5 * tY 16 = 13 from rfl]; rfl
 have h18 : tS [a0, a1, a2, a3, a4, a5, a6, a7, a8, a9, a10, a11, a12, a13, a14, a15, a16, a17, a18, a19, a20, a21, a22, a23, a24] 18 = [a0, Je a1 1, a2, Je a3 28, Je a4 91, Je a5 36, a6, Je a7 6, Je a8 55, a9, Je a10 3, Je a11 10, Je a12 171, Je a13 153, a14, Je a15 105, Je a16 45, Je a17 15, Je a18 21, Je a19 136, a20, Je a21 66, a22, Je a23 120, Je a24 78] := by
  show (tS [a0, a1, a2, a3, a4, a5, a6, a7, a8, a9, a10, a11, a12, a13, a14, a15, a16, a17, a18, a19, a20, a21, a22, a23, a24] 17).set (tX 17 + 5 * tY 17) (Je ((tS [a0, a1, a2, a3, a4, a5, a6, a7, a8, a9, a10, a11, a12, a13, a14, a15, a16, a17, a18, a19, a20, a21, a22, a23, a24] 17).getD (tX 17 + 5 * tY 17) 0) ((17 + 1) * (17 + 2) / 2)) = _
  rw [h17, show tX 17 + 5 * tY 17 = 12 from rfl]; rfl
 have h19 : tS [a0, a1, a2, a3, a4, a5, a6, a7, a8, a9, a10, a11, a12, a13, a14, a15, a16, a17, a18, a19, a20, a21, a22, a23, a24] 19 = [a0, Je a1 1, Je a2 190, Je a3 28, Je a4 91, Je a5 36, a6, Je a7 6, Je a8 55, a9, Je a10 3, Je a11 10, Je a12 171, Je a13 153, a14, Je a15 105, Je a16 45, Je a17 15, Je a18 21, Je a19 136, a20, Je a21 66, a22, Je a23 120, Je a24 78] := by
  show (tS [a0, a1, a2, a3, a4, a5, a6, a7, a8, a9, a10, a11, a12, a13, a14, a15, a16, a17, a18, a19, a20, a21, a22, a23, a24] 18).set (tX 18 + 5 * tY 18) (Je ((tS [a0, a1, a2, a3, a4, a5, a6, a7, a8, a9, a10, a11, a12, a13, a14, a15, a16, a17, a18, a19, a20, a21, a22, a23, a24] 18).getD (tX 18 + 5 * tY 18) 0) ((18 + 1) * (18 + 2) / 2)) = _
  rw [h18, show tX 18 + 5 * tY 18 = 2 from rfl]; rfl
 have h20 : tS [a0, a1, a2, a3, a4, a5, a6, a7, a8, a9, a10, a11, a12, a13, a14, a15, a16, a17, a18, a19, a20, a21, a22, a23, a24] 20 = [a0, Je a1 1, Je a2 190, Je a3 28, Je a4 91, Je a5 36, a6, Je a7 6, Je a8 55, a9, Je a10 3, Je a11 10, Je a12 171, Je a13 153, a14, Je a15 105, Je a16 45, Je a17 15, Je a18 21, Je a19 136, Je a20 210, Je a21 66, a22, Je a23 120, Je a24 78] := by
  show (tS [a0, a1, a2, a3, a4, a5, a6, a7, a8, a9, a10, a11, a12, a13, a14, a15, a16, a17, a18, a19, a20, a21, a22, a23, a24] 19).set (tX 19 + 5 * tY 19) (Je ((tS [a0, a1, a2, a3, a4, a5, a6, a7, a8, a9, a10, a11, a12, a13, a14, a15, a16, a17, a18, a19, a20, a21, a22, a23, a24] 19).getD (tX 19 + 5 * tY 19) 0) ((19 + 1) * (19 + 2) / 2)) = _
  rw [h19, show tX 19 + 5 * tY 19 = 20 from rfl]; rfl
 have h21 : tS [a0, a1, a2, a3, a4, a5, a6, a7, a8, a9, a10, a11, a12, a13, a14, a15, a16, a17, a18, a19, a20, a21, a22, a23, a24] 21 = [a0, Je a1 1, Je a2 190, Je a3 28, Je a4 91, Je a5 36, a6, Je a7 6, Je a8 55, a9, Je a10 3, Je a11 10, Je a12 171, Je a13 153, Je a14 231, Je a15 105, Je a16 45, Je a17 15, Je a18 21, Je a19 136, Je a20 210, Je a21 66, a22, Je a23 120, Je a24 78] := by
  show (tS [a0, a1, a2, a3, a4, a5, a6, a7, a8, a9, a10, a11, a12, a13, a14, a15, a16, a17, a18, a19, a20, a21, a22, a23, a24] 20).set (tX 20 + 5 * tY 20) (Je ((tS [a0, a1, a2, a3, a4, a5, a6, a7, a8, a9, a10, a11, a12, a13, a14, a15, a16, a17, a18, a19, a20, a21, a22, a23, a24] 20).getD (tX 20 + 5 * tY 20) 0) ((20 + 1) * (20 + 2) / 2)) = _
  rw [h20, show tX 20 + 5 * tY 20 = 14 from rfl]; rfl
 have h22 : tS [a0, a1, a2, a3, a4, a5, a6, a7, a8, a9, a10, a11, a12, a13, a14, a15, a16, a17, a18, a19, a20, a21, a22, a23, a24] 22 = [a0, Je a1 1, Je a2 190, Je a3 28, Je a4 91, Je a5 36, a6, Je a7 6, Je a8 55, a9, Je a10 3, Je a11 10, Je a12 171, Je a13 153, Je a14 231, Je a15 105, Je a16 45, Je a17 15, Je a18 21, Je a19 136, Je a20 210, Je a21 66, Je a22 253, Je a23 120, Je a24 78] := by
  show (tS [a0, a1, a2, a3, a4, a5, a6, a7, a8, a9, a10, a11, a12, a13, a14, a15, a16, a17, a18, a19, a20, a21, a22, a23, a24] 21).set (tX 21 + 5 * tY 21) (Je ((tS [a0, a1, a2, a3, a4, a5, a6, a7, a8, a9, a10, a11, a12, a13, a14, a15, a16, a17, a18, a19, a20, a21, a22, a23, a24] 21).getD (tX 21 + 5 * tY 21) 0) ((21 + 1) * (21 + 2) / 2)) = _
  rw [h21, show tX 21 + 5 * tY 21 = 22 from rfl]; rfl
 have h23 : tS [a0, a1, a2, a3, a4, a5, a6, a7, a8, a9, a10, a11, a12, a13, a14, a15, a16, a17, a18, a19, a20, a21, a22, a23, a24] 23 = [a0, Je a1 1, Je a2 190, Je a3 28, Je a4 91, Je a5 36, a6, Je a7 6, Je a8 55, Je a9 276, Je a10 3, Je a11 10, Je a12 171, Je a13 153, Je a14 231, Je a15 105, Je a16 45, Je a17 15, Je a18 21, Je a19 136, Je a20 210, Je a21 66, Je a22 253, Je a23 120, Je a24 78] := by
  show (tS [a0, a1, a2, a3, a4, a5, a6, a7, a8, a9, a10, a11, a12, a13, a14, a15, a16, a17, a18, a19, a20, a21, a22, a23, a24] 22).set (tX 22 + 5 * tY 22) (Je ((tS [a0, a1, a2, a3, a4, a5, a6, a7, a8, a9, a10, a11, a12, a13, a14, a15, a16, a17, a18, a19, a20, a21, a22, a23, a24] 22).getD (tX 22 + 5 * tY 22) 0) ((22 + 1) * (22 + 2) / 2)) = _
  rw [h22, show tX 22 + 5 * tY 22 = 9 from rfl]; rfl
 have h24 : tS [a0, a1, a2, a3, a4, a5, a6, a7, a8, a9, a10, a11, a12, a13, a14, a15, a16, a17, a18, a19, a20, a21, a22, a23, a24] 24 = [a0, Je a1 1, Je a2 190, Je a3 28, Je a4 91, Je a5 36, Je a6 300, Je a7 6, Je a8 55, Je a9 276, Je a10 3, Je a11 10, Je a12 171, Je a13 153, Je a14 231, Je a15 105, Je a16 45, Je a17 15, Je a18 21, Je a19 136, Je a20 210, Je a21 66, Je a22 253, Je a23 120, Je a24 78] := by
  show (tS [a0, a1, a2, a3, a4, a5, a6, a7, a8, a9, a10, a11, a12, a13, a14, a15, a16, a17, a18, a19, a20, a21, a22, a23, a24] 23).set (tX 23 + 5 * tY 23) (Je ((tS [a0, a1, a2, a3, a4, a5, a6, a7, a8, a9, a10, a11, a12, a13, a14, a15, a16, a17, a18, a19, a20, a21, a22, a23, a24] 23).getD (tX 23 + 5 * tY 23) 0) ((23 + 1) * (23 + 2) / 2)) = _
  rw [h23, show tX 23 + 5 * tY 23 = 6 from rfl]; rfl
 exact h24
theorem Jh7 (a0 a1 a2 a3 a4 a5 a6 a7 a8 a9 a10 a11 a12 a13 a14 a15 a16 a17 a18 a19 a20 a21 a22 a23 a24 : Nat) : bS [a0, a1, a2, a3, a4, a5, a6, a7, a8, a9, a10, a11, a12, a13, a14, a15, a16, a17, a18, a19, a20, a21, a22, a23, a24] 25 = [a0, a6, a12, a18, a24, a3, a9, a10, a16, a22, a1, a7, a13, a19, a20, a4, a5, a11, a17, a23, a2, a8, a14, a15, a21] := by kernel_rfl
theorem Jmx (h : SOk 25 a) : bS (tS a 24) 25 = rS a turnsL 25 := by
 obtain ⟨a0, a1, a2, a3, a4, a5, a6, a7, a8, a9, a10, a11, a12, a13, a14, a15, a16, a17, a18, a19, a20, a21, a22, a23, a24, rfl⟩ := Jrl h.1
 rw [Jmw, Jh6, Jh7, Jrg (h.2 a0 List.mem_cons_self) rfl]; rfl
theorem Je7 (b : List Nat) (a0 a1 a2 a3 a4 a5 a6 a7 a8 a9 a10 a11 a12 a13 a14 a15 a16 a17 a18 a19 a20 a21 a22 a23 a24 : Nat) : xS b [a0, a1, a2, a3, a4, a5, a6, a7, a8, a9, a10, a11, a12, a13, a14, a15, a16, a17, a18, a19, a20, a21, a22, a23, a24] 25 = [WA b 0, WA b 1, WA b 2, WA b 3, WA b 4, WA b 5, WA b 6, WA b 7, WA b 8, WA b 9, WA b 10, WA b 11, WA b 12, WA b 13, WA b 14, WA b 15, WA b 16, WA b 17, WA b 18, WA b 19, WA b 20, WA b 21, WA b 22, WA b 23, WA b 24] := by kernel_rfl
theorem Jwa {a' : List Nat} (b : List Nat) (h : a.length = 25) (h' : a'.length = 25) : xS b a 25 = xS b a' 25 := by
 obtain ⟨_, _, _, _, _, _, _, _, _, _, _, _, _, _, _, _, _, _, _, _, _, _, _, _, _, rfl⟩ := Jrl h
 obtain ⟨_, _, _, _, _, _, _, _, _, _, _, _, _, _, _, _, _, _, _, _, _, _, _, _, _, rfl⟩ := Jrl h'
 rw [Je7, Je7]
theorem Je8 (ha : SOk 25 a) : Pure Tryz.prog 241 [.agg (a.map uV).toArray].toArray (.agg ((tS a 24).map uV).toArray) := by
 refine Jz Tryz.func241 rfl rfl fun w => JN ?_
 have hal := ha.1
 have htk := fun i => Jkc ha i
 refine kK fun r1 r2 => ?_; refine JP 19 rfl (Js (σ := Nat) (fun i => i ≤ 24) (fun i => [(1, .pointer (some ⟨r1, 0, none⟩)), (2, .pointer (some ⟨r2, 0, none⟩)), (3, .int .i64 (tX i : Int)), (4, .int .i64 (tY i : Int)), (5, .int .i64 (i : Int))]) (fun i => [(r2, lO z25), (r1, lO (tS a i))]) (fun _ _ _ => True) (fun i => 24 - i) 0 (Nat.zero_le _) (lK rfl) (List.Sublist.refl _) (fun _ _ h => h) ?_); intro i hi; refine E3 ?_; refine cD (fun g => ?_) fun g => ?_
 refine gr ?_
 have hxy := Jrk i
 obtain ⟨m, hm⟩ : ∃ m, m = (i + 1) * (i + 2) := ⟨_, rfl⟩
 have hmi : ((i + 1 : Nat) : Int) * ((i + 2 : Nat) : Int) = (m : Int) := by rw [hm, Int.natCast_mul]
 have hmb : m ≤ 25 * 26 := by rw [hm]; exact Nat.mul_le_mul m0 m0
 refine GO ?_; refine Jj nn (D0 ?_); refine Jj ne (GK ?_); refine Jj nn (D0 ?_); refine Jj ne (ED ?_); refine LR rfl (JX rfl (kn 1 rfl) rfl (Kj (by rw [(htk i).1]; omega))) (NZ ?_); refine Jj (show _ = Value.int .i64 ((i + 1 : Nat) : Int) from congrArg (Value.int .i64) ma) (NZ ?_); refine Jj (show _ = Value.int .i64 ((i + 2 : Nat) : Int) from congrArg (Value.int .i64) ma) (Vf rfl (Jj (show _ = Value.int .i64 ((m : Nat) : Int) from congrArg (Value.int .i64) (by rw [hmi, wrap_i64 m0 m0])) (Vf rfl ?_))); refine Jj (show _ = Value.int .i64 ((m / 2 : Nat) : Int) from congrArg (Value.int .i64) mK) (J2 rfl rfl rfl (enters_of Tryz.func261 m5 rfl) (zA (k := m / 2) ((htk i).get _) m0) (ED ?_)); refine Ks (k := 1) (off := tX i + 5 * tY i) (xs := (tS a i).map uV) (ys := (tS a (i + 1)).map uV) rfl rfl rfl rfl rfl rfl (by rw [List.length_map, (htk i).1]; omega) (QV (by rw [hm]; rfl)) rfl (G1 ?_); refine Jj (show _ = Value.int .i64 ((2 * tX i : Nat) : Int) from congrArg (Value.int .i64) ma) (NZ ?_); refine Jj (show _ = Value.int .i64 ((3 * tY i : Nat) : Int) from congrArg (Value.int .i64) ma) (D0 ?_); refine Jj (show _ = Value.int .i64 ((2 * tX i + 3 * tY i : Nat) : Int) from congrArg (Value.int .i64) ma) (D0 ?_); refine Jj (show _ = Value.int .i64 (((2 * tX i + 3 * tY i) % 5 : Nat) : Int) from congrArg (Value.int .i64) mg) (JK 18 rfl ?_); exact Hz
 ·refine NK ?_
  have hi24 : 24 = i := by omega
  subst hi24; refine Dq ?_; refine LR rfl (Ji (xs := (tS a 24).map uV) (n := 25) rfl (kn 1 rfl) rfl rfl (by rw [List.length_map, (htk 24).1])) (Jv (k := 0) (n := 25) (ys := (tS a 24).map uV) rfl rfl rfl rfl rfl (by rw [List.length_map, (htk 24).1]) rfl (VQ _) rfl (Ha ?_)); refine Jn rfl rfl (.cons (J4 (vs := (tS a 24).map uV) rfl (kn 0 rfl) rfl (by rw [List.length_map, (htk 24).1]; rfl)) .nil) (fun w1 hs1 => ?_); exact Ns
theorem Je9 (ha : SOk 25 a) : Pure Tryz.prog 240 [.agg (a.map uV).toArray].toArray (.agg ((bS a 25).map uV).toArray) := by
 refine Jz Tryz.func240 rfl rfl fun w => JN ?_
 have hal := ha.1
 have hbk := fun i => Jx6 ha i
 refine kK fun r1 r2 => ?_; refine GU ?_; refine E4 fun r3 => ?_; refine HN ?_; refine Js (σ := Nat) (fun i => i ≤ 25) (fun i => [(1, .pointer (some ⟨r1, 0, none⟩)), (2, .pointer (some ⟨r2, 0, none⟩)), (3, .pointer (some ⟨r3, 0, none⟩)), (4, .int .i64 (i : Int))]) (fun i => [(r3, lO (bS a i)), (r2, lO z25), (r1, lO a)]) (fun _ _ _ => True) (fun i => 25 - i) 0 (Nat.zero_le _) (lK rfl) (List.Sublist.refl _) (fun _ _ h => h) ?_; intro i hi; refine E3 ?_; refine cD (fun g => ?_) fun g => ?_
 refine Jt 8 rfl (Jj mC (Gq ?_)); refine Jj nl (Gq ?_); refine Jj nj (NZ ?_); refine Jj nk (D0 ?_); refine Jj n9 (D0 ?_); refine Jj mZ (D0 ?_); refine Jj n5 (D0 ?_); refine Jj mX (Vb rfl (LR rfl (J7 (j := i) (m := 1) (off' := i) rfl rfl rfl rfl m0 m0 m0) ?_)); refine LR rfl (JX rfl (kn 2 rfl) rfl (Kj (by rw [hal]; omega))) (LR rfl (J7 (j := (i / 5 + 5 * ((2 * (i % 5) + 3 * (i / 5)) % 5))) (m := 1) (off' := (i / 5 + 5 * ((2 * (i % 5) + 3 * (i / 5)) % 5))) rfl rfl rfl rfl m0 m0 m0) (Ks (k := 0) (off := i / 5 + 5 * ((2 * (i % 5) + 3 * (i / 5)) % 5)) (xs := (bS a i).map uV) (ys := (bS a (i + 1)).map uV) rfl rfl rfl rfl rfl rfl (by rw [List.length_map, (hbk i).1]; omega) (QV rfl) rfl (G1 ?_))); exact Hz
 ·refine NK ?_
  have hi25 : 25 = i := by omega
  subst hi25; refine Dq ?_; refine LR rfl (Ji (xs := (bS a 25).map uV) (n := 25) rfl (kn 0 rfl) rfl rfl (by rw [List.length_map, (hbk 25).1])) (Jv (k := 1) (n := 25) (ys := (bS a 25).map uV) rfl rfl rfl rfl rfl (by rw [List.length_map, (hbk 25).1]) rfl (VQ _) rfl (Ha ?_)); refine Jn rfl rfl (.cons (J4 (vs := (bS a 25).map uV) rfl (kn 1 rfl) rfl (by rw [List.length_map, (hbk 25).1]; rfl)) .nil) (fun w1 hs1 => ?_); exact Ns
theorem Jce {m : List Nat} (hm : SOk 25 m) : Pure Tryz.prog 240 [.agg ((tS m 24).map uV).toArray].toArray (.agg ((rS m turnsL 25).map uV).toArray) := by
 rw [← Jmx hm]; exact Je9 (Jkc hm 24)
theorem zC (ha : SOk 25 a) : Pure Tryz.prog 180 [.agg (a.map uV).toArray].toArray (.agg ((qr a).map uV).toArray) := by
 refine Jz Tryz.func180 rfl rfl fun w => JN ?_
 have hal := ha.1
 have hpk := fun i => XV ha i
 refine kK fun r1 r2 => ?_; refine HN ?_; refine Js (σ := Nat) (fun i => i ≤ 24) (fun i => [(1, .pointer (some ⟨r1, 0, none⟩)), (2, .pointer (some ⟨r2, 0, none⟩)), (3, .int .i64 (i : Int))]) (fun i => [(r2, lO z25), (r1, lO (Xl a i))]) (fun _ _ _ => True) (fun i => 24 - i) 0 (Nat.zero_le _) (lK rfl) (List.Sublist.refl _) (fun _ _ h => h) ?_; intro i hi; refine E3 ?_; refine cD (fun g => ?_) fun g => ?_
 refine gr ?_
 obtain ⟨A, hA⟩ : ∃ A, A = Xl a i := ⟨_, rfl⟩
 have hAk : SOk 25 A := by rw [hA]; exact hpk i
 obtain ⟨B, hB⟩ : ∃ B, B = rS (Jbk A) turnsL 25 := ⟨_, rfl⟩
 have hBk : SOk 25 B := by rw [hB]; exact xM _ (Zh hAk) 25
 have hxk := xN hBk hAk 25
 have hstep : (xS B A 25).set 0 ((xS B A 25).getD 0 0 ^^^ numsL.getD i 0) = Xl a (i + 1) := by rw [Jwa B hAk.1 (Zh hAk).1, hB, hA]; rfl
 refine Dq ?_; refine LR rfl (Ji (xs := (Xl a i).map uV) (n := 25) rfl (kn 1 rfl) rfl rfl (by rw [List.length_map, (hpk i).1])) ?_; rw [← hA]; refine J2 rfl rfl rfl (enters_of Tryz.func242 m5 rfl) (Jh5 hAk) (J2 rfl rfl rfl (enters_of Tryz.func241 m5 rfl) (Je8 (Zh hAk)) (J2 rfl rfl rfl (enters_of Tryz.func240 m5 rfl) (Jce (Zh hAk)) ?_)); rw [← hB]; refine E4 fun r3 => ?_; refine Jv (k := 0) (n := 25) (ys := (B).map uV) rfl rfl rfl rfl rfl (by rw [List.length_map, hBk.1]) rfl (VQ _) rfl (HN ?_); refine Js (σ := Nat) (fun j => j ≤ 25) (fun j => [(1, .pointer (some ⟨r1, 0, none⟩)), (2, .pointer (some ⟨r2, 0, none⟩)), (3, .int .i64 (i : Int)), (4, .pointer (some ⟨r3, 0, none⟩)), (5, .int .i64 (j : Int))]) (fun j => [(r3, lO B), (r2, lO z25), (r1, lO (xS B A j))]) (fun _ _ _ => True) (fun j => 25 - j) 0 (Nat.zero_le _) (lK rfl) (by rw [hA]; exact List.Sublist.refl _) (fun _ _ h => h) ?_; intro j hj; refine E3 ?_; refine cD (fun g => ?_) fun g => ?_
 refine Jt 8 rfl (Jj (show _ = Value.int .i64 ((j % 5 : Nat) : Int) from congrArg (Value.int .i64) mg) (JK 8 rfl (Jj (show _ = Value.int .i64 ((j - j % 5 : Nat) : Int) from congrArg (Value.int .i64) ma) (kU ?_)))); refine JR 22 m5 m5 (kp ?_); refine Jb rfl rfl rfl (J7 (j := j) (m := 1) (off' := j) rfl rfl rfl rfl m0 m0 m0) (Dy ?_); refine kp ?_; refine No ?_; refine Kz (show _ = Value.int .i64 ((j % 5 + 1 : Nat) : Int) from congrArg (Value.int .i64) ma) (No ?_); refine Kz (show _ = Value.int .i64 (((j % 5 + 1) % 5 : Nat) : Int) from congrArg (Value.int .i64) mg) (No ?_); refine Kz (show _ = Value.int .i64 ((j - j % 5 + (j % 5 + 1) % 5 : Nat) : Int) from congrArg (Value.int .i64) ma) (Jb rfl rfl rfl (J7 (j := (j - j % 5 + (j % 5 + 1) % 5)) (m := 1) (off' := (j - j % 5 + (j % 5 + 1) % 5)) rfl rfl rfl rfl m0 m0 m0) (Dy ?_)); refine Jb rfl rfl rfl (Qa (op := .xor) (n := 18446744073709551615) (b := ((18446744073709551615 ^^^ B.getD (j - j % 5 + (j % 5 + 1) % 5) 0 : Nat) : Int)) rfl rfl rfl (hBk.get _) m7 (congrArg (fun z : Nat => (z : Int)) (Nat.xor_comm _ _))) (kp ?_); refine No ?_; refine Kz (show _ = Value.int .i64 ((j % 5 + 2 : Nat) : Int) from congrArg (Value.int .i64) ma) (No ?_); refine Kz (show _ = Value.int .i64 (((j % 5 + 2) % 5 : Nat) : Int) from congrArg (Value.int .i64) mg) (No ?_); refine Kz (show _ = Value.int .i64 ((j - j % 5 + (j % 5 + 2) % 5 : Nat) : Int) from congrArg (Value.int .i64) ma) (Jb rfl rfl rfl (J7 (j := (j - j % 5 + (j % 5 + 2) % 5)) (m := 1) (off' := (j - j % 5 + (j % 5 + 2) % 5)) rfl rfl rfl rfl m0 m0 m0) (Dy ?_)); refine Jb rfl rfl rfl (Qa (op := .and) (b := (((18446744073709551615 ^^^ B.getD (j - j % 5 + (j % 5 + 1) % 5) 0) &&& B.getD (j - j % 5 + (j % 5 + 2) % 5) 0 : Nat) : Int)) rfl rfl rfl (Wj m7 (hBk.get _)) (hBk.get _) rfl) (Jb rfl rfl rfl (Qa (op := .xor) (b := ((WA B j : Nat) : Int)) rfl rfl rfl (hBk.get _) (yG (hBk.get _)) rfl) (Jb rfl rfl rfl (J7 (j := j) (m := 1) (off' := j) rfl rfl rfl rfl m0 m0 m0) (Kn (Ks (k := 2) (off := j) (xs := (xS B A j).map uV) (ys := (xS B A (j + 1)).map uV) rfl rfl rfl rfl rfl rfl (by rw [List.length_map, (xN hBk hAk j).1]; omega) (QV rfl) rfl (G1 ?_))))); refine Nn ?_; exact Jm (j + 1) m0 m0 (lK rfl) (List.Sublist.refl _) (fun _ _ h => h)
 refine gr ?_
 have hj25 : 25 = j := by omega
 subst hj25; refine JR 6 m5 m5 ?_
 refine kR ?_; refine Jb rfl rfl rfl (JX rfl (kn 2 rfl) rfl (Kj (by rw [hxk.1]; omega))) (Nm ?_); refine Qk rfl rfl rfl (enters_of Tryz.func243 m5 rfl) (xy (n := i) m0) (Jb rfl rfl rfl (Qa (op := .xor) (b := (((xS B A 25).getD 0 0 ^^^ numsL.getD i 0 : Nat) : Int)) rfl rfl rfl (hxk.get _) (numsL_ok.get _) rfl) ?_)
 refine kR ?_; refine Kn (Ks (k := 2) (off := 0) (xs := (xS B A 25).map uV) (ys := (Xl a (i + 1)).map uV) rfl rfl rfl rfl rfl rfl (by rw [List.length_map, hxk.1]; omega) (QV hstep) rfl (G1 ?_)); refine Nn ?_; refine Qm [1, 2] (L' := [_, _]) m7 rfl ?_; exact NC
 ·refine NK ?_
  have hi24 : 24 = i := by omega
  subst hi24; refine Dq ?_; refine LR rfl (Ji (xs := (Xl a 24).map uV) (n := 25) rfl (kn 1 rfl) rfl rfl (by rw [List.length_map, (hpk 24).1])) (Jv (k := 0) (n := 25) (ys := (Xl a 24).map uV) rfl rfl rfl rfl rfl (by rw [List.length_map, (hpk 24).1]) rfl (VQ _) rfl (Ha ?_)); refine Jn rfl rfl (.cons (J4 (vs := (Xl a 24).map uV) rfl (kn 0 rfl) rfl (by rw [List.length_map, (hpk 24).1]; rfl)) .nil) (fun w1 hs1 => ?_); exact Ns
theorem Jfa (k : Nat) : (1 :: List.replicate (k + 1) 0 : List UInt8).map bV = (1 :: List.replicate k 0 : List UInt8).map bV ++ [.int .u8 0] := by
 rw [List.replicate_succ']; simp [bV]
theorem Jwb {l : List UInt8} (h : j < l.length) : (l.map bV ++ sp)[j]? = some (.int .u8 ((l.getD j 0).toNat : Nat)) := by
 rw [List.getElem?_append_left M6, zz h]
theorem Jwc {l m : List UInt8} {x : UInt8} (h : j < l.length) (hm : l.set j x = m) : (l.map bV ++ sp).set j (bV x) = m.map bV ++ sp := by
 rw [List.set_append_left _ _ M6, ← hm, List.map_set]
theorem Jh8 {n : Nat} (hn : n ≤ 1099511627776) : Pure Tryz.prog 179 [.int .i64 (n : Int)].toArray (.tuple #[.string (bs (Zi n)), .int .i64 0]) := by
 refine Jz Tryz.func179 rfl rfl fun w => JN ?_
 obtain ⟨K, hK⟩ : ∃ k, k = 135 - n % 136 := ⟨_, rfl⟩
 have hn1 : n % 136 < 136 := Nat.mod_lt _ m7
 obtain ⟨x, hx⟩ : ∃ x : UInt8, x = (1 :: List.replicate K 0 : List UInt8).getD K 0 := ⟨_, rfl⟩
 have hxl : x.toNat ≤ 1 := by
  rw [hx]
  cases K with
  | zero => decide
  | succ k => rw [show (1 :: List.replicate (k + 1) 0 : List UInt8).getD (k + 1) 0 = 0 from by simp [List.getD_eq_getElem?_getD]]; decide
 have hpl : (1 :: List.replicate K 0 : List UInt8).set K (UInt8.ofNat (x.toNat + 128)) = Zi n := by
  unfold Zi
  cases K with
  | zero => rw [if_pos m0, hx]; rfl
  | succ k =>
   rw [if_neg m0, hx]
   have e1 : (1 :: List.replicate (k + 1) 0 : List UInt8).getD (k + 1) 0 = 0 := by simp [List.getD_eq_getElem?_getD]
   rw [e1, show 134 - n % 136 = k from by omega]; simp only [List.set_cons_succ]
   congr 1
   rw [List.replicate_succ', List.set_append_right _ _ mh, List.length_replicate, Nat.sub_self]; rfl
 refine J9 17 rfl (cD (fun g => ?_) fun g => ?_)
 refine KQ 8 rfl (Nr fun w1 hs1 => ?_)
 first | (exact ⟨rfl, hs1.keep⟩) | (exfalso; omega)
 ·refine GO ?_; refine kc fun r1 => ?_; refine JP 5 rfl (Js (σ := Nat × Nat × Nat × List Value) (fun q => q.1 ≤ K ∧ rowOk 1 (q.1 + 1) ((1 :: List.replicate q.1 0 : List UInt8).map bV) (some q.2)) (fun q => [(0, .int .i64 (n : Int)), (4, .slice (some ⟨q.2.1, 0, none⟩) (q.1 + 1) q.2.2.1)]) (fun q => JJ 5 ((1 :: List.replicate q.1 0 : List UInt8).map bV) (some q.2)) (fun _ _ _ => True) (fun q => K - q.1) (0, r1, 1, []) ⟨Nat.zero_le _, rfl, rfl⟩ (lK rfl) (List.Sublist.refl _) (fun _ _ h => h) ?_); rintro ⟨k, r, cap, sp⟩ ⟨hk, hrow⟩; simp only at hk hrow ⊢; refine gH ?_; refine gg ?_; refine D0 ?_; refine Jj (show _ = Value.int .i64 ((n + (k + 1) : Nat) : Int) from congrArg (Value.int .i64) ma) (D0 ?_); refine Jj (show _ = Value.int .i64 (((n + (k + 1)) % 136 : Nat) : Int) from congrArg (Value.int .i64) mg) (kU ?_); refine cD (fun g => ?_) fun g => ?_
  refine gH ?_; refine GB fun r2 => ?_; refine JB (L0 := [_]) (xs := (1 :: List.replicate k 0 : List UInt8).map bV) (row := some (r, cap, sp)) (n := k + 1) (sz := 1) (b := 1) (news := [_]) (List.perm_append_comm (l₁ := [_])) rfl rfl rfl rfl (kn 0 rfl) rfl rfl rfl rfl rfl m7 rfl rfl rfl m7 hrow m0 m0 fun ra rcap rsp hra => Ha ?_; refine Jr (Qm [0] (L' := [_]) m7 rfl ?_); exact Jm (k + 1, ra, rcap, rsp) ⟨by simp only; omega, by simp only; rw [Jfa]; exact hra⟩ ml (lK rfl) (by simp only; rw [Jfa]; exact List.Sublist.refl _) (fun _ _ h => h)
  ·refine NK ?_
   have hkK : K = k := by omega
   subst hkK; refine GN ?_; refine gg ?_; refine D0 ?_; refine Jj nt (NZ ?_); refine gg ?_; refine D0 ?_; refine Jj nt (LR rfl (Kg (j := K) (m := 1) (off' := K) rfl rfl rfl rfl rfl m0 m0) (LR rfl (JX rfl (kn 0 rfl) rfl (Jwb mh)) ?_)); rw [← hx]; refine D0 ?_; refine Jj (show _ = bV (UInt8.ofNat (x.toNat + 128)) from (congrArg (Value.int .u8) (show IntKind.u8.wrap _ = ((x.toNat + 128 : Nat) : Int) from by rw [jn m0 m0]; omega)).trans (yv m0)) (LR rfl (Kg (j := K) (m := 1) (off' := K) rfl rfl rfl rfl rfl m0 m0) (Ks (k := 0) (off := K) (xs := (1 :: List.replicate K 0 : List UInt8).map bV ++ sp) (ys := (Zi n).map bV ++ sp) rfl rfl rfl rfl rfl rfl nR (Jwc mh hpl) rfl (kB ?_))); refine LR rfl (KB (b := Zi n) (row := some (r, cap, sp)) (e := 5) (show _ = some (J3 (Zi n).length (some (r, cap, sp))) from by rw [Xm, show 136 - n % 136 = K + 1 from by omega]; rfl) (by obtain ⟨h1, h2⟩ := hrow; rw [Xm, show 136 - n % 136 = K + 1 from by omega]; exact ⟨by rw [List.length_map, Xm]; omega, h2⟩) (fun p hp => .inl mU) rfl rfl rfl) (gt ?_); refine Nr fun w1 hs1 => ?_
   first | (exact ⟨rfl, hs1.keep⟩) | (exfalso; omega)
theorem Jmy (a : List Nat) (i : Nat) : (Yj a (i + 1)).map bV = (Yj a i).map bV ++ [bV (UInt8.ofNat (a.getD (i / 8) 0 / 2 ^ (i % 8 * 8) % 256))] := by rw [Yj]; simp
theorem Jrm {t : List UInt8} : (((t.getD (136 * j + i) 0).toNat : Nat) : Int) = (((t.drop (136 * j)).getD i 0).toNat : Nat) := by simp [List.getD_eq_getElem?_getD]
theorem zD {s : List UInt8} (hs : s.length ≤ 1099511627776) : Pure Tryz.prog 138 [.string (bs s)].toArray (.string (bs (WO s))) := by
 refine Jz Tryz.func138 rfl rfl fun w => JN ?_
 have hpl := Xm s.length
 obtain ⟨t, ht⟩ : ∃ t, t = s ++ Zi s.length := ⟨_, rfl⟩
 obtain ⟨N, hN⟩ : ∃ N, N = t.length / 136 := ⟨_, rfl⟩
 have htl : t.length = 136 * N := by have := yM s; rw [← ht] at this; omega
 have hlim : t.length ≤ 2199023255552 := by rw [ht, List.length_append]; omega
 have hkec : WO s = Yj (qt t N) 32 := by unfold WO; rw [← ht, ← hN]
 refine Jt 8 rfl (kG ?_); refine J2 rfl rfl rfl (enters_of Tryz.func179 m5 rfl) (Jh8 hs) (JK 11 rfl (LR rfl (Qc rfl rfl m0) ?_)); rw [← ht]; refine kB ?_; refine KK (cs := (z25.map uV).toArray) rfl rfl rfl rfl fun r1 => HN ?_; refine Js (σ := Nat) (fun j => j ≤ N) (fun j => [(5, .string (bs t)), (6, .pointer (some ⟨r1, 0, none⟩)), (7, .int .i64 ((136 * j : Nat) : Int))]) (fun j => [(r1, lO (qt t j))]) (fun _ _ _ => True) (fun j => N - j) 0 (Nat.zero_le _) (lK rfl) (List.Sublist.refl _) (fun _ _ h => h) ?_; intro jj hjj; refine gH ?_; refine kG ?_; refine kU ?_; refine cD (fun g => ?_) fun g => ?_
 refine NK ?_
 obtain ⟨a, ha⟩ : ∃ a, a = qt t jj := ⟨_, rfl⟩
 have hak : SOk 25 a := by rw [ha]; exact qu t jj
 obtain ⟨u, hu⟩ : ∃ u, u = t.drop (136 * jj) := ⟨_, rfl⟩
 have habk := yK u hak
 refine gr ?_; refine Js (σ := Nat) (fun i => i ≤ 136) (fun i => [(5, .string (bs t)), (6, .pointer (some ⟨r1, 0, none⟩)), (7, .int .i64 ((136 * jj : Nat) : Int)), (8, .int .i64 (i : Int))]) (fun i => [(r1, lO (abS a u i))]) (fun _ _ _ => True) (fun i => 136 - i) 0 (Nat.zero_le _) (lK rfl) (by rw [show abS a u 0 = qt t jj from ha]; exact List.Sublist.refl _) (fun _ _ h => h) ?_; intro i hi; refine E3 ?_; refine cD (fun g => ?_) fun g => ?_
 refine J9 4 rfl (JR 19 m5 m5 (gk ?_)); refine Kz mt (gk ?_); refine Kz mt (Jb rfl rfl rfl (J7 (j := (i / 8)) (m := 1) (off' := (i / 8)) rfl rfl rfl rfl m0 m0 m0) (Jb rfl rfl rfl (JX rfl (kn 0 rfl) rfl (Kj (by rw [(habk i).1]; omega))) (kp ?_))); refine gk ?_; refine Kz (show _ = Value.int .i64 ((136 * jj + i : Nat) : Int) from congrArg (Value.int .i64) ma) (Jb rfl rfl rfl (Vt (j := 136 * jj + i) rfl rfl rfl rfl m0 Jrm) ?_); rw [← hu]; refine No ?_; refine Kz n6 (gk ?_); refine Kz mB (No ?_); refine Kz mD (No ?_); refine Kz nw (gX ?_); refine Jb rfl rfl rfl (J7 (j := (i / 8)) (m := 1) (off' := (i / 8)) rfl rfl rfl rfl m0 m0 m0) (Hc ?_); refine G1 ?_; exact Hz
 refine gr ?_
 have hi136 : 136 = i := by omega
 subst hi136; refine DT ?_; refine J2 rfl rfl rfl (enters_of Tryz.func180 m5 rfl) (zC (habk 136)) (Dr ?_); refine G1 ?_; refine Jj (show _ = Value.int .i64 ((136 * (jj + 1) : Nat) : Int) from congrArg (Value.int .i64) ma) (HG ?_); exact Jm (jj + 1) m0 m0 (lK rfl) (by rw [show qt t (jj + 1) = qr (abS a u 136) from by rw [hu, ha]; rfl]; exact List.Sublist.refl _) (fun _ _ h => h)
 ·refine NK ?_
  have hjN : N = jj := by omega
  subst hjN
  obtain ⟨a, ha⟩ : ∃ a, a = qt t N := ⟨_, rfl⟩
  have hak : SOk 25 a := by rw [ha]; exact qu t N
  have hkec2 : WO s = Yj a 32 := by rw [hkec, ha]
  refine J9 11 rfl (Js (σ := Nat × List Value × Vn) (fun q => q.1 ≤ 32 ∧ q.2.1 = (Yj a q.1).map bV ∧ rowOk 1 q.1 q.2.1 q.2.2) (fun q => [(6, .pointer (some ⟨r1, 0, none⟩)), (9, J3 q.1 q.2.2), (10, .int .i64 (q.1 : Int))]) (fun q => (r1, lO a) :: JJ 5 q.2.1 q.2.2) (fun _ _ _ => True) (fun q => 32 - q.1) (0, [], none) ⟨by simp, rfl, ⟨rfl, rfl⟩⟩ (lK rfl) (by rw [ha]; exact List.Sublist.refl _) (fun _ _ h => h) ?_); rintro ⟨i, xs, row⟩ ⟨hi, hxs, hrow⟩; simp only at hi hxs hrow ⊢; refine E3 ?_; refine cD (fun g => ?_) fun g => ?_
  refine Jt 8 rfl (Jj mt (LR rfl (J7 (j := (i / 8)) (m := 1) (off' := (i / 8)) rfl rfl rfl rfl m0 m0 m0) (LR rfl (JX rfl (kn 0 rfl) rfl (Kj (by rw [hak.1]; omega))) (NZ ?_)))); refine Jj mB (D0 ?_); refine Jj mD (Vf rfl (Jj nw (LR rfl (jE (n := i % 8 * 8) rfl rfl rfl mL m0 (Zc _ _)) ?_))); refine Vf rfl (Jj (show _ = uV (a.getD (i / 8) 0 / 2 ^ (i % 8 * 8) % 256) from congrArg (Value.int .u64) (KM _ 256)) ?_); refine Vf rfl (Jj (show _ = bV (UInt8.ofNat (a.getD (i / 8) 0 / 2 ^ (i % 8 * 8) % 256)) from Jbc (Nat.mod_lt _ m7)) ?_); refine kc fun r1 => ?_; refine JB (L0 := [_, _]) (xs := xs) (row := row) (n := i) (sz := 1) (b := 1) (news := [_]) (List.perm_append_comm (l₁ := [_, _])) rfl rfl rfl rfl (kn 0 rfl) rfl rfl rfl rfl rfl m7 rfl rfl rfl m7 hrow m0 m0 fun ra cap sp hra => DC ?_; refine Qm [2, 0] (L' := [_, _]) m7 rfl ?_; exact Jm (i + 1, xs ++ [bV (UInt8.ofNat (a.getD (i / 8) 0 / 2 ^ (i % 8 * 8) % 256))], some (ra, cap, sp)) ⟨by simp only; omega, by simp only; rw [Jmy, hxs], hra⟩ ml (lK rfl) (List.Sublist.refl _) (fun _ _ h => h)
  ·refine NK ?_
   have hi32 : 32 = i := by omega
   subst hi32; refine kj ?_; refine LR rfl (KB (b := Yj a 32) (row := row) (e := 5) (show _ = some (J3 (Yj a 32).length row) from by rw [Wk]; rfl) (by rw [Wk, ← hxs]; exact hrow) (fun p hp => .inl (by rw [hxs]; exact List.mem_cons_of_mem _ hp)) rfl rfl rfl) (Ge ?_); exact Ez
abbrev Vk (r : Nat) : Value := .pointer (some ⟨r, 0, none⟩)
def VH (l : List BS) : List Value := l.map Jy
theorem Jwd (l : List BS) : (VH l).length = l.length := by unfold VH; rw [List.length_map]
theorem Zp {l : List BS} (h : l[i]? = some s) : (VH l)[i]? = some (Jy s) := by unfold VH; rw [List.getElem?_map, h]; rfl
theorem Jwe (l : List BS) : (VH l).all Va = true := by
 exact EI
theorem Jh9 (n : Nat) (row : Vn) : (J3 n row).cells = #[J3 n row] := by cases row <;> rfl
theorem Jmz (n : Nat) (row : Vn) : Va (J3 n row) = true := by cases row <;> rfl
theorem Jia (h : s.length ≤ 32) : Pure Tryz.prog 175 [Jy s].toArray (Jy (Y1 s)) := by
 unfold Y1
 refine Jz Tryz.func175 rfl rfl fun w => G0 ?_; refine kG ?_
 refine D0 ?_; refine Jj (show _ = Value.int .i64 ((32 - s.length : Nat) : Int) from by rw [wrap_i64 m0 m0]; congr 1 <;> omega) ?_; refine Db ?_; exact NS
theorem Jrn {l : List BS} {p : Pl} (hl : l.length ≤ 100000) (hs : Seg R l.length (VH l) p) :
  PureT (α := { row : Vn // rowOk 1 l.length (VH l) row }) Tryz.prog 176 [KE l.length p].toArray (fun x => J3 l.length x.1) [] (fun x => JJ 9 (VH l) x.1) R := by
 cases p with
 | none =>
  have h0 : l = [] := List.length_eq_zero_iff.1 hs
  subst h0; refine JE Tryz.func176 rfl rfl fun w => Hk ?_; refine cD (fun g => ?_) fun g => ?_
  exact H6
  try exact Bool.noConfusion g
 | some q =>
  refine JE Tryz.func176 rfl rfl fun w => Hk ?_; refine JI rfl (fun g => ?_) (fun g => ?_)
  try exact Bool.noConfusion g
  ·refine GO ?_; refine XW rfl rfl rfl rfl fun r1 => Vb rfl (yW (k := 0) (b := 16) (sz := 1) rfl rfl rfl rfl rfl rfl hs oR rfl rfl rfl rfl rfl m7 (by rw [Jwd, Nat.mul_one]) (Jwe l) m0 m0 fun row hrow => (J0 4 rfl ?_)); exact Gs
theorem Jfb (n : Nat) (row : Vn) : PureE (α := Nat) Tryz.prog 177 [J3 n row].toArray (fun r => .func (.func 239) #[] #[Vk r]) (fun r => [(r, .cells #[J3 n row] 109 (0, 0))]) := by
 refine VP Tryz.func177 rfl rfl fun w => JN (kj ?_); refine Qp (cs := #[J3 n row]) rfl rfl rfl (Jh9 n row) fun r1 => kB ?_; refine GP ?_; refine Ge ?_; refine ke fun w1 hs1 => ?_; exact ⟨r1, rfl, hs1⟩
def Jx7 (l : List BS) : Nat → List Value → Jp → Nat → Prop := fun i v B i' => 2 * i + 1 < l.length ∧ i' = i + 1 ∧ v = [Jy (l.getD (2 * i) []), Jy (l.getD (2 * i + 1) [])] ∧ B = []
theorem Jae {l : List BS} : ∀ i v B i', Jx7 l i v B i' → v.length = 2 := by rintro _ _ _ _ ⟨_, _, rfl, _⟩; rfl
theorem Ya {l : List BS} (h : i < l.length) : l[i]? = some (l.getD i []) := by rw [List.getD_eq_getElem?_getD, List.getElem?_eq_getElem h]; rfl
theorem Jfc {l : List BS} (hl : l.length ≤ 1000000) (hrow : rowOk 1 l.length (VH l) row) (r : Nat) :
    Joa Tryz.prog 239 [Vk r] ((r, .cells #[J3 l.length row] 109 (0, 0)) :: JJ 9 (VH l) row) 0 (Jx7 l) (fun i => ¬ 2 * i + 1 < l.length) := by
  have hs : Seg ((r, .cells #[KE l.length (Qv row)] 109 (0, 0)) :: JJ 9 (VH l) row) l.length (VH l) (Qv row) := (Ke hrow m7).mono fun q hq => List.mem_cons_of_mem _ hq
  rw [← Vw _ _ hrow.zero]; refine Jeh Tryz.func239 rfl rfl fun q xids w2 XI XF hY => JN (NK ?_); refine Js (σ := Nat) (fun i => 2 * i ≤ l.length + 1) (fun i => [(0, .func (.yield q) #[] #[]), (1, Vk r), (3, .int .i64 ((2 * i : Nat) : Int))]) (fun _ => []) (fun i => XI i) (fun i => l.length + 1 - 2 * i) 0 m0 (lK rfl) (List.Sublist.refl _) (fun _ _ h => h) ?_; intro i hi1; refine gH ?_; refine Jj mV (GZ ?_); refine NE ?_; refine kU ?_; refine cD (fun g => ?_) fun g => ?_
  · refine gr ?_; refine JR 10 m5 m5 (Nm ?_); refine H9 ?_; refine Nm ?_
    refine Jb rfl rfl rfl (Jf (j := (2 * i)) rfl hs rfl rfl rfl me m0) (Jb rfl rfl rfl (Wx oR rfl hs m0 rfl (Zp (Ya (i := 2 * i) m0))) (H9 ?_)); refine gk ?_; refine Kz mV ?_
    refine Jb rfl rfl rfl (Jf (j := (2 * i + 1)) rfl hs rfl rfl rfl me m0) (Jb rfl rfl rfl (Wx oR rfl hs m0 rfl (Zp (Ya (i := 2 * i + 1) m0))) (Kn (xD (B := []) (XT := XI (i + 1)) (XF := XF) rfl rfl rfl rfl (hY i [Jy (l.getD (2 * i) []), Jy (l.getD (2 * i + 1) [])] [] (i + 1) ⟨by omega, rfl, rfl, rfl⟩) oN ?_ ?_)))
    all_goals (
     refine HV ?_; refine JI rfl (fun g => ?_) (fun g => ?_)
     · try exact Bool.noConfusion g
       all_goals try simp only [ZZ] at g
       all_goals (
        exact Nv
        skip)
     · try exact Bool.noConfusion g
       all_goals try simp only [ZZ] at g
       all_goals (
        refine H8 ?_; refine Jj nE (HG ?_); exact NC
        skip)
     skip)
  · refine Ga fun w1 hs1 => ?_
    obtain ⟨xs1, hx1⟩ := hs1.now
    exact ⟨⟨_, rfl⟩, hs1.keep, .inl ⟨i, _, by omega, hx1⟩⟩
theorem Jcf {k : Nat} : 2 ^ k < m ↔ k < lg m := by
 constructor
 ·intro h
  rcases Nat.lt_or_ge k (lg m) with h1 | h1
  ·exact h1
  ·have h2 := Jej m
   have h3 : 2 ^ lg m ≤ 2 ^ k := Nat.pow_le_pow_right m7 h1
   omega
 ·exact Jx1
theorem vp (l : List BS) : ∀ {i : Nat}, 2 * i + 1 < l.length → (SL.pairUp l).take (i + 1) = (SL.pairUp l).take i ++ [WO (l.getD (2 * i) [] ++ l.getD (2 * i + 1) [])] := by
 induction l using SL.pairUp.induct with
 | case1 a b l ih =>
  intro i hi
  cases i with
  | zero => rw [SL.pairUp]; rfl
  | succ i =>
   rw [SL.pairUp, List.take_succ_cons, List.take_succ_cons, ih (by simp only [List.length_cons] at hi; omega), show 2 * (i + 1) = 2 * i + 1 + 1 by omega, show 2 * i + 1 + 1 + 1 = 2 * i + 1 + 1 + 1 by rfl]
   rfl
 | case2 l h =>
  intro i hi
  match l, h with
  | [], _ => simp at hi
  | [a], _ => simp at hi
  | a :: b :: l, h => exact absurd rfl (h a b l)
theorem wf (l : List BS) (z : BS) : (QJ l z).length % 2 = 0 := by rw [XY]; omega
theorem zE {l : List BS} {z : BS} (h : ∀ x ∈ l, x.length = 32) (hz : z.length = 32) : ∀ x ∈ QJ l z, x.length = 32 := by
 intro x hx
 unfold QJ at hx
 split at hx
 ·rcases List.mem_append.1 hx with hx | hx
  ·exact h x hx
  ·rw [List.mem_singleton.1 hx]; exact hz
 ·exact h x hx
theorem YJ {l : List BS} (h : ∀ x ∈ l, x.length = 32) (hi : i < l.length) : (l.getD i []).length = 32 := h _ (List.mem_of_getElem? (Ya hi))
theorem zF {n : Nat} (h : n ≤ 65536) : IntKind.i64.wrap ((n : Int) * 2) = ((n * 2 : Nat) : Int) := by
 rw [wrap_i64 m0 m0]; omega
structure TreeI (l0 : List BS) (m : Nat) (k : Nat) (ls : List BS) (row : Vn) (z : BS) : Prop where
  le : k ≤ lg m
  ok : rowOk 1 ls.length (VH ls) row
  eq : Wn (lg m - k) ls z = QR l0 m
  len : ls.length ≤ 2 ^ (lg m - k)
  mem : ∀ x ∈ ls, x.length = 32
  zl : z.length = 32
set_option maxHeartbeats 1000000 in
theorem wO {l : List BS} {p : Pl} (hl : l.length ≤ m) (hm2 : m ≤ 65536) (hs : Seg R l.length (VH l) p) (h32 : ∀ s ∈ l, s.length = 32) :
  PureR Tryz.prog 134 [KE l.length p, .int .i64 (m : Int)].toArray (Jy (QR l m)) R := by
 have hlg : lg m ≤ 16 := Jx2 (by simpa using hm2)
 have h0 := Zn hl
 refine Ja Tryz.func134 rfl rfl fun w => HH ?_; refine Qu rfl rfl rfl (enters_of Tryz.func176 m5 rfl) (Jrn m0 hs) oR fun x => ?_
 obtain ⟨row, hrow⟩ := x
 refine KR (List.perm_append_comm (l₂ := [])) ?_; change HL _ _ ((11, J3 l.length row) :: _) (JJ 9 (VH l) row) _ _ _ _; refine kB ?_; refine J2 rfl rfl rfl Jql (Jia (s := []) m7) (Jj (show _ = Jy z32 from rfl) (DE ?_)); refine Jpr (σ := Nat × List BS × Vn × BS × List Nat) (fun q => q.2.2.2.2.map Vs ++ []) (fun q => TreeI l m q.1 q.2.1 q.2.2.1 q.2.2.2.1) (fun q => [(0, J3 q.2.1.length q.2.2.1), (1, .int .i64 (m : Int)), (5, Jy q.2.2.2.1), (6, .int .i64 ((2 ^ q.1 : Nat) : Int))]) (fun q => Xz q.2.2.2.2 ++ JJ 9 (VH q.2.1) q.2.2.1) (fun _ _ _ => True) (fun q => lg m - q.1) (0, l, row, z32, []) rfl ⟨Nat.zero_le _, hrow, h0, Nat.le_trans hl (Jej m), h32, rfl⟩ (lK rfl) (List.Sublist.refl _) (fun _ _ h => h) ?_; rintro ⟨k, ls, row, z, Ds⟩ hi; refine inK ?_; simp only at hi; change HC _ (Ds.map Vs ++ []) [(0, J3 ls.length row), (1, _), (5, Jy z), (6, .int .i64 ((2 ^ k : Nat) : Int))] (Xz Ds ++ JJ _ (VH ls) row) _ _ _; refine J9 8 rfl (cD (fun g => ?_) fun g => ?_)
 ·refine NK ?_
  have hk : k < lg m := Jcf.1 m0
  obtain ⟨K, hK⟩ : ∃ K, lg m - k = K + 1 := ⟨lg m - k - 1, by omega⟩
  have heq := hi.eq
  have hlen := hi.len
  rw [hK, Wn] at heq; rw [hK, Nat.pow_succ] at hlen
  have hK16 : 2 ^ K ≤ 65536 := by have := Nat.pow_le_pow_right (n := 2) (i := K) (j := 16) m7 m0; simpa using this
  have hzl := hi.zl
  have hk16 : 2 ^ k ≤ 65536 := by have := Nat.pow_le_pow_right (n := 2) (i := k) (j := 16) m7 m0; simpa using this
  refine kj ?_; refine LR rfl (W7 rfl hi.ok.zero rfl) (Vf rfl (Jj (show _ = Value.int .i64 ((ls.length % 2 : Nat) : Int) from congrArg (Value.int .i64) (KM _ 2)) (JP 3 rfl ?_))); refine cD (fun g => ?_) fun g => ?_
  ·refine GN ?_; refine kc fun r1 => ?_; refine JB (L0 := _ :: Xz Ds) (xs := VH ls) (row := row) (n := ls.length) (sz := 1) (b := 16) (news := [_]) (List.perm_append_comm (l₁ := _ :: Xz Ds)) rfl rfl rfl rfl (kn 0 rfl) rfl rfl rfl rfl rfl m7 rfl rfl rfl m7 hi.ok m0 m0 fun ra cap sp hra => G5 ?_
   (have e : QJ ls z = ls ++ [z] := by unfold QJ; rw [if_pos m0]
    refine Ju8 (List.perm_append_comm (l₁ := [_])) (Jjp (L' := Xz Ds ++ JJ 9 (VH ls ++ [Jy z]) (some (ra, cap, sp))) (.cons _ (List.Sublist.refl _)) ?_); change HC _ _ ((0, J3 (ls.length + 1) (some (ra, cap, sp))) :: _) _ _ _ _
    generalize hn2 : ls.length + 1 = n2 at hra ⊢
    generalize hc2 : VH ls ++ [Jy z] = xs2 at hra ⊢
    generalize (some (ra, cap, sp) : Vn) = row2 at hra ⊢
    obtain rfl : n2 = (QJ ls z).length := by rw [e, ← hn2, List.length_append]; rfl
    obtain rfl : xs2 = VH (QJ ls z) := by rw [e, ← hc2]; unfold VH; rw [List.map_append]; rfl)
   have hm2e := zE hi.mem hi.zl
   have hev := wf ls z
   have hl2 := XY ls z
   obtain ⟨ls2, hls2⟩ : ∃ x, x = QJ ls z := ⟨_, rfl⟩
   rw [← hls2] at hm2e hev hl2 hra heq ⊢
   have hl2b : ls2.length ≤ 2 ^ K * 2 := by omega
   refine gB fun r1 rb => ?_; refine qX (τ := Unit) (fun i (s : Nat × List Value × Vn) => 2 * i ≤ ls2.length ∧ s.1 = i ∧ s.2.1 = VH ((SL.pairUp ls2).take i) ∧ rowOk 1 i s.2.1 s.2.2) (fun s => (r1, .cells #[J3 s.1 s.2.2] 109 (0, 0)) :: JJ 9 s.2.1 s.2.2) (fun _ _ => False) (fun _ => []) (Xz Ds ++ ((rb, .cells #[J3 ls2.length row2] 109 (0, 0)) :: JJ 9 (VH ls2) row2)) (0, [], none) rfl rfl (enters_of Tryz.func239 m5 rfl) (Jfc m0 hra rb) Jae rfl (fun q hq => .inl (List.mem_append_right _ hq)) rfl ⟨Nat.zero_le _, rfl, rfl, rfl, rfl⟩ ?_ ?_ ?_
   rintro q Xr Xb w3 i _ _ _ ⟨n, xs, row3⟩ ⟨hii, rfl, rfl, rfl⟩ ⟨h2i, hn, hxs, hr3⟩ Kr hKr; refine inR ?_
   simp only at hn hxs hr3; rw [← hn] at hr3; refine KQ 8 rfl (hKr _ _ (JN ?_)); clear hKr; exact GG
   rintro D i ⟨n, xs, row3⟩ hfi ⟨h2i, hn, hxs, hr3⟩
   simp only at hn hxs hr3
   have hi2 : 2 * i = ls2.length := by omega
   exact Gl
   exact Gb
  ·refine Da ?_
   (have e : QJ ls z = ls := by unfold QJ; rw [if_neg m0]
    have hra := hi.ok
    generalize row = row2 at hra ⊢
    generalize hn2 : ls.length = n2 at hra ⊢
    generalize hc2 : VH ls = xs2 at hra ⊢
    obtain rfl : n2 = (QJ ls z).length := by rw [e, ← hn2]
    obtain rfl : xs2 = VH (QJ ls z) := by rw [e, ← hc2])
   have hm2e := zE hi.mem hi.zl
   have hev := wf ls z
   have hl2 := XY ls z
   obtain ⟨ls2, hls2⟩ : ∃ x, x = QJ ls z := ⟨_, rfl⟩
   rw [← hls2] at hm2e hev hl2 hra heq ⊢
   have hl2b : ls2.length ≤ 2 ^ K * 2 := by omega
   refine gB fun r1 rb => ?_; refine qX (τ := Unit) (fun i (s : Nat × List Value × Vn) => 2 * i ≤ ls2.length ∧ s.1 = i ∧ s.2.1 = VH ((SL.pairUp ls2).take i) ∧ rowOk 1 i s.2.1 s.2.2) (fun s => (r1, .cells #[J3 s.1 s.2.2] 109 (0, 0)) :: JJ 9 s.2.1 s.2.2) (fun _ _ => False) (fun _ => []) (Xz Ds ++ ((rb, .cells #[J3 ls2.length row2] 109 (0, 0)) :: JJ 9 (VH ls2) row2)) (0, [], none) rfl rfl (enters_of Tryz.func239 m5 rfl) (Jfc m0 hra rb) Jae rfl (fun q hq => .inl (List.mem_append_right _ hq)) rfl ⟨Nat.zero_le _, rfl, rfl, rfl, rfl⟩ ?_ ?_ ?_
   rintro q Xr Xb w3 i _ _ _ ⟨n, xs, row3⟩ ⟨hii, rfl, rfl, rfl⟩ ⟨h2i, hn, hxs, hr3⟩ Kr hKr; refine inR ?_
   simp only at hn hxs hr3; rw [← hn] at hr3; refine KQ 8 rfl (hKr _ _ (JN ?_)); clear hKr; exact GG
   rintro D i ⟨n, xs, row3⟩ hfi ⟨h2i, hn, hxs, hr3⟩
   simp only at hn hxs hr3
   have hi2 : 2 * i = ls2.length := by omega
   exact Gl
   exact Gb
 ·refine E3 ?_
  have hkl : ¬ k < lg m := fun h => by have := Jcf.2 h; omega
  obtain rfl : k = lg m := by have := hi.le; omega
  have heq := hi.eq
  have hlen := hi.len
  rw [Nat.sub_self] at heq hlen; refine kj ?_; refine LR rfl (W7 rfl hi.ok.zero rfl) (kU ?_); refine cD (fun g => ?_) fun g => ?_
  refine KQ 8 rfl (zh Ds (Nk fun w1 hs1 => ?_))
  (obtain rfl : ls = [] := List.eq_nil_of_length_eq_zero m0
   rw [← heq]; rfl)
  ·refine Da ?_
   obtain ⟨s0, hls1⟩ : ∃ s0, ls = [s0] := by
    match ls, hlen with
    | [a], _ => exact ⟨a, rfl⟩
    | [], _ => exact absurd rfl m9
    | _ :: _ :: _, h => simp at h
   refine kj ?_; refine LR rfl (Jf (p := Qv row) (j := 0) (show _ = some (KE ls.length (Qv row)) from by rw [Vw _ _ hi.ok.zero]; rfl) (Ke (e := 9) hi.ok m7) rfl rfl rfl rfl m0) (LR rfl (Wx (p := Qv row) (fun q hq => Or.inl (List.mem_append_right _ hq)) rfl (Ke (e := 9) hi.ok m7) m0 rfl (Zp (show ls[0]? = some s0 from by rw [hls1]; rfl))) (Ge ?_)); refine zh Ds (Nk fun w1 hs1 => ?_); rw [← heq, hls1]; rfl
abbrev fV1 (f : FuncId) : Value := .func (.func f) #[] #[]
def XA (root : BS) (n : Nat) : BS := WO (root ++ Y1 (Y5 n 8))
theorem le8 {n : Nat} (h : n < 18446744073709551616) : qA n 8 = (Y5 n 8, 0) := by
 unfold qA
 rw [if_neg]
 ·rfl
 ·have := (Jka (n := n) (k := 8) h m7).2 nz
  omega
theorem J21 {n : Nat} : Y1 (Y5 n 8) = wp [n, 0, 0, 0] 32 := by
 unfold Y1 wp
 rw [List.take_of_length_le MW, QG]
 apply List.ext_getElem?
 intro i
 by_cases hi : i < 32
 ·rw [List.getElem?_reverse (by rw [QC]; exact hi), QC, qj _ m0, show 32 - 1 - (32 - 1 - i) = i by omega]
  by_cases h8 : i < 8
  ·rw [List.getElem?_append_left (by rw [QG]; exact h8), Jiy h8, Jh1 h8]
  ·rw [List.getElem?_append_right (by rw [QG]; omega), QG, List.getElem?_replicate, if_pos m0, Jq7 m0 hi]; rfl
 ·rw [List.getElem?_eq_none (by simp [QG]; omega), List.getElem?_eq_none (by rw [List.length_reverse, QC]; omega)]
theorem Jro (hr : root.length ≤ 1000) {n : Nat} (hn : n ≤ 9223372036854775807) : Pure Tryz.prog 129 [Jy root, .int .i64 (n : Int)].toArray (Jy (XA root n)) := by
 have hk := Je6 (s := root ++ Y1 (Y5 n 8)) (by rw [List.length_append, W9 Nc]; omega)
 change Pure _ _ _ (Jy (XA root n)) at hk
 have hp := W9 (s := Y5 n 8) Nc
 generalize XA root n = z at hk
 refine Jz Tryz.func129 rfl rfl fun w => G0 ?_; refine Jj (show _ = uV n from congrArg (Value.int .u64) (wrap_u64 (z := (n : Int)) m0 m0)) (J2 rfl rfl rfl (enters_of Tryz.func166 m5 rfl) (Je5 (n := n) m0 8) (Jj (show _ = Value.tuple #[Jy (Y5 n 8), .int .i64 0] from by rw [le8 m0]; rfl) (JK 11 rfl (J2 rfl rfl rfl Jql (Jia (s := Y5 n 8) Nc) (LR rfl (Qc (a := root) (b := Y1 (Y5 n 8)) rfl rfl m0) (J2 rfl rfl rfl Jer hk ?_)))))); exact NS
theorem Jrp {w : List Nat} (hi : i < 32) : wp w (i + 1) = wp w i ++ [(Yz w 32).getD (31 - i) 0] := by
 unfold wp
 have hl : i < (Yz w 32).reverse.length := by rw [List.length_reverse, QC]; exact hi
 rw [List.take_succ_eq_append_getElem hl]
 congr 2
 have h1 := List.getElem?_eq_getElem hl
 rw [List.getElem?_reverse (by rw [QC]; exact hi), QC] at h1; rw [List.getD_eq_getElem?_getD, show 31 - i = 32 - 1 - i by omega, h1]; rfl
theorem Jfd {v : List Nat} (hv : WOk v) {n : Nat} (hn : n ≤ 32) : Pure Tryz.prog 86 [Go.SL.wV v, .int .i64 (n : Int)].toArray (Jy (wp v n)) := by
 obtain ⟨a, b, c, d, rfl⟩ : ∃ a b c d, v = [a, b, c, d] := by
  match v, hv.1 with
  | [a, b, c, d], _ => exact ⟨a, b, c, d, rfl⟩
 have hlen := QC [a, b, c, d] 32
 have hsu := fun i hi => Jrp (w := [a, b, c, d]) (i := i) hi
 have hll := fun k hk => wI [a, b, c, d] (n := k) hk
 have hl0 : wp [a, b, c, d] 0 = [] := rfl
 have hfx := wa hv
 refine Jz Tryz.func86 rfl rfl fun w => JN ?_
 generalize hB : Yz [a, b, c, d] 32 = B at hlen hsu hfx
 generalize wp [a, b, c, d] = F at hsu hll hl0
 refine kj ?_; refine LN rfl fun r1 => kB ?_; refine LR rfl (Jq (vs := [_, _, _, _]) rfl (kn 0 rfl) rfl rfl rfl rfl) (J2 rfl rfl rfl (enters_of Tryz.func137 m5 rfl) hfx (JP 15 rfl (Js (σ := Nat × List Value × Vn) (fun q => q.1 ≤ n ∧ q.2.1 = (F q.1).map bV ∧ rowOk 1 q.1 q.2.1 q.2.2) (fun q => [(1, .int .i64 (n : Int)), (5, Jy B), (6, J3 q.1 q.2.2), (7, .int .i64 (q.1 : Int))]) (fun q => (r1, .cells #[uV a, uV b, uV c, uV d] 31 (0, 0)) :: JJ 5 q.2.1 q.2.2) (fun _ _ _ => True) (fun q => n - q.1) (0, [], none) ⟨Nat.zero_le _, by rw [hl0]; rfl, rfl, rfl⟩ (lK rfl) (List.Sublist.refl _) (fun _ _ h => h) ?_))); rintro ⟨i, xs, row⟩ ⟨hi, hxs, hrow⟩; simp only at hi hxs hrow; change HC _ _ [(1, _), (5, _), (6, J3 i row), (7, .int .i64 (i : Int))] ((r1, _) :: JJ _ xs row) _ _ _; refine J9 8 rfl (cD (fun g => ?_) fun g => ?_)
 ·refine Jt 9 rfl ?_; refine Jj (show _ = Value.int .i64 ((31 - i : Nat) : Int) from by rw [wrap_i64 m0 m0]; congr 1 <;> omega) ?_; refine LR rfl (Vt (j := 31 - i) (n := ((B.getD (31 - i) 0).toNat : Int)) rfl rfl rfl rfl m0 rfl) ?_; refine Jj (show _ = bV (B.getD (31 - i) 0) from rfl) ?_; refine GB fun r2 => ?_; refine JB (L0 := [_, _]) (xs := xs) (row := row) (n := i) (sz := 1) (b := 1) (news := [_]) (List.perm_append_comm (l₁ := [_, _])) rfl rfl rfl rfl (kn 0 rfl) rfl rfl rfl rfl rfl m7 rfl rfl rfl m7 hrow m0 m0 fun ra cap sp hra => ?_; refine DC ?_; refine Qm [2, 0] (L' := [_, _]) m7 rfl ?_; exact Jm (i + 1, xs ++ [bV (B.getD (31 - i) 0)], some (ra, cap, sp)) ⟨by simp only; omega, by simp only; rw [hsu i m0, hxs, List.map_append]; rfl, hra⟩ ml (lK rfl) (List.Sublist.refl _) (fun _ _ h => h)
 ·refine NK ?_
  obtain rfl : i = n := by omega
  refine kj ?_; refine LR rfl (KB (b := F i) (row := row) (e := 5) (show _ = some (J3 (F i).length row) from by rw [hll i hn]; rfl) (by rw [hll i hn, ← hxs]; exact hrow) (fun p hp => .inl (by rw [hxs]; exact List.mem_cons_of_mem _ hp)) rfl rfl rfl) ?_; exact NS
theorem vq (hr : root.length ≤ 1000) {n : Nat} (hn : XD n) : Pure Tryz.prog 87 [Jy root, uV n].toArray (Jy (XA root n)) := by
 have hp := W9 (s := Y5 n 8) Nc
 have hk := zD (s := root ++ Y1 (Y5 n 8)) nb
 change Pure _ _ _ (Jy (XA root n)) at hk
 have hlow := Jfd (v := [n, 0, 0, 0]) (Jq6 hn) (n := 32) (Nat.le_refl _)
 rw [← J21] at hlow
 generalize XA root n = z at hk
 generalize Y1 (Y5 n 8) = q at hp hk hlow
 refine Jz Tryz.func87 rfl rfl fun w => G0 ?_; refine kI ?_; refine J2 rfl rfl rfl Jqa hlow (LR rfl (Qc (a := root) (b := q) rfl rfl m0) (J2 rfl rfl rfl (enters_of Tryz.func138 m5 rfl) hk ?_)); exact NS
theorem Jaf {W : Nat} {l : List BS} (hi : i < W) (hl : l.length ≤ W) : (vm W l).take (i + 1) = (vm W l).take i ++ [if i < l.length then l.getD i [] else z32] := by
 have hlen := zg hl
 rw [List.take_succ_eq_append_getElem m0]
 congr 2
 have h1 := List.getElem?_eq_getElem (l := vm W l) (i := i) m0
 have h2 : (vm W l)[i]? = some (if i < l.length then l.getD i [] else z32) := by
  unfold vm
  by_cases h : i < l.length
  ·rw [if_pos h, List.getElem?_append_left h, Ya h]
  ·rw [if_neg h, List.getElem?_append_right m0, List.getElem?_replicate, if_pos m0]
 rw [h1] at h2; exact Option.some.inj h2
theorem Wo (l : List BS) (s : BS) : VH (l ++ [s]) = VH l ++ [Jy s] := by unfold VH; rw [List.map_append]; rfl
set_option maxHeartbeats 1000000 in
theorem Zq {l : List BS} {p : Pl} (hl : l.length ≤ m) (hm2 : m ≤ 65536) (hs : Seg R l.length (VH l) p) (h32 : ∀ s ∈ l, s.length = 32) :
  PureR Tryz.prog 89 [KE l.length p, .int .i64 (m : Int)].toArray (Jy (QR l m)) R := by
 have hlg : lg m ≤ 16 := Jx2 (by simpa using hm2)
 have hW16 : 2 ^ lg m ≤ 65536 := by have := Nat.pow_le_pow_right (n := 2) (i := lg m) (j := 16) m7 m0; simpa using this
 have hup := Jej m
 obtain ⟨res, hres⟩ : ∃ x, x = QR l m := ⟨_, rfl⟩
 rw [← hres]
 have hroot : qy (lg m) (vm (2 ^ lg m) l) = res := by rw [hres]; rfl
 have hpl : (vm (2 ^ lg m) l).length = 2 ^ lg m := zg m0
 have hpm := Jek (n := 2 ^ lg m) h32
 refine Ja Tryz.func89 rfl rfl fun w => Hk ?_; refine Js (σ := Nat) (fun k => k ≤ lg m) (fun k => [(0, KE l.length p), (1, .int .i64 (m : Int)), (5, .int .i64 ((2 ^ k : Nat) : Int))]) (fun _ => []) (fun _ _ _ => True) (fun k => lg m - k) 0 (Nat.zero_le _) (lK rfl) (List.Sublist.refl _) (fun _ _ h => h) ?_; intro k hk0; refine J9 8 rfl (cD (fun g => ?_) fun g => ?_)
 refine Da ?_
 have hk : k < lg m := Jcf.1 m0
 have hk16 : 2 ^ k ≤ 65536 := by have := Nat.pow_le_pow_right (n := 2) (i := k) (j := 16) m7 m0; simpa using this
 refine GN ?_; refine Jj mQ (Ha ?_); refine Jr ?_; exact Jm (k + 1) m0 m0 (lK rfl) (List.Sublist.refl _) (fun _ _ h => h)
 ·refine NK ?_
  have hkl : ¬ k < lg m := fun h => by have := Jcf.2 h; omega
  obtain rfl : k = lg m := by omega
  obtain ⟨W, hW⟩ : ∃ W, W = 2 ^ lg m := ⟨_, rfl⟩
  rw [← hW] at hup hroot hpl hpm hW16 ⊢; refine J9 11 rfl (Js (σ := Nat × List Value × Vn) (fun q => q.1 ≤ W ∧ q.2.1 = VH ((vm W l).take q.1) ∧ rowOk 1 q.1 q.2.1 q.2.2) (fun q => [(0, KE l.length p), (5, .int .i64 (W : Int)), (6, J3 q.1 q.2.2), (7, .int .i64 (q.1 : Int))]) (fun q => JJ 9 q.2.1 q.2.2) (fun _ _ _ => True) (fun q => W - q.1) (0, [], none) ⟨Nat.zero_le _, rfl, rfl, rfl⟩ (lK rfl) (List.Sublist.refl _) (fun _ _ h => h) ?_); rintro ⟨i, xs, row⟩ ⟨hi, hxs, hrow⟩; simp only at hi hxs hrow; change HC _ _ [(0, _), (5, _), (6, J3 i row), (7, .int .i64 (i : Int))] (JJ _ xs row) _ _ _; refine J9 8 rfl (cD (fun g => ?_) fun g => ?_)
  refine Jt 8 rfl (NE ?_); refine kU ?_; refine cD (fun g => ?_) fun g => ?_
  refine GO ?_
  refine gn ?_; refine LR rfl (Wx oR rfl hs m0 rfl (Zp (Ya (i := i) m0))) (kc fun r1 => ?_); refine JB (L0 := [_]) (xs := xs) (row := row) (n := i) (sz := 1) (b := 16) (news := [_]) (List.perm_append_comm (l₁ := [_])) rfl rfl rfl rfl (kn 0 rfl) rfl rfl rfl rfl rfl m7 rfl rfl rfl m7 hrow m0 m0 fun ra cap sp hra => DC ?_
  (refine Qm [0] (L' := [_]) m7 rfl ?_
   exact Jm (i + 1, xs ++ [Jy (l.getD i [])], some (ra, cap, sp)) ⟨by simp only; omega, by simp only; rw [Jaf m0 m0, if_pos m0, Wo, hxs], hra⟩ ml (lK rfl) (List.Sublist.refl _) (fun _ _ h => h))
  refine kj ?_; refine Wq (n := 32) (b := 1) rfl rfl rfl rfl rfl rfl rfl rfl rfl m7 m7 fun rm => LR rfl (KB (b := z32) (row := some (rm, 32, [])) (e := 5) rfl ⟨rfl, rfl⟩ (fun p hp => .inl mU) rfl rfl rfl) (GB fun r2 => ?_); refine JB (L0 := [_, _]) (xs := xs) (row := row) (n := i) (sz := 1) (b := 16) (news := [_]) (List.perm_append_comm (l₁ := [_, _])) rfl rfl rfl rfl (kn 0 rfl) rfl rfl rfl rfl rfl m7 rfl rfl rfl m7 hrow m0 m0 fun ra cap sp hra => DC ?_
  (refine Qm [0] (L' := [_]) m7 rfl ?_
   exact Jm (i + 1, xs ++ [Jy z32], some (ra, cap, sp)) ⟨by simp only; omega, by simp only; rw [Jaf m0 m0, if_neg m0, Wo, hxs], hra⟩ ml (lK rfl) (List.Sublist.refl _) (fun _ _ h => h))
  ·refine E3 ?_
   obtain rfl : i = W := by omega
   rw [List.take_of_length_le m0] at hxs; subst hxs; refine Js (σ := Nat × List BS × Vn) (fun q => q.2.1.length = 2 ^ q.1 ∧ q.1 ≤ 16 ∧ qy q.1 q.2.1 = res ∧ rowOk 1 q.2.1.length (VH q.2.1) q.2.2 ∧ ∀ x ∈ q.2.1, x.length = 32) (fun q => [(6, J3 q.2.1.length q.2.2)]) (fun q => JJ 9 (VH q.2.1) q.2.2) (fun _ _ _ => True) (fun q => q.1) (lg m, vm i l, row) ⟨hpl.trans hW, hlg, hroot, by simp only; rw [hpl]; exact hrow, hpm⟩ (.cons (by simp only; rw [hpl]; rfl) .nil) (List.Sublist.refl _) (fun _ _ h => h) ?_; rintro ⟨k, ls, row⟩ ⟨hlen, hk16, heq, hok, hmem⟩; simp only at hlen hk16 heq hok hmem; change HC _ _ [(6, J3 ls.length row)] (JJ _ (VH ls) row) _ _ _
   have hp16 : 2 ^ k ≤ 65536 := by have := Nat.pow_le_pow_right (n := 2) (i := k) (j := 16) m7 hk16; simpa using this
   refine GO ?_; refine LR rfl (W7 rfl hok.zero rfl) (kU ?_); refine cD (fun g => ?_) fun g => ?_
   ·refine J9 4 rfl ?_
    obtain ⟨K, rfl⟩ : ∃ K, k = K + 1 := by
     cases k with
     | zero => simp at hlen; omega
     | succ K => exact ⟨K, rfl⟩
    rw [qy] at heq; rw [Nat.pow_succ] at hlen; refine J9 11 rfl (Js (σ := Nat × List Value × Vn) (fun q => 2 * q.1 ≤ ls.length ∧ q.2.1 = VH ((SL.pairUp ls).take q.1) ∧ rowOk 1 q.1 q.2.1 q.2.2) (fun q => [(6, J3 ls.length row), (8, J3 q.1 q.2.2), (9, .int .i64 ((2 * q.1 : Nat) : Int))]) (fun q => JJ 9 (VH ls) row ++ JJ 9 q.2.1 q.2.2) (fun _ _ _ => True) (fun q => ls.length - 2 * q.1) (0, [], none) ⟨Nat.zero_le _, rfl, rfl, rfl⟩ (lK rfl) (by rw [show JJ 9 [] none = [] from rfl, List.append_nil]; exact List.Sublist.refl _) (fun _ _ h => h) ?_); rintro ⟨i, xs, row3⟩ ⟨h2i, hxs, hr3⟩; simp only at h2i hxs hr3; change HC _ _ [(6, J3 ls.length row), (8, J3 i row3), (9, .int .i64 ((2 * i : Nat) : Int))] (JJ _ (VH ls) row ++ JJ _ xs row3) _ _ _; refine gH ?_; refine LR rfl (W7 rfl hok.zero rfl) (kU ?_); refine cD (fun g => ?_) fun g => ?_
    ·refine J9 4 rfl ?_
     have hg1 := YJ hmem (i := 2 * i) m0
     have hg2 := YJ hmem (i := 2 * i + 1) m0
     have hkc := zD (s := ls.getD (2 * i) [] ++ ls.getD (2 * i + 1) []) nb
     obtain ⟨sv, hsv⟩ : ∃ x, x = WO (ls.getD (2 * i) [] ++ ls.getD (2 * i + 1) []) := ⟨_, rfl⟩
     rw [← hsv] at hkc
     refine yw [] [(0, .pure), (1, .pure), (2, .pure), (3, .pure), (5, .pure), (6, .pure), (7, .pure), (8, .pure), (10, .pure), (11, .pure), (12, .act (Jdq (slV 1) (.cells #[Jy sv] 9 (0, 0))))] 13 m5 m5 m6 (HR ?_); refine HR ?_; refine HR ?_; refine ZJ rfl rfl rfl rfl (fun _ hS => (Jf (p := Qv row) (j := 2 * i) nM (Ke (e := 9) hok m7) rfl rfl rfl rfl m0)) (J0t rfl rfl rfl rfl (Wx (p := Qv row) (fun q hq => Or.inl (List.mem_append_left _ hq)) rfl (Ke (e := 9) hok m7) m0 rfl (Zp (Ya (i := 2 * i) m0))) (HR ?_)); refine HR ?_
     refine ZJ rfl rfl rfl rfl (fun _ hS => (Ju rfl rfl rfl)) (J0u mV (ZJ rfl rfl rfl rfl (fun _ hS => (Jf (p := Qv row) (j := 2 * i + 1) nM (Ke (e := 9) hok m7) rfl rfl rfl rfl m0)) (J0t rfl rfl rfl rfl (Wx (p := Qv row) (fun q hq => Or.inl (List.mem_append_left _ hq)) rfl (Ke (e := 9) hok m7) m0 rfl (Zp (Ya (i := 2 * i + 1) m0))) (ZJ rfl rfl rfl rfl (fun _ hS => (Qc (a := ls.getD (2 * i) []) (b := ls.getD (2 * i + 1) []) rfl rfl m0)) (yx rfl rfl rfl rfl (enters_of Tryz.func138 m5 rfl) hkc (Yy (n := 1) (sz := 1) (vs := [_]) (zs := [_]) (r := [Jy sv]) rfl rfl rfl rfl rfl rfl rfl rfl rfl rfl mf rfl (fun _ h => nomatch h) fun rv => ?_)))))); refine Jgw (JB (L0 := _ :: JJ 9 (VH ls) row) (xs := xs) (row := row3) (n := i) (sz := 1) (b := 16) (news := [Jy sv]) (by rw [← List.cons_append]; exact List.perm_append_comm) rfl rfl rfl rfl (kn 0 rfl) rfl rfl rfl rfl rfl m7 rfl rfl rfl m7 hr3 m0 m0 fun ra cap sp hra => Gq ?_); refine Jj nE (HG ?_)
     refine wB (L' := _ :: (JJ 9 (VH ls) row ++ JJ 9 (xs ++ [Jy sv]) (some (ra, cap, sp)))) (by
      refine (List.Perm.swap _ _ _).trans (List.Perm.cons _ ?_)
      exact (List.perm_append_comm (l₁ := [_]))) ?_
     exact Jm (i + 1, xs ++ [Jy sv], some (ra, cap, sp)) ⟨by simp only; omega, by simp only; rw [vp ls m0, ← hsv, Wo, hxs], hra⟩ ml (lK rfl) (.cons _ (List.Sublist.refl _)) (fun _ _ h => h)
    refine gr ?_
    have hi2 : 2 * i = ls.length := by omega
    have hpl2 := Wt ls
    rw [List.take_of_length_le m0] at hxs
    obtain rfl : i = (SL.pairUp ls).length := by omega
    subst hxs; refine KQ 5 rfl (Jr (jz (L' := JJ 9 (VH (SL.pairUp ls)) row3) (List.sublist_append_right _ _) ?_)); exact Jm (K, SL.pairUp ls, row3) ⟨by simp only; omega, by simp only; omega, heq, hr3, Zm ls⟩ ml (.cons rfl .nil) (List.Sublist.refl _) (fun _ _ h => h)
   ·refine NK ?_
    obtain rfl : k = 0 := by
     cases k with
     | zero => rfl
     | succ K => have := Nat.two_pow_pos K; rw [Nat.pow_succ] at hlen; omega
    obtain ⟨s0, hls1⟩ : ∃ s0, ls = [s0] := by
     match ls, hlen with
     | [a], _ => exact ⟨a, rfl⟩
     | [], h => simp at h
     | _ :: _ :: _, h => simp at h
    have hlen1 : ls.length = 1 := by rw [hls1]; rfl
    refine kj ?_; refine LR rfl (Jf (p := Qv row) (j := 0) nM (Ke (e := 9) hok m7) rfl rfl rfl rfl m0) (LR rfl (Wx (p := Qv row) (fun q hq => Or.inl hq) rfl (Ke (e := 9) hok m7) m0 rfl (Zp (show ls[0]? = some s0 from by rw [hls1]; rfl))) (DP fun w1 hs1 => ?_)); rw [← heq, hls1]; rfl
end Go.Proofs.YteceenlfegnigaaGreatDoor
