import Derived.Test.YteceenlfegnigaaGreatDoorZtBackc
import Derived.RecoverIn
set_option maxRecDepth 100000
namespace Go.Proofs.YteceenlfegnigaaGreatDoor
set_option linter.all false
open Go.SL Go.RowKit Go.Shelf
theorem Jay (x : Ty) : V1 x = if JB x then JQ x else 4 := rfl
theorem vW {R : Jo} {t : Ty} (ht : t.In R) : PureR Tryz.prog 165 [t.val].toArray (.tuple #[.int .i64 (V1 t), .bool (JB t)]) R := by
  have h1 := Jac ht
  have h2 := Jfq ht
  unfold ww at h2
  rw [Jay]
  generalize JB t = b at h1 h2 ⊢
  generalize JQ t = z at h2 ⊢
  obtain ⟨k, n, p, ins⟩ := t
  refine Je Tryz.func165 rfl rfl fun w => ?_; refine sR fun K1 hK1 => ?_; refine LN rfl fun r1 => ?_; refine LS 2 [] rfl rfl (nK hK1 ?_); clear hK1 K1; refine sQ fun K2 hK2 => sR fun K3 hK3 => ?_; refine LR rfl (Jw (vs := [_, _, _]) rfl (kn 0 rfl) rfl rfl rfl rfl) ?_; refine Jh rfl rfl rfl Jmo h1 (fun q hq => Or.inr hq) ?_; refine nK hK3 ?_; clear hK3 K3; refine Jc rfl (fun h4 => ?_) (fun h4 => ?_)
  try simp only [ZZ] at h4
  refine sR fun K5 hK5 => ?_; refine LR rfl (Jw (vs := [_, _, _]) rfl (kn 0 rfl) rfl rfl rfl rfl) ?_; refine Jh rfl rfl rfl Jmp h2 (fun q hq => Or.inr hq) ?_; refine LS 2 [] rfl rfl (nK hK5 ?_); clear hK5 K5; refine Jb (Jd ?_); clear hK2 K2; refine Jt rfl rfl (.cons (J1 rfl) (.cons (J1 rfl) .nil)) (fun w1 hs1 => ?_); refine ⟨?_, hs1.keep⟩
  simp_all [JN]
  · try simp only [ZZ] at h4
    refine Jg (hK2 ?_); clear hK2 K2; refine sR fun K6 hK6 => LS 2 [] rfl rfl (nK hK6 ?_); clear hK6 K6; refine Jb ?_; refine Jt rfl rfl (.cons (J1 rfl) (.cons (J1 rfl) .nil)) (fun w1 hs1 => ?_); refine ⟨?_, hs1.keep⟩
    simp_all [JN]
theorem Jvc {R : Jo} {k n : Int} {p : Pl} {ins : List Ty} {pick : Int} {i : Nat} (ht : Ty.In R (.mk k n p ins)) (hp8 : k = 8 → 0 ≤ pick) (hx : VX k pick i < ins.length) : PureR Tryz.prog 231 [Ty.val (.mk k n p ins), .int .i64 pick, .int .i64 (i : Int)].toArray (JC k pick ins i).val R := by
  have hty := Qi hx
  cases ht with
  | @mk k n p ins hk hn hlt hst hit =>
  obtain ⟨X, hX⟩ : ∃ X, X = JC k pick ins i := ⟨_, rfl⟩
  rw [← hX] at hty ⊢; refine Je Tryz.func231 rfl rfl fun w => ?_; refine sR fun _ hK1 => ?_; refine LN rfl fun r1 => ?_; refine LN rfl fun r2 => ?_; refine nK hK1 (sQ fun _ hK2 => ?_); refine sR fun _ hK3 => ?_
  refine LS 2 [1] rfl rfl (nK hK3 ?_); refine Js (sR fun _ hK4 => (LS 2 [] rfl rfl ?_)); refine nK hK4 ?_; refine Jc rfl (fun h5 => ?_) (fun h5 => ?_)
  try simp only [ZZ] at h5
  refine sR fun _ hK6 => ?_
  refine LS 3 [1] rfl rfl ?_; refine LR rfl (Jr (j := VX k pick i) rfl hst rfl rfl rfl (by unfold VX; rw [if_pos (by assumption)]) hx) ?_; refine LR rfl (KX (fun q hq => Or.inr hq) rfl hst hty.1 rfl rfl) ?_; refine Jz (k := 0) (n := 3) (ys := X.cells) rfl rfl rfl rfl rfl X.len rfl X.one rfl ?_; refine nK hK6 (Jb (Jn (Jd ?_))); refine Jt rfl rfl (.cons (J9 (vs := X.cells) rfl (kn 0 rfl) rfl (by rw [X.len]; rfl)) .nil) (fun w1 hs1 => ?_); exact ⟨rfl, hs1.keep⟩
  · try simp only [ZZ] at h5
    refine sR fun _ hK7 => LS 2 [] rfl rfl (nK hK7 ?_); refine Jc rfl (fun h8 => ?_) (fun h8 => ?_)
    try simp only [ZZ] at h8
    refine sR fun _ hK9 => ?_
    refine LS 3 [1] rfl rfl ?_; refine LR rfl (Jr (j := VX k pick i) rfl hst rfl rfl rfl (by unfold VX; rw [if_neg (by assumption), if_pos (by assumption)]; have := hp8 (by assumption); omega) hx) ?_; refine LR rfl (KX (fun q hq => Or.inr hq) rfl hst hty.1 rfl rfl) ?_; refine Jz (k := 0) (n := 3) (ys := X.cells) rfl rfl rfl rfl rfl X.len rfl X.one rfl ?_; refine nK hK9 (Jb (Jn (Jd ?_))); refine Jt rfl rfl (.cons (J9 (vs := X.cells) rfl (kn 0 rfl) rfl (by rw [X.len]; rfl)) .nil) (fun w1 hs1 => ?_); exact ⟨rfl, hs1.keep⟩
    · try simp only [ZZ] at h8
      refine Jg (Jj (hK2 ?_)); refine sR fun _ hK10 => ?_
      refine LS 2 [1] rfl rfl ?_; refine LR rfl (Jr (j := VX k pick i) rfl hst rfl rfl rfl (by unfold VX; rw [if_neg (by assumption), if_neg (by assumption)]; rfl) hx) ?_; refine LR rfl (KX (fun q hq => Or.inr hq) rfl hst hty.1 rfl rfl) ?_; refine Jz (k := 0) (n := 3) (ys := X.cells) rfl rfl rfl rfl rfl X.len rfl X.one rfl ?_; refine nK hK10 (Jb ?_); refine Jt rfl rfl (.cons (J9 (vs := X.cells) rfl (kn 0 rfl) rfl (by rw [X.len]; rfl)) .nil) (fun w1 hs1 => ?_); exact ⟨rfl, hs1.keep⟩
def Kq (k : Int) (ins : List Ty) (m : Nat) : List Ty := (List.range m).map fun i => JC k 0 ins i
theorem VA : ∀ a b : List Ty, JU (a ++ b) = JU a + JU b
  | [], b => by rw [List.nil_append, JU, Int.zero_add]
  | x :: xs, b => by rw [List.cons_append, JU, JU, VA xs b, Int.add_assoc]
theorem zQ (k : Int) (ins : List Ty) (i : Nat) : JU (Kq k ins (i + 1)) = JU (Kq k ins i) + V1 (JC k 0 ins i) := by
  unfold Kq
  rw [List.range_succ, List.map_append, VA, List.map_cons, List.map_nil, JU, JU, Int.add_zero]
theorem jY (x : Ty) : 1 ≤ V1 x ∧ V1 x ≤ 2251799813685248 := by
  unfold V1
  split
  · rename_i h
    obtain ⟨h1, h2⟩ := Vd.1 h
    have h3 := xR x 0 (Int.le_refl _) h1 h2
    have h4 := Jmh (show (5 - (0 : Int)).toNat ≤ 5 by decide)
    omega
  · omega
theorem ZK : ∀ l : List Ty, 0 ≤ JU l ∧ JU l ≤ 2251799813685248 * l.length
  | [] => by rw [JU]; simp
  | x :: xs => by
    have h1 := jY x
    have h2 := ZK xs
    rw [JU, List.length_cons]; omega
theorem WS (k : Int) (ins : List Ty) (m : Nat) : (Kq k ins m).length = m := by unfold Kq; rw [List.length_map, List.length_range]
def jp (r : Nat) (m : Int) : Nat × Obj := (r, .cells #[.int .i64 m] 3 (0, 0))
theorem Jaz (t : Ty) (m : Int) : PureE (α := Nat × Nat) Tryz.prog 164 [t.val, .int .i64 m].toArray (fun p => .func (.func 230) #[] #[VG p.2, VG p.1]) (fun p => [jp p.2 m, VQ p.1 t]) := by
  obtain ⟨k, n, p, ins⟩ := t
  refine V4 Tryz.func164 rfl rfl fun w => ?_; refine sR fun _ hK1 => ?_; refine LN rfl fun r1 => ?_; refine LN rfl fun r2 => ?_; refine Ji rfl (nK hK1 ?_); refine sR fun _ hK2 => ?_; refine LR rfl (Ku rfl rfl) ?_; refine Ji rfl (nK hK2 ?_); refine Jb (pT rfl rfl rfl fun w1 hs1 => ?_); exact ⟨(r1, r2), rfl, hs1⟩
def itV (k : Int) (ins : List Ty) (i : Nat) : List Value := [.int .i64 (i : Int), (JC k 0 ins i).val]
theorem Jib {R : Jo} {k n : Int} {p : Pl} {ins : List Ty} {m : Nat} (ht : Ty.In R (.mk k n p ins)) (hm : m ≤ 1000000) (hx : ∀ i, i < m → VX k 0 i < ins.length) (rt ri : Nat) :
    xy Tryz.prog 230 [VG ri, VG rt] (jp ri m :: VQ rt (.mk k n p ins) :: R) 0 (nxN (itV k ins) m) (Je6 m) := by
  refine W5 Tryz.func230 rfl rfl fun q xids w2 XI XF hY => ?_; refine sR fun _ hK1 => ?_; refine LR rfl (Jk (v := .int .i64 (m : Int)) rfl (J7 (k := 0) rfl) rfl rfl) ?_; refine Ji rfl (nK hK1 ?_); refine Js (JL (σ := Nat) (fun i => i ≤ m) (fun i => [(0, .func (.yield q) #[] #[]), (1, VG ri), (2, VG rt), (5, .int .i64 (m : Int)), (6, .int .i64 (i : Int))]) (fun _ => []) (fun i => XI i) (fun i => m - i) 0 (Nat.zero_le _) (.cons rfl (.cons rfl (.cons rfl (.cons rfl (.cons rfl .nil))))) (List.Sublist.refl _) (fun _ _ h => h) ?_); intro i hi; refine sR fun _ hK2 => JY rfl (nK hK2 ?_); refine sQ fun _ hK3 => ?_; refine Jc rfl (fun h4 => ?_) (fun h4 => ?_)
  · try simp only [ZZ] at h4
    refine Jg (hK3 ?_); refine sB fun _ hK5 => sR fun _ hK6 => ?_; refine LS 2 [] rfl rfl (nK hK6 ?_); refine sQ fun _ hK7 => ?_
    have hil : i < m := by omega
    refine Ja (LS 2 [] rfl rfl (LR rfl (Jq (xs := Ty.cells (.mk k n p ins)) (n := 3) rfl (J7 (k := 1) rfl) rfl rfl (Ty.len _)) ?_)); refine Ji rfl (Jh rfl rfl rfl (enters_of Tryz.func231 (by kernel_rfl) rfl) (Jvc ht (fun _ => Int.le_refl 0) (hx i hil)) (fun q hq => Or.inr (List.mem_cons_of_mem _ (List.mem_cons_of_mem _ hq))) ?_); refine WI (XT := XI (i + 1)) (XF := XF) rfl rfl rfl rfl (hY i (itV k ins i) (i + 1) ⟨hil, rfl, rfl⟩) ?_ ?_
    all_goals refine JY rfl ?_
    all_goals refine Jf ?_
    all_goals (
     refine hK7 ?_; refine Jc rfl (fun h8 => ?_) (fun h8 => ?_)
     · try exact Bool.noConfusion h8
       all_goals try simp only [ZZ] at h8
       all_goals (
        refine Jb (Jn (Jd ?_)); refine Jd (Jn ?_); refine Jt rfl rfl .nil (fun w1 hs1 => ?_)
        obtain ⟨xs1, hx1⟩ := hs1.now
        exact ⟨⟨_, rfl⟩, hs1.keep, .inr ⟨_, hx1⟩⟩
        skip)
     · try exact Bool.noConfusion h8
       all_goals try simp only [ZZ] at h8
       all_goals (
        refine Jg (Jj (hK5 ?_)); refine Ja ?_
        refine JY rfl ?_; refine Jy (show _ = Value.int .i64 ((i + 1 : Nat) : Int) from by rw [wrap_i64 (by omega) (by omega)]; congr 1 <;> omega) ?_; refine Ji rfl (Jf (J8 ?_)); exact J2 (i + 1) (by omega) (by omega) (.cons rfl (.cons rfl (.cons rfl (.cons rfl (.cons rfl .nil))))) (List.Sublist.refl _) (fun _ _ h => h)
        skip)
     skip)
  · try simp only [ZZ] at h4
    refine JJ (Jm ?_); refine Jm (J0 ?_); refine QA rfl rfl .nil (fun w1 hs1 => ?_)
    obtain ⟨xs1, hx1⟩ := hs1.now
    exact ⟨⟨_, rfl⟩, hs1.keep, .inl ⟨i, _, (by show i = m; omega), hx1⟩⟩
theorem Jdy {R : Jo} {k n : Int} {p : Pl} {ins : List Ty} {m : Nat} (ht : Ty.In R (.mk k n p ins)) (hm : m ≤ 600) (hx : ∀ i, i < m → VX k 0 i < ins.length) : PureR Tryz.prog 163 [Ty.val (.mk k n p ins), .int .i64 (m : Int)].toArray (.int .i64 (JU (Kq k ins m))) R := by
  have hti := fun i h => ht.sub _ (Qi (hx i h)).2
  refine Je Tryz.func163 rfl rfl fun w => ?_; refine sR fun _ hK1 => ?_; refine LN rfl fun r1 => ?_; refine Ji rfl (nK hK1 ?_); refine sR fun _ hK2 => ?_; refine LN rfl fun r2 => ?_
  refine LT 0 rfl rfl (nK hK2 ?_); refine sQ fun _ hK3 => sR fun _ hK4 => ?_; refine LS 2 [1] rfl rfl ?_; refine Vx rfl rfl rfl Jmq (Jaz (.mk k n p ins) (m : Int)) fun pp => ?_
  obtain ⟨ra, rb⟩ := pp
  change HL _ _ _ (jp rb m :: VQ ra (.mk k n p ins) :: _) _ _ _ _; refine nK hK4 (Js (Y0 [2, 0, 1, 3] (L' := [_, _, _, _]) (by decide) rfl ?_))
  refine Xk (τ := Unit) (fun i (s : Nat) => i ≤ m ∧ i = s) (fun s => [(r2, .cells #[.int .i64 (JU (Kq k ins s))] 3 (0, 0))]) (fun _ _ => False) (fun _ => []) [jp rb m, VQ ra (.mk k n p ins), _] 0 rfl rfl Jmv (Jib ht (by omega) hx ra rb) (by rintro _ _ _ ⟨_, rfl, _⟩; rfl) rfl (fun q hq => by rcases List.mem_cons.1 hq with rfl | hq; exact .inl (by simp); rcases List.mem_cons.1 hq with rfl | hq; exact .inl (by simp); exact .inr hq) rfl ⟨Nat.zero_le _, rfl⟩ ?_ ?_ ?_
  rintro q Xr Xb w3 i _ _ s ⟨hii, rfl, rfl⟩ ⟨him, rfl⟩ Kr hKr
  have hti1 := hti i hii
  have hb1 := jY (JC k 0 ins i)
  have hb2 := ZK (Kq k ins i)
  rw [WS] at hb2
  unfold itV
  refine Ja (LN rfl fun r3 => (Jz (k := 0) (n := 3) (ys := (JC k 0 ins i).cells) rfl rfl rfl rfl rfl (JC k 0 ins i).len rfl (JC k 0 ins i).one rfl ?_)); refine Jf ?_; refine hKr _ _ ?_; clear hKr; refine Js (sR fun _ hK5 => (LR rfl (Jq (xs := (JC k 0 ins i).cells) (n := 3) rfl (kn 0 rfl) rfl rfl (JC k 0 ins i).len) ?_)); refine Jh rfl rfl rfl Jhb (vW hti1) (fun q hq => Or.inr (List.mem_append_right _ hq)) ?_; refine LS 5 [] rfl rfl (nK hK5 ?_); refine Ja (LR rfl (Jk (v := .int .i64 (JU (Kq k ins i))) rfl (kn 1 rfl) rfl rfl) (LS 2 [] rfl rfl ?_)); refine Jy (show _ = Value.int .i64 (JU (Kq k ins (i + 1))) from by rw [zQ]; exact congrArg (Value.int .i64) (wrap_i64 (by omega) (by omega))) ?_; refine Kx (k := 1) (cs' := #[.int .i64 (JU (Kq k ins (i + 1)))]) rfl rfl rfl rfl rfl rfl rfl rfl rfl rfl ?_; refine Jf (Jj (Vo [1] (L' := [_]) (by decide) rfl ?_)); refine QS (i + 1) ⟨by omega, rfl⟩ rfl
  rintro D i s hfi ⟨him, rfl⟩
  obtain rfl : m = i := Eq.symm hfi
  refine Jj (hK3 ?_); refine sR fun _ hK6 => ?_; refine LR rfl (Jk (v := .int .i64 (JU (Kq k ins m))) rfl (kn 1 rfl) rfl rfl) ?_; refine Ji rfl (nK hK6 ?_); refine Jb (QP (k := 0) rfl rfl ?_); refine pT rfl rfl rfl fun w1 hs1 => ?_; exact ⟨rfl, hs1.keep⟩
  · exact fun _ _ _ h => h.elim
theorem Jdz {s : BS} (hl : s.length ≤ 1000000) : Pure Tryz.prog 114 [J3 s].toArray (J3 s.reverse) := by
  refine JG Tryz.func114 rfl rfl fun w => ?_; refine sR fun _ hK1 => Ji rfl (nK hK1 ?_); refine sR fun _ hK2 => Ji rfl (XK rfl rfl rfl rfl rfl rfl fun rb kb => ?_)
  obtain ⟨sp, hsp⟩ : ∃ sp, sp = List.replicate kb (Value.int .u8 0) := ⟨_, rfl⟩
  rw [← hsp]
  obtain ⟨fr, hfr⟩ : ∃ fr : Nat × Nat, fr = (s.length + kb, s.length + kb + 1) := ⟨_, rfl⟩
  rw [← hfr]
  have hfz : ∀ q, q < s.length → frB fr q = false := fun q hq => by rw [hfr]; simp [frB, Nat.blt, Nat.ble]; omega
  refine Ji rfl (nK hK2 ?_); refine sQ fun _ hK3 => sR fun _ hK4 => ?_; refine Ji rfl (LR rfl (KM rfl rfl) ?_); refine JY rfl (Jy (show _ = Value.int .i64 ((s.length : Int) - 1) from congrArg (Value.int .i64) (wrap_i64 (by omega) (by omega))) (LS 2 [] rfl rfl ?_)); refine nK hK4 (Js ?_); refine JL (σ := Nat) (fun i => 2 * i ≤ s.length + 1 ∧ 2 * i ≤ s.length) (fun i => [(3, .slice (some ⟨rb, 0, none⟩) s.length (s.length + kb)), (4, .int .i64 (i : Int)), (5, .int .i64 ((s.length : Int) - 1 - (i : Int)))]) (fun i => [(rb, .cells ((YF s i).map bV ++ sp).toArray 5 fr)]) (fun _ _ _ => True) (fun i => s.length - i) 0 ⟨by omega, by omega⟩ (.cons rfl (.cons rfl (.cons (by rw [show ((0 : Nat) : Int) = 0 from rfl, Int.sub_zero]; rfl) .nil))) (List.Sublist.refl _) (fun _ _ h => h) ?_; rintro i ⟨hi1, hi2⟩; refine sQ fun _ hK5 => sR fun _ hK6 => ?_; refine LS 3 [] rfl rfl (nK hK6 ?_); refine Jc rfl (fun h7 => ?_) (fun h7 => ?_)
  · try simp only [ZZ] at h7
    refine Jg (hK5 ?_); refine sB fun _ hK8 => ?_
    have hii : i + 1 ≤ s.length - i := by omega
    obtain ⟨Y, hY⟩ : ∃ Y, Y = YF s i := ⟨_, rfl⟩
    have hYl : Y.length = s.length := by rw [hY]; exact Yo s i
    rw [← hY]
    refine JS [] [(0, .pure), (1, .pure), (2, .pure), (3, .pure), (4, .pure), (5, .pure), (6, .pure), (8, .pure), (9, .pure), (10, .pure), (12, .pure), (13, .turn), (14, .pure), (15, .turn)] 16 [0, 1, 2, 3, 4, 5, 6, 7, 8, 9, 10, 11, 12, 13, 14, 15] (by kernel_rfl) (by kernel_rfl) (by first | exact (fun _ h => absurd h List.not_mem_nil) | simp [SubS] | (intro p hp; simp [hp])) ?_; refine Jv (k := 0) rfl rfl rfl rfl rfl (fun _ hS => (Jp rfl)) ?_; refine Jv (k := 1) rfl rfl rfl rfl rfl (fun _ hS => (Jp rfl)) ?_; refine Jv (k := 2) rfl rfl rfl rfl rfl (fun _ hS => (Jp rfl)) ?_; refine Jv (k := 3) rfl rfl rfl rfl rfl (fun _ hS => (Jp rfl)) ?_; refine Jv (k := 4) rfl rfl rfl rfl rfl (fun _ hS => (Jp rfl)) ?_; refine Jv (k := 5) rfl rfl rfl rfl rfl (fun _ hS => (Jp rfl)) ?_; refine Jv (k := 6) rfl rfl rfl rfl rfl (fun _ _ => Kj (j := (s.length - 1 - i)) (m := 1) (off' := (s.length - 1 - i)) rfl rfl rfl rfl (by omega) (by omega) (by omega)) ?_; refine KZ (k := 7) rfl rfl rfl rfl rfl (Jk rfl (kn 0 rfl) rfl (vH (xs := Y.map bV) (v := bV (Y.getD (s.length - 1 - i) 0)) (Yn (by omega)))) ?_; refine Jv (k := 8) rfl rfl rfl rfl rfl (fun _ hS => (Jp rfl)) ?_; refine Jv (k := 9) rfl rfl rfl rfl rfl (fun _ hS => (Jp rfl)) ?_; refine Jv (k := 10) rfl rfl rfl rfl rfl (fun _ _ => Kj (j := i) (m := 1) (off' := i) rfl rfl rfl rfl (by omega) (by omega) (by omega)) ?_; refine KZ (k := 11) rfl rfl rfl rfl rfl (Jk rfl (kn 0 rfl) rfl (vH (xs := Y.map bV) (v := bV (Y.getD (i) 0)) (Yn (by omega)))) ?_; refine Jv (k := 12) rfl rfl rfl rfl rfl (fun _ _ => Kj (j := i) (m := 1) (off' := i) rfl rfl rfl rfl (by omega) (by omega) (by omega)) ?_; refine ZI (k := 13) (q := 0) (cs' := ((Y.set i (Y.getD (s.length - 1 - i) 0)).map bV ++ sp).toArray) rfl rfl rfl rfl rfl rfl rfl rfl (hfz _ (by omega)) (by simp; omega) (jW (by omega)) rfl (fun _ h => nomatch h) ?_; refine Jv (k := 14) rfl rfl rfl rfl rfl (fun _ _ => Kj (j := (s.length - 1 - i)) (m := 1) (off' := (s.length - 1 - i)) rfl rfl rfl rfl (by omega) (by omega) (by omega)) ?_; refine ZI (k := 15) (q := 0) (cs' := ((YF s (i + 1)).map bV ++ sp).toArray) rfl rfl rfl rfl rfl rfl rfl rfl (hfz _ (by omega)) (by simp; omega) (by rw [jW (by rw [List.length_set]; omega), YF, ← hY]) rfl (fun _ h => nomatch h) ?_; refine KD ?_; refine Jf (Jj (hK8 ?_)); refine Ja (LS 2 [] rfl rfl (Ju (by omega) (by omega) ?_)); refine Ji rfl ?_
    refine JY rfl ?_; refine Jy (show _ = Value.int .i64 ((s.length : Int) - 1 - ((i + 1 : Nat) : Int)) from by rw [wrap_i64 (by omega) (by omega)]; congr 1 <;> omega) ?_; refine LS 2 [] rfl rfl (Jf ?_); refine J8 ?_; exact J2 (i + 1) ⟨by omega, by omega⟩ (by omega) (.cons rfl (.cons rfl (.cons rfl .nil))) (List.Sublist.refl _) (fun _ _ h => h)
  · try simp only [ZZ] at h7
    refine JJ (Jm ?_); refine Jm (J0 (hK3 ?_)); refine sQ fun _ hK9 => ?_; rw [Jds (xs := s) (i := i) (by omega) (by omega)]; refine Ja (Ji rfl ?_); refine LR rfl (vk (b := s.reverse) rfl (kn 0 rfl) (by rw [List.length_reverse]) (by simp only [List.toList_toArray]; rw [List.take_left' (by rw [List.length_map])]) rfl rfl rfl) ?_; refine Ji rfl (nK hK9 ?_); refine Jb (pT rfl rfl rfl fun w1 hs1 => ?_); exact ⟨rfl, hs1.keep⟩
theorem zR {Y : BS} {i : Nat} {b : UInt8} : (Y.map bV).toArray.setIfInBounds i (bV b) = ((Y.set i b).map bV).toArray := by
  rw [List.setIfInBounds_toArray, List.map_set]
theorem Jic (x : UInt8) {m : Nat} (hm : m < 8) : Value.int .u8 ((x.toNat ||| 2 ^ m : Nat) : Int) = bV (UInt8.ofNat (x.toNat ||| 2 ^ m)) := Jgw (Ju4 (Vg x) hm)
theorem Joi {m : Nat} (hm : m < 8) : IntKind.u8.wrap (1 * ((2 ^ m : Nat) : Int)) = ((2 ^ m : Nat) : Int) := by
  have h : 2 ^ m ≤ 128 := Nat.pow_le_pow_right (n := 2) (i := m) (j := 7) (by decide) (by omega)
  generalize 2 ^ m = q at h ⊢
  rw [Int.one_mul]; exact xx (by omega) (by omega)
theorem Joj {R : Jo} {l : List Bool} {g : FuncId} {caps : List Value} (hl : l.length ≤ 1000000) (eg : Enters Tryz.prog g) (hg : ∀ i, i < l.length → PureR Tryz.prog g (Value.int .i64 (i : Int) :: caps).toArray (.bool (l.getD i false)) R) :
    PureR Tryz.prog 116 [.int .i64 (l.length : Int), .func (.func g) #[] caps.toArray].toArray (J3 (Qj l)) R := by
  obtain ⟨N, hN⟩ : ∃ N, N = (l.length + 7) / 8 := ⟨_, rfl⟩
  have hpB : Qj l = KR l N l.length := by rw [hN]; rfl
  refine Je Tryz.func116 rfl rfl fun w => ?_; refine sR fun K1 hK1 => Ji rfl (nK hK1 ?_); clear hK1 K1; refine sR fun K2 hK2 => Ji rfl ?_
  refine JY rfl ?_; refine Jy (show _ = Value.int .i64 ((l.length + 8 : Nat) : Int) from by rw [wrap_i64 (by omega) (by omega)]; congr 1 <;> omega) ?_
  refine JY rfl ?_; refine Jy (show _ = Value.int .i64 ((l.length + 7 : Nat) : Int) from by rw [wrap_i64 (by omega) (by omega)]; congr 1 <;> omega) ?_; refine JY rfl ?_; refine Jy (show _ = Value.int .i64 ((N : Nat) : Int) from congrArg (Value.int .i64) (by rw [QR (by omega) (by decide) (by omega), hN]; rfl)) ?_; refine Xg (n := N) (b := 1) rfl rfl rfl rfl rfl rfl rfl rfl rfl (by omega) (by omega) fun rm => ?_; rw [show List.replicate N (Value.int .u8 0) = (KR l N 0).map bV from by rw [KR, List.map_replicate]; rfl]; refine Ji rfl (nK hK2 ?_); clear hK2 K2; refine sQ fun K3 hK3 => sR fun K4 hK4 => ?_; refine LS 2 [] rfl rfl (nK hK4 ?_); clear hK4 K4; refine Js (JL (σ := Nat) (fun i => i ≤ l.length) (fun i => [(1, .func (.func g) #[] caps.toArray), (5, .slice (some ⟨rm, 0, none⟩) N N), (12, .int .i64 (l.length : Int)), (13, .int .i64 (i : Int))]) (fun i => [(rm, .cells ((KR l N i).map bV).toArray 5 (0, 0))]) (fun _ _ _ => True) (fun i => l.length - i) 0 (Nat.zero_le _) (.cons rfl (.cons rfl (.cons rfl (.cons rfl .nil)))) (List.Sublist.refl _) (fun _ _ h => h) ?_); intro i hi1; refine sR fun K5 hK5 => JY rfl (nK hK5 ?_); clear hK5 K5; refine sQ fun K6 hK6 => ?_; refine Jc rfl (fun h7 => ?_) (fun h7 => ?_)
  · try simp only [ZZ] at h7
    refine Jg (hK6 ?_); clear hK6 K6; refine sB fun K8 hK8 => sQ fun K9 hK9 => ?_
    have hil : i < l.length := by omega
    have hi8 : i / 8 < N := by omega
    refine Ja (LS 2 [] rfl rfl ?_); refine nK hK9 ?_; clear hK9 K9; refine sR fun K10 hK10 => LS 2 [] rfl rfl ?_; refine Jh rfl rfl rfl eg (hg i hil) (fun q hq => Or.inr hq) ?_; refine nK hK10 ?_; clear hK10 K10; refine Jc rfl (fun h11 => ?_) (fun h11 => ?_)
    · try simp only [ZZ] at h11
      have hbt : l.getD i false = true := by assumption
      have hst1 : KR l N (i + 1) = (KR l N i).set (i / 8) (UInt8.ofNat (((KR l N i).getD (i / 8) 0).toNat ||| 2 ^ (i % 8))) := by rw [KR, if_pos hbt]
      obtain ⟨Y, hY⟩ : ∃ Y, Y = KR l N i := ⟨_, rfl⟩
      have hYl : Y.length = N := by rw [hY]; exact Vy l N i
      rw [← hY] at hst1 ⊢
      refine JS [] [(0, .pure), (1, .pure), (2, .pure), (3, .pure), (5, .pure), (6, .pure), (7, .pure), (8, .pure), (9, .pure), (10, .turn)] 11 [0, 1, 2, 3, 4, 5, 6, 7, 8, 9, 10] (by kernel_rfl) (by kernel_rfl) (by first | exact (fun _ h => absurd h List.not_mem_nil) | simp [SubS] | (intro p hp; simp [hp])) ?_; refine Jv (k := 0) rfl rfl rfl rfl rfl (fun _ hS => (Jp rfl)) ?_; refine Jv (k := 1) rfl rfl rfl rfl rfl (fun _ hS => (Jp rfl)) ?_
      refine Jv (k := 2) rfl rfl rfl rfl rfl (fun _ _ => (JA rfl rfl rfl)) ?_; refine WK (show _ = Value.int .i64 ((i / 8 : Nat) : Int) from congrArg (Value.int .i64) (by first | exact WE _ _ | exact QR (by omega) (by decide) (by omega))) ?_; refine Jv (k := 3) rfl rfl rfl rfl rfl (fun _ _ => Kj (j := (i / 8)) (m := 1) (off' := (i / 8)) rfl rfl rfl rfl (by omega) (by omega) (by omega)) ?_; refine KZ (k := 4) rfl rfl rfl rfl rfl (Jk rfl (kn 0 rfl) rfl (by rw [Vk]; exact Yn (by omega))) ?_; refine Jv (k := 5) rfl rfl rfl rfl rfl (fun _ hS => (Jp rfl)) ?_
      refine Jv (k := 6) rfl rfl rfl rfl rfl (fun _ _ => (JA rfl rfl rfl)) ?_; refine WK (show _ = Value.int .i64 ((i % 8 : Nat) : Int) from congrArg (Value.int .i64) (by first | exact WE _ _ | exact QR (by omega) (by decide) (by omega))) ?_; refine Jv (k := 7) rfl rfl rfl rfl rfl (fun _ _ => zo (n := i % 8) (b := ((2 ^ (i % 8) : Nat) : Int)) rfl rfl rfl (show _ ≤ 8 from by omega) (Joi (by omega))) ?_; refine Jv (k := 8) rfl rfl rfl rfl rfl (fun _ _ => vM (op := .or) (m := (Y.getD (i / 8) 0).toNat) (n := 2 ^ (i % 8)) rfl rfl rfl (Vg _) (Nat.pow_lt_pow_right (by decide) (by omega) : 2 ^ (i % 8) < 2 ^ 8) rfl) ?_; refine WK (Jic _ (by omega)) ?_; refine Jv (k := 9) rfl rfl rfl rfl rfl (fun _ _ => Kj (j := (i / 8)) (m := 1) (off' := (i / 8)) rfl rfl rfl rfl (by omega) (by omega) (by omega)) ?_; refine WM (k := 10) (q := 0) (cs' := ((KR l N (i + 1)).map bV).toArray) rfl rfl rfl rfl rfl rfl rfl rfl (by simp; omega) (by rw [zR, hst1]) rfl (fun _ h => nomatch h) ?_; refine KD ?_; refine Jf (Jj (hK8 ?_)); clear hK8 K8; refine Ja ?_
      refine JY rfl ?_; refine Jy (show _ = Value.int .i64 ((i + 1 : Nat) : Int) from by rw [wrap_i64 (by omega) (by omega)]; congr 1 <;> omega) ?_; refine Ji rfl (Jf (J8 ?_)); exact J2 (i + 1) (by omega) (by omega) (.cons rfl (.cons rfl (.cons rfl (.cons rfl .nil)))) (List.Sublist.refl _) (fun _ _ h => h)
    · try simp only [ZZ] at h11
      refine Jg (Jj (hK8 ?_)); clear hK8 K8; refine Ja ?_
      refine JY rfl ?_; refine Jy (show _ = Value.int .i64 ((i + 1 : Nat) : Int) from by rw [wrap_i64 (by omega) (by omega)]; congr 1 <;> omega) ?_; refine Ji rfl (Jf (J8 ?_))
      (have hst0 : KR l N (i + 1) = KR l N i := by rw [KR, if_neg (by simp_all)]
       exact J2 (i + 1) (by omega) (by omega) (.cons rfl (.cons rfl (.cons rfl (.cons rfl .nil)))) (by rw [hst0]; exact List.Sublist.refl _) (fun _ _ h => h))
  · try simp only [ZZ] at h7
    refine JJ (Jm ?_); clear hK6 K6; refine Jm (J0 (hK3 ?_)); clear hK3 K3; refine sQ fun K12 hK12 => ?_
    obtain rfl : i = l.length := by omega
    refine Ja (Ji rfl ?_); refine LR rfl (QV (b := KR l N l.length) (row := some (rm, N, [])) (e := 5) (show _ = some (JD (KR l N l.length).length _) from by rw [Vy]; rfl) ⟨by rw [List.length_map]; omega, by rw [Vy]; simp⟩ (fun p hp => .inl (by rw [List.mem_singleton.1 hp, List.append_nil]; exact List.mem_cons_self)) rfl rfl rfl) ?_; refine Ji rfl (nK hK12 ?_); clear hK12 K12; refine Jb (pT rfl rfl rfl fun w1 hs1 => ?_); refine ⟨?_, hs1.keep⟩; rw [hpB]; rfl
theorem J0c {R : Jo} {a b c d : Nat} {bits : List Bool} {pb : Pl} {items : List Vl} {pi : Pl} {pick : Int} (hsb : Seg R bits.length (QD bits) pb) (hl : bits.length ≤ 9223372036854775807) (rv : Nat) {i : Nat} (hi : i < bits.length) :
    PureR Tryz.prog 117 [.int .i64 (i : Int), VG rv].toArray (.bool (bits.getD i false)) (WW rv (.mk a b c d bits pb items pi pick) :: R) := by
  have hsb := hsb.mono (R' := WW rv (.mk a b c d bits pb items pi pick) :: R) fun q hq => List.mem_cons_of_mem _ hq
  have hy : bits[i]? = some (bits.getD i false) := by rw [List.getD_eq_getElem?_getD, List.getElem?_eq_getElem hi]; rfl
  generalize bits.getD i false = y at hy ⊢
  refine Je Tryz.func117 rfl rfl fun w => ?_; refine sR fun _ hK1 => Ji rfl (nK hK1 ?_); refine sR fun _ hK2 => ?_
  refine LS 1 [] rfl rfl ?_; refine LR rfl (Jk rfl (J7 (k := 0) rfl) rfl rfl) ?_; refine Ji rfl ?_
  refine LR rfl (Jr (j := i) rfl hsb rfl rfl rfl (by first | rfl | omega) (by omega)) ?_; refine LR rfl (Yf (fun q hq => Or.inr hq) rfl hsb hy rfl) ?_; refine Ji rfl (nK hK2 ?_); refine Jb (pT rfl rfl rfl fun w1 hs1 => ?_); exact ⟨rfl, hs1.keep⟩
theorem J0d {R : Jo} {a b c d : Nat} {bits : List Bool} {pb : Pl} {items : List Vl} {pi : Pl} {pick : Int} (hsb : Seg R bits.length (QD bits) pb) (hl : bits.length ≤ 9223372036854775807) (rn rv : Nat) {i : Nat} (hi : i < (bits ++ [true]).length) :
    PureR Tryz.prog 118 [.int .i64 (i : Int), VG rn, VG rv].toArray (.bool ((bits ++ [true]).getD i false)) (jp rn bits.length :: WW rv (.mk a b c d bits pb items pi pick) :: R) := by
  have hsb := hsb.mono (R' := jp rn bits.length :: WW rv (.mk a b c d bits pb items pi pick) :: R) fun q hq => List.mem_cons_of_mem _ (List.mem_cons_of_mem _ hq)
  rw [List.length_append] at hi; simp only [List.length_cons, List.length_nil] at hi
  by_cases he : i = bits.length
  have hv : (bits ++ [true]).getD i false = true := by rw [List.getD_eq_getElem?_getD, List.getElem?_append_right (by omega), he, Nat.sub_self]; rfl
  rw [hv]; refine Je Tryz.func118 rfl rfl fun w => ?_; refine sR fun _ hK1 => Ji rfl (nK hK1 ?_); refine sR fun _ hK2 => ?_; refine Ji rfl (LR rfl (Jk (v := .int .i64 (bits.length : Int)) rfl (J7 (k := 0) rfl) rfl rfl) ?_); refine JY rfl (Jy (show _ = Value.bool true from Jdu (Jz1 (by rw [he]))) (LS 8 [] rfl rfl ?_)); refine nK hK2 (Jb ?_); refine pT rfl rfl rfl fun w1 hs1 => ?_; exact ⟨rfl, hs1.keep⟩
  · have hy : bits[i]? = some (bits.getD i false) := by rw [List.getD_eq_getElem?_getD, List.getElem?_eq_getElem (by omega)]; rfl
    have hv : (bits ++ [true]).getD i false = bits.getD i false := by rw [List.getD_eq_getElem?_getD, List.getElem?_append_left (by omega), List.getD_eq_getElem?_getD]
    rw [hv]
    generalize bits.getD i false = y at hy ⊢
    have hne : ((i : Int) == (bits.length : Int)) = false := by simp; omega
    refine Je Tryz.func118 rfl rfl fun w => ?_; refine sR fun _ hK1 => Ji rfl (nK hK1 ?_); refine sR fun _ hK2 => ?_; refine Ji rfl (LR rfl (Jk (v := .int .i64 (bits.length : Int)) rfl (J7 (k := 0) rfl) rfl rfl) ?_); refine JY rfl (Jy (show _ = Value.bool false from Jdu (hne)) (Ji rfl ?_))
    refine LS 1 [] rfl rfl ?_; refine LR rfl (Jk rfl (J7 (k := 1) rfl) rfl rfl) ?_; refine Ji rfl ?_
    refine LR rfl (Jr (j := i) rfl hsb rfl rfl rfl (by first | rfl | omega) (by omega)) ?_; refine LR rfl (Yf (fun q hq => Or.inr hq) rfl hsb hy rfl) ?_; refine LS 2 [] rfl rfl (nK hK2 ?_); refine Jb (pT rfl rfl rfl fun w1 hs1 => ?_); exact ⟨rfl, hs1.keep⟩
theorem vX {k : Int} (h8 : k ≠ 8) (pick : Int) (ins : List Ty) (i : Nat) : JC k pick ins i = JC k 0 ins i := by
  unfold JC VX; split
  · rfl
  · simp [h8]
theorem jZ {k : Int} (h8 : k ≠ 8) (pick : Int) (ins : List Ty) : ∀ (l : List Vl) (i : Nat), Kt l k pick ins i = Kt l k 0 ins i
  | [], i => by rw [Kt, Kt]
  | x :: xs, i => by rw [Kt, Kt, jZ h8 pick ins xs (i + 1), vX h8]
theorem Jd0 {k : Int} (ins : List Ty) : ∀ (l : List Vl) (i : Nat), (Kt l k 0 ins i).map Prod.fst = (List.range' i l.length).map fun j => JC k 0 ins j
  | [], i => by rw [Kt]; rfl
  | x :: xs, i => by
    rw [Kt, List.map_cons, Jd0 ins xs (i + 1), List.length_cons, List.range'_succ, List.map_cons]
theorem X5 (k : Int) (ins : List Ty) (l : List Vl) : (Kt l k 0 ins 0).map Prod.fst = Kq k ins l.length := by
  rw [Jd0]; unfold Kq; rw [List.range_eq_range']
theorem Jte {α : Type} (A : List α) (x : α) (B : List α) : (A ++ x :: B).Perm (B ++ (A ++ [x])) := by
  rw [show A ++ x :: B = (A ++ [x]) ++ B by simp]; exact List.perm_append_comm
def yl (l : List (Ty × BS)) : Nat := (l.map fun p => p.2.length + 4).sum
theorem jq (p : Ty × BS) (l : List (Ty × BS)) : yl (p :: l) = p.2.length + 4 + yl l := by unfold yl; rw [List.map_cons, List.sum_cons]
theorem Ja0 : bOk [] none := ⟨⟨rfl, rfl⟩, fun _ => rfl⟩
set_option maxHeartbeats 1000000 in
theorem Jwv {R : Jo} {k n : Int} {p : Pl} {ins : List Ty} {items : List Vl} {pi : Pl} {B : Nat} (ht : Ty.In R (.mk k n p ins)) (hs : Seg R items.length (Qf items) pi) (hl : items.length ≤ 600) (hx : ∀ i, i < items.length → VX k 0 i < ins.length)
    (hb : ∀ (i : Nat) x, items[i]? = some x → PureR Tryz.prog 77 [(JC k 0 ins i).val, x.val].toArray (J3 (QM x (JC k 0 ins i))) R) (hB : yl (Kt items k 0 ins 0) ≤ B) (hB2 : B ≤ 900000) :
    PureR Tryz.prog 119 [Ty.val (.mk k n p ins), KP items.length pi].toArray (J3 (XG (JU (Kq k ins items.length)).toNat (Kt items k 0 ins 0) [] [])) R := by
  have hti := fun i h => ht.sub _ (Qi (hx i h)).2
  have hbg := Jdy ht hl hx
  have hbl := ZK (Kq k ins items.length)
  rw [WS] at hbl
  obtain ⟨H, hH⟩ : ∃ H, H = (JU (Kq k ins items.length)).toNat := ⟨_, rfl⟩
  have hHi : JU (Kq k ins items.length) = (H : Int) := by omega
  have hHb : H ≤ 1351079888211148800 := by omega
  rw [hHi] at hbg; rw [← hH]
  obtain ⟨TOT, hTOT⟩ : ∃ T, T = XG H (Kt items k 0 ins 0) [] [] := ⟨_, rfl⟩
  rw [← hTOT]; refine Je Tryz.func119 rfl rfl fun w => ?_; refine sR fun _ hK1 => ?_; refine LN rfl fun r1 => ?_; refine LN rfl fun r2 => ?_; refine Ji rfl (nK hK1 ?_); refine sR fun _ hK2 => ?_; refine LN rfl fun r3 => ?_; refine LN rfl fun r4 => ?_; refine nK hK2 (sR fun _ hK3 => ?_); refine LS 2 [3, 2] rfl rfl ?_; refine LR rfl (J4 rfl hs rfl) ?_; refine Jh rfl rfl rfl (enters_of Tryz.func163 (by kernel_rfl) rfl) hbg (fun q hq => Or.inr hq) ?_; refine LN rfl fun r5 => ?_
  refine LT 0 rfl rfl (nK hK3 ?_); refine sQ fun _ hK4 => sR fun _ hK5 => ?_; refine LS 2 [4, 3] rfl rfl ?_; refine LR rfl (J4 rfl hs rfl) ?_; refine Vx rfl rfl rfl Jmq (Jaz (.mk k n p ins) (items.length : Int)) fun pp => ?_
  obtain ⟨ra, rb⟩ := pp
  change HL _ _ _ (jp rb items.length :: VQ ra (.mk k n p ins) :: _) _ _ _ _; refine nK hK5 (Js (Y0 [4, 3, 0, 1, 2, 5, 6] (L' := [yZ r3 [] none false, yZ r4 [] none false, jp rb items.length, VQ ra (.mk k n p ins), _, _, _]) (by decide) rfl ?_))
  refine Xk (τ := Unit) (fun i (s : BS × BS × V5 × V5 × Bool × Bool) => i ≤ items.length ∧ XG H (Kt (items.drop i) k 0 ins i) s.1 s.2.1 = TOT ∧ bOk s.1 s.2.2.1 ∧ bOk s.2.1 s.2.2.2.1 ∧ s.1.length + s.2.1.length + yl (Kt (items.drop i) k 0 ins i) ≤ B) (fun s => WZ r3 s.1 s.2.2.1 s.2.2.2.2.1 ++ WZ r4 s.2.1 s.2.2.2.1 s.2.2.2.2.2) (fun _ _ => False) (fun _ => []) [jp rb items.length, VQ ra (.mk k n p ins), _, _, _] ([], [], none, none, false, false) rfl rfl Jmv (Jib ht (by omega) hx ra rb) (by rintro _ _ _ ⟨_, rfl, _⟩; rfl) rfl (fun q hq => by rcases List.mem_cons.1 hq with rfl | hq; exact .inl (by simp); rcases List.mem_cons.1 hq with rfl | hq; exact .inl (by simp); exact .inr hq) rfl ⟨Nat.zero_le _, hTOT.symm, Ja0, Ja0, by simpa using hB⟩ ?_ ?_ ?_
  · rintro q Xr Xb w3 i _ _ ⟨f, th, row1, row2, own1, own2⟩ ⟨hii, rfl, rfl⟩ ⟨him, hinv, hb1, hb2, hlen⟩ Kr hKr
    simp only at hinv hb1 hb2 hlen
    have hti1 := hti i hii
    have hix := XQ hii
    have hbi := hb i _ hix.1
    rw [jc hix.1, Kt, XG] at hinv; rw [jc hix.1, Kt, jq] at hlen
    obtain ⟨S, hS⟩ : ∃ S, S = QM (XO items i) (JC k 0 ins i) := ⟨_, rfl⟩
    simp only [← hS] at hinv hlen; rw [← hS] at hbi
    have hle4 := Jcy (H + th.length)
    unfold itV
    refine sR fun _ hK6 => Ji rfl (nK hK6 ?_); refine Ja (QK (cs := #[.int .i64 0, .int .i64 0, .slice none 0 0]) rfl rfl rfl rfl fun r9 => (Jz (k := 0) (n := 3) (ys := (JC k 0 ins i).cells) rfl rfl rfl rfl rfl (JC k 0 ins i).len rfl (JC k 0 ins i).one rfl ?_)); refine Jf ?_; refine hKr _ _ ?_; clear hKr; refine Js (sQ fun _ hK7 => (Kc 7 (by kernel_rfl) (by kernel_rfl) ?_)); refine Jl rfl rfl rfl (Jq (xs := (JC k 0 ins i).cells) (n := 3) rfl (kn 0 rfl) rfl rfl (JC k 0 ins i).len) ?_; refine Jl rfl rfl rfl (Jk (v := KP items.length pi) rfl (J7 (k := 3) rfl) rfl rfl) ?_; refine Jl rfl rfl rfl (Jp rfl) ?_
    refine Jl rfl rfl rfl (Jr (j := i) rfl hs rfl rfl rfl (by first | rfl | omega) (by omega)) ?_; refine Jl rfl rfl rfl (QL (fun q hq => Or.inr (List.mem_append_right _ hq)) rfl hs hix.1 rfl rfl) ?_; refine Yg rfl rfl rfl Jv9 hbi (fun q hq => Or.inr (List.mem_append_right _ hq)) ?_; refine Jl rfl rfl rfl (JO rfl) ?_; refine KA ?_; refine nK hK7 (sQ fun _ hK8 => ?_); refine sR fun _ hK9 => ?_; refine LR rfl (Jq (xs := (JC k 0 ins i).cells) (n := 3) rfl (kn 0 rfl) rfl rfl (JC k 0 ins i).len) ?_; refine Jh rfl rfl rfl Jhb (vW hti1) (fun q hq => Or.inr (List.mem_append_right _ hq)) ?_; refine LS 5 [] rfl rfl (nK hK9 ?_); refine sR fun _ hK10 => Ji rfl (nK hK10 ?_); refine Jc rfl (fun h11 => ?_) (fun h11 => ?_)
    try simp only [ZZ] at h11
    refine sR fun _ hK12 => ?_; refine Ji rfl (Vu (T := WZ r3 f row1 own1) (L0 := (r9, .cells (JC k 0 ins i).cells.toArray 76 (0, 0)) :: WZ r4 th row2 own2) (Rl := []) List.perm_middle.symm rfl rfl rfl Jg8 (vV hb1 (s2 := S) (by omega)) (fun q hq => nomatch hq) fun x => ?_)
    obtain ⟨row1x, hb1x⟩ := x
    refine nK hK12 (JJ (Jm ?_)); refine J0 ?_
    (rw [if_pos (by assumption)] at hinv
     refine jT (L' := WZ r3 (f ++ S) row1x true ++ WZ r4 th row2 own2) ((List.Sublist.refl _).append (.cons _ (List.Sublist.refl _))) ?_
     exact QS (f ++ S, th, row1x, row2, true, own2) ⟨by omega, hinv, hb1x, hb2, by simp only [List.length_append]; omega⟩ rfl)
    · try simp only [ZZ] at h11
      refine Jg (hK8 ?_); refine sQ fun _ hK13 => ?_; refine Kc 10 (by kernel_rfl) (by kernel_rfl) ?_; refine Jl rfl rfl rfl (Jk (v := .int .i64 (H : Int)) rfl (J7 (k := 2) rfl) rfl rfl) ?_; refine Yg rfl rfl rfl (enters_of Tryz.func102 (by kernel_rfl) rfl) (Jwt r4 own2 hb2) (fun q hq => Or.inl (by rw [List.mem_singleton.1 hq]; exact List.mem_cons_of_mem _ (List.mem_append_right _ List.mem_cons_self))) ?_
      refine Jl rfl rfl rfl (JA rfl rfl rfl) ?_; refine QC (show _ = Value.int .i64 ((H + th.length : Nat) : Int) from by rw [wrap_i64 (by omega) (by omega)]; congr 1 <;> omega) ?_; refine Jl rfl rfl rfl (JA rfl rfl rfl) ?_; refine QC (show _ = uV (H + th.length) from congrArg (Value.int .u64) (wrap_u64 (by omega) (by omega))) ?_; refine QB rfl rfl rfl (enters_of Tryz.func166 (by kernel_rfl) rfl) (Jcu (n := H + th.length) (by omega) 4) ?_; refine Jl rfl rfl rfl (Jp rfl) ?_; refine Jl rfl rfl rfl (Qm rfl rfl) ?_; refine Jl rfl rfl rfl (Qm rfl rfl) ?_; refine Jl rfl rfl rfl (JO rfl) ?_; refine Jl rfl rfl rfl (JO rfl) ?_; refine KA ?_; refine nK hK13 (sR fun _ hK14 => ?_); refine Ji rfl (Vu (T := WZ r3 f row1 own1) (L0 := (r9, .cells (JC k 0 ins i).cells.toArray 76 (0, 0)) :: WZ r4 th row2 own2) (Rl := []) List.perm_middle.symm rfl rfl rfl Jg8 (vV hb1 (s2 := (zz (H + th.length) 4).1) (by omega)) (fun q hq => nomatch hq) fun x => ?_)
      obtain ⟨row1x, hb1x⟩ := x
      refine nK hK14 ?_; refine Ja (Ji rfl (Vu (T := WZ r4 th row2 own2) (L0 := WZ r3 (f ++ (zz (H + th.length) 4).1) row1x true ++ [(r9, .cells (JC k 0 ins i).cells.toArray 76 (0, 0))]) (Rl := []) (Jte _ _ _) rfl rfl rfl Jg8 (vV hb2 (s2 := S) (by omega)) (fun q hq => nomatch hq) fun x => ?_))
      obtain ⟨row2x, hb2x⟩ := x
      refine Jf (Jj ?_)
      (rw [if_neg (by rw [Bool.not_eq_true]; assumption)] at hinv
       refine xA List.perm_append_comm ?_; refine jT (L' := WZ r3 (f ++ (zz (H + th.length) 4).1) row1x true ++ WZ r4 (th ++ S) row2x true) ((List.sublist_append_left _ _).append (List.Sublist.refl _)) ?_
       exact QS (f ++ (zz (H + th.length) 4).1, th ++ S, row1x, row2x, true, true) ⟨by omega, hinv, hb1x, hb2x, by simp only [List.length_append]; omega⟩ rfl)
  rintro D i ⟨f, th, row1, row2, own1, own2⟩ hfi ⟨him, hinv, hb1, hb2, hlen⟩
  simp only at hinv hb1 hb2 hlen
  have hin : i = items.length := hfi
  rw [hin, List.drop_length, Kt, XG] at hinv; refine Jj (hK4 ?_); refine sR fun _ hK15 => ?_; refine Vu (T := WZ r3 f row1 own1) (L0 := _ :: (WZ r4 th row2 own2 ++ [jp rb items.length, VQ ra (.mk k n p ins), _, _, _])) (Rl := []) (by rw [List.append_assoc]; exact List.perm_middle.symm) rfl rfl rfl Jmk (Jgd hb1 (by omega)) (fun q hq => nomatch hq) fun u1 => ?_; refine Vu (T := WZ r4 th row2 own2) (L0 := _ :: [jp rb items.length, VQ ra (.mk k n p ins), _, _, _]) (Rl := []) List.perm_middle.symm rfl rfl rfl Jmk (Jgd hb2 (by omega)) (fun q hq => nomatch hq) fun u2 => ?_; refine LR rfl (V7 (a := f) (b := th) rfl rfl (by omega)) ?_; refine Ji rfl (nK hK15 ?_); refine Jb (QP (k := 0) rfl rfl ?_); refine pT rfl rfl rfl fun w1 hs1 => ?_; exact ⟨by rw [← hinv]; rfl, hs1.keep⟩
  · exact fun _ _ _ h => h.elim
theorem We {a b c d : Nat} {bits : List Bool} {pb : Pl} {items : List Vl} {pi : Pl} {pick k n : Int} {p : Pl} {ins : List Ty} (h : JW (.mk a b c d bits pb items pi pick) (.mk k n p ins) = 0) :
    ¬ ((k = 4 ∧ n < items.length) ∨ (k = 6 ∧ n < bits.length)) ∧ zt k n ins.length (.mk a b c d bits pb items pi pick) = true ∧ Qt items k pick ins 0 = 0 := by
  rw [JW] at h
  split at h
  · cases h
  · rename_i h1
    split at h
    · cases h
    · rename_i h2
      exact ⟨h1, by simpa using h2, h⟩
theorem VB : ∀ {l : List Vl} {k pick : Int} {ins : List Ty} {i j : Nat} {x : Vl}, Qt l k pick ins i = 0 → l[j]? = some x → JW x (JC k pick ins (i + j)) = 0
  | [], _, _, _, _, _, _, _, h => by simp at h
  | y :: ys, k, pick, ins, i, j, x, h0, h => by
    rw [Qt] at h0
    split at h0
    · rename_i h1
      cases j with
      | zero => simp at h; subst h; exact h1
      | succ j =>
        rw [List.getElem?_cons_succ] at h
        have := VB h0 h
        rwa [show i + 1 + j = i + (j + 1) by omega] at this
    · rename_i h1; exact absurd h0 h1
theorem Jok : ∀ {l : List Vl} {x : Vl}, x ∈ l → wV x ≤ wL l
  | y :: ys, x, h => by
    rw [wL]
    rcases List.mem_cons.1 h with rfl | h
    · omega
    · have := Jok h; omega
theorem ym {a b c d : Nat} {bits : List Bool} {pb : Pl} {items : List Vl} {pi : Pl} {pick : Int} {x : Vl} (h : x ∈ items) : wV x ≤ wV (.mk a b c d bits pb items pi pick) := by
  have := Jok h
  rw [wV]; omega
theorem yn (items : List Vl) (k pick : Int) (ins : List Ty) : ∀ (l : List Vl) (i : Nat), yl (Kt l k pick ins i) ≤ 40 * wL l
  | [], i => by rw [Kt, wL]; exact Nat.zero_le _
  | x :: xs, i => by
    rw [Kt, wL, jq]
    have h1 := wI x (JC k pick ins i)
    have h2 := yn items k pick ins xs (i + 1)
    simp only
    omega
theorem Jkg {z : Int} (h1 : 0 ≤ z) (h2 : z < 256) : Value.int .u8 (IntKind.u8.wrap z) = bV (UInt8.ofNat z.toNat) := by
  rw [xx h1 (by omega), ← Jgw (by omega), Int.toNat_of_nonneg h1]
theorem Jtf {l : List Vl} {k pick : Int} {ins : List Ty} (h : l.length = 1) : ((Kt l k pick ins 0).headD (default, [])).2 = QM (XO l 0) (JC k pick ins 0) := by
  match l, h with
  | [x], _ => rw [Kt]; rfl
theorem qa {a b c d : Nat} {bits : List Bool} {pb : Pl} {items : List Vl} {pi : Pl} {pick k n dp : Int} {p : Pl} {ins : List Ty} (hc : V0 (.mk k n p ins) dp = 0) (h : JW (.mk a b c d bits pb items pi pick) (.mk k n p ins) = 0) :
    items.length ≤ 512 ∧ bits.length ≤ 512 ∧ (k = 1 → 1 ≤ n ∧ n ≤ 32) ∧ (k = 8 → items.length = 1 ∧ 0 ≤ pick ∧ pick < ins.length ∧ ins.length ≤ 8) := by
  obtain ⟨h1, h2, _⟩ := We h
  obtain ⟨hk, hf, _, _⟩ := Qy hc
  rw [KY k n ins.length a b c d bits pb items pi pick _ rfl] at h2; simp only [KK] at h2
  unfold Kf at hf
  have h9 : k = 1 ∨ k = 2 ∨ k = 3 ∨ k = 4 ∨ k = 5 ∨ k = 6 ∨ k = 7 ∨ k = 8 := by omega
  rcases h9 with rfl | rfl | rfl | rfl | rfl | rfl | rfl | rfl
  all_goals generalize items.length = I at *
  all_goals generalize bits.length = J at *
  all_goals generalize ins.length = K at *
  all_goals simp at h1 h2 hf ⊢
  all_goals omega
section
variable {c : Cx} {l : Ko} {L E : Jo} {X : XP} {Q : Exit → Act → World → Prop} {d : List Deferred}
variable {ops : Array Oper} {rest : List Nat} {i k : Nat} {v : Value} {o : Oper} {tb : jI} {S : Jo} {T : Jo → Act → Prop}
theorem VV {t ty : TypeId} {ps : String} {af : Array Edge} {gd : Option (Nat × Bool)} {n e sz : Nat} {pa : List (Nat × Operand)} {vs : Ko} {r zs : List Value} {z : Value} (hk : Wy ops.toList k = some ⟨some i, .buildSlice t n pa.toArray, ty, ps, af, gd⟩) (hg : Kk l ops ⟨some i, .buildSlice t n pa.toArray, ty, ps, af, gd⟩ = some true) (hi : Nat.ble (i + 1) c.n = true)
    (hA : tb k = .grow (Wj (slV n) (.cells r.toArray e (0, 0))))
    (hp : WD l pa = some vs) (ht : Kl c.P t = some e) (hz : QJ c.P e = some z) (hs : KI c.P e = some sz) (hzs : z.cells.size = sz) (hb : Nat.ble (n * sz) 16777216 = true) (h0 : Nat.ble 1 (n * sz) = true)
    (hmk : (madeCells z.cells (n * sz)).toList = zs) (hf : YU (fun i => some (i * sz, sz)) zs (QE vs) = some r)
    (h : ∀ q, HB c d ((i, .slice (some ⟨q, 0, none⟩) n n) :: l) ((q, .cells r.toArray e (0, 0)) :: E) X S ops tb rest T) : HB c d l E X S ops tb (k :: rest) T :=
  Jm8 (V := slV n) hk hg rfl hi hA (fun a w hfr => by
    have h1 := Vn hfr hp
    have h2 : (pa.toArray.map fun (p : Nat × Operand) => (p.1, a.eval p.2)) = vs.toArray := by
      apply Array.toList_inj.1; rw [Array.toList_map]; simpa using h1
    rw [Qx] at hf; subst hmk
    have h3 := V3 ht hz hs hzs (Nat.le_of_ble_eq_true hb) (Nat.le_of_ble_eq_true h0) hf w
    rw [← h2] at h3; simp only [execOp, Sem.run_bind]
    have h4 : (Instr.buildSlice t n (pa.toArray.map fun (i, x) => (i, a.eval x))).run c.P w = .ok (.slice (some ⟨w.heap.size, 0, none⟩) n n) (w.alloc (.cells r.toArray e)) := h3
    rw [h4]; rfl) h
end
section
variable {a b c d : Nat} {bits : List Bool} {pb : Pl} {items : List Vl} {pi : Pl} {pick k n : Int} {p : Pl} {ins : List Ty}
theorem QG : QM (.mk a b c d bits pb items pi pick) (.mk k n p ins) = if k = 1 then yW [a, b, c, d] n.toNat else if k = 2 then yW [a, b, c, d] 1 else if k = 5 then Qj bits else if k = 6 then Qj (bits ++ [true])
    else if k = 8 then UInt8.ofNat pick.toNat :: ((Kt items k pick ins 0).headD (default, [])).2 else XG (JU ((Kt items k pick ins 0).map Prod.fst)).toNat (Kt items k pick ins 0) [] [] := by rw [QM]; rfl
end
set_option maxHeartbeats 1000000 in
theorem Jtg {R : Jo} {v : Vl} (hv : v.In R) : ∀ (t : Ty) (dp : Int), t.In R → V0 t dp = 0 → JW v t = 0 → wV v ≤ 20000 → PureR Tryz.prog 77 [t.val, v.val].toArray (J3 (QM v t)) R := by
  induction hv with
  | @mk a b c d bits pb items pi pick ha hb hc hd hlb hsb hl hs hp hi ih =>
  intro t dp ht hck hfit hw
  have ht0 := ht
  cases ht with
  | @mk k n p ins hk hn hlt hst hit =>
  obtain ⟨hk8, ho, h6, hci⟩ := Qy hck
  obtain ⟨hf1, hf2, hf3⟩ := We hfit
  obtain ⟨m1, m2, m3, m4⟩ := qa hck hfit
  have hxl : ∀ i, i < items.length → VX k pick i < ins.length := fun i hi => ji (v := .mk a b c d bits pb items pi pick) hck hf2 hi
  have hwd : WOk [a, b, c, d] := ⟨rfl, fun x hx => by simp at hx; rcases hx with rfl | rfl | rfl | rfl <;> assumption⟩
  have hfx := Y6 hwd
  have hlen32 : (XJ [a, b, c, d] 32).reverse.length = 32 := by rw [List.length_reverse, QX]
  have hpt := Jdz (s := XJ [a, b, c, d] 32) (by rw [QX]; decide)
  have hle : ∀ m, yW [a, b, c, d] m = ((XJ [a, b, c, d] 32).reverse.take m).drop 0 := fun m => by rw [List.drop_zero]; rfl
  have hrow : ¬ k = 1 → ¬ k = 2 → ¬ k = 5 → ¬ k = 6 → ¬ k = 8 → PureR Tryz.prog 119 [Ty.val (.mk k n p ins), KP items.length pi].toArray (J3 (QM (.mk a b c d bits pb items pi pick) (.mk k n p ins))) R := fun h1 h2 h5 h6 h8 => by
    have hx0 : ∀ i, i < items.length → VX k 0 i < ins.length := fun i hi => by have := hxl i hi; unfold VX at this ⊢; rw [if_neg h8] at this ⊢; exact this
    have hwl : wL items ≤ wV (.mk a b c d bits pb items pi pick) := by rw [wV]; omega
    have := Jwv (B := 800000) ht0 hs (by omega) hx0 (fun i x hxi => by
      have hm := List.mem_of_getElem? hxi
      have hlt3 := (List.getElem?_eq_some_iff.1 hxi).1
      have hty := (Qi (hx0 i hlt3)).2
      have hg := VB hf3 hxi
      rw [Nat.zero_add, vX h8] at hg
      exact ih x hm _ (dp + 1) (hit _ hty) (hci _ hty) hg (Nat.le_trans (ym hm) hw)) (by have := yn items k 0 ins items 0; omega) (by decide)
    rw [QG, if_neg h1, if_neg h2, if_neg h5, if_neg h6, if_neg h8, jZ h8, X5]; exact this
  refine Je Tryz.func77 rfl rfl fun w => ?_; refine sR fun _ hK1 => ?_; refine LN rfl fun r1 => ?_; refine LN rfl fun r2 => ?_; refine Ji rfl (nK hK1 ?_); refine sR fun _ hK2 => ?_
  refine LS 2 [0] rfl rfl ?_; refine LR rfl (J4 rfl hsb rfl) ?_; refine LN rfl fun r3 => ?_
  refine LT 0 rfl rfl (nK hK2 ?_); refine sQ fun _ hK3 => sR fun _ hK4 => ?_
  refine LS 2 [2] rfl rfl (nK hK4 ?_); refine Js (sR fun _ hK5 => (LS 2 [] rfl rfl ?_)); refine nK hK5 ?_; refine Jc rfl (fun h6 => ?_) (fun h6 => ?_)
  try simp only [ZZ] at h6
  refine sQ fun _ hK7 => ?_
  have hn1 := m3 (by assumption)
  refine Kc 8 (by kernel_rfl) (by kernel_rfl) ?_
  refine Jl rfl rfl rfl (JM rfl rfl rfl) ?_; refine Jl rfl rfl rfl (Jw (vs := [_, _, _, _]) rfl (kn 1 rfl) rfl rfl rfl rfl) ?_; refine QB rfl rfl rfl Jg9 hfx ?_; refine QB rfl rfl rfl Jmm hpt ?_
  refine Jl rfl rfl rfl (JM rfl rfl rfl) ?_; refine Jl rfl rfl rfl (Jk rfl (kn 2 rfl) rfl rfl) ?_; refine Jl rfl rfl rfl (VE (kl := none) (kh := some (.i64, n)) (m := 0) (n := n.toNat) rfl rfl rfl rfl rfl (by show n = ((n.toNat : Nat) : Int); omega) (Nat.zero_le _) (by rw [hlen32]; omega) rfl) ?_; rw [← hle]; refine Jl rfl rfl rfl (JO rfl) ?_; refine KA ?_; refine nK hK7 (Jb (Jn (Jd ?_))); refine pT rfl rfl rfl fun w1 hs1 => ?_; refine ⟨?_, hs1.keep⟩; rw [QG, if_pos (by assumption)]; rfl
  · try simp only [ZZ] at h6
    refine sR fun _ hK8 => LS 2 [] rfl rfl (nK hK8 ?_); refine Jc rfl (fun h9 => ?_) (fun h9 => ?_)
    try simp only [ZZ] at h9
    refine sR fun _ hK10 => ?_
    refine LS 2 [1] rfl rfl ?_; refine JF rfl rfl rfl Jg9 hfx ?_; refine JF rfl rfl rfl Jmm hpt ?_; refine LR rfl (VE (kl := none) (kh := some (.i64, 1)) (m := 0) (n := 1) rfl rfl rfl rfl rfl (by show (1 : Int) = ((1 : Nat) : Int); omega) (Nat.zero_le _) (by rw [hlen32]; omega) rfl) ?_; rw [← hle]; refine Ji rfl (nK hK10 ?_); refine Jb (Jn (Jd ?_)); refine pT rfl rfl rfl fun w1 hs1 => ?_; refine ⟨?_, hs1.keep⟩; rw [QG, if_neg (by assumption), if_pos (by assumption)]; rfl
    · try simp only [ZZ] at h9
      refine sR fun _ hK11 => LS 2 [] rfl rfl (nK hK11 ?_); refine Jc rfl (fun h12 => ?_) (fun h12 => ?_)
      try simp only [ZZ] at h12
      refine sR fun _ hK13 => ?_; refine LR rfl (Jk rfl (kn 0 rfl) rfl rfl) ?_; refine LR rfl (Ku rfl rfl) ?_; refine Jh (Rl := WW r2 (.mk a b c d bits pb items pi pick) :: R) rfl rfl rfl (enters_of Tryz.func116 (by kernel_rfl) rfl) (Joj (caps := [VG r2]) (by omega) (enters_of Tryz.func117 (by kernel_rfl) rfl) (fun i hi => J0c hsb (by omega) r2 hi)) (fun q hq => (List.mem_cons.1 hq).elim (fun h => .inl (by rw [h]; exact List.mem_cons_of_mem _ List.mem_cons_self)) .inr) ?_; refine Ji rfl (nK hK13 ?_); refine Jb (Jn (Jd ?_)); refine pT rfl rfl rfl fun w1 hs1 => ?_; refine ⟨?_, hs1.keep⟩; rw [QG, if_neg (by assumption), if_neg (by assumption), if_pos (by assumption)]; rfl
      · try simp only [ZZ] at h12
        refine sR fun _ hK14 => LS 2 [] rfl rfl (nK hK14 ?_); refine Jc rfl (fun h15 => ?_) (fun h15 => ?_)
        try simp only [ZZ] at h15
        refine sR fun _ hK16 => LS 2 [0] rfl rfl ?_; refine Jy (show _ = Value.int .i64 (((bits ++ [true]).length : Nat) : Int) from by rw [wrap_i64 (by omega) (by omega)]; congr 1; rw [List.length_append]; rfl) ?_; refine LR rfl (Ku rfl rfl) ?_
        refine Jh (Rl := jp r3 bits.length :: WW r2 (.mk a b c d bits pb items pi pick) :: R) rfl rfl rfl (enters_of Tryz.func116 (by kernel_rfl) rfl) (Joj (caps := [VG r3, VG r2]) (by rw [List.length_append]; simp; omega) (enters_of Tryz.func118 (by kernel_rfl) rfl) (fun i hi => J0d hsb (by omega) r3 r2 hi)) (fun q hq => by rcases List.mem_cons.1 hq with rfl | hq; exact .inl List.mem_cons_self; rcases List.mem_cons.1 hq with rfl | hq; exact .inl (List.mem_cons_of_mem _ List.mem_cons_self); exact .inr hq) ?_; refine Ji rfl (nK hK16 ?_); refine Jb (Jn (Jd ?_)); refine pT rfl rfl rfl fun w1 hs1 => ?_; refine ⟨?_, hs1.keep⟩; rw [QG, if_neg (by assumption), if_neg (by assumption), if_neg (by assumption), if_pos (by assumption)]; rfl
        · try simp only [ZZ] at h15
          refine sR fun _ hK17 => LS 2 [] rfl rfl (nK hK17 ?_); refine Jc rfl (fun h18 => ?_) (fun h18 => ?_)
          try simp only [ZZ] at h18
          refine sQ fun _ hK19 => ?_
          have hk0 : k = 8 := by assumption
          have h81 := (m4 hk0).1
          have hx8 := XQ (l := items) (i := 0) (by omega)
          have hty8 := Qi (hxl 0 (by omega))
          have hix8 : VX k pick 0 = pick.toNat := by unfold VX; rw [if_neg (by omega), if_pos hk0]
          rw [hix8] at hty8
          have hg8 := VB hf3 hx8.1
          have hw8 := Nat.le_trans (ym (a := a) (b := b) (c := c) (d := d) (bits := bits) (pb := pb) (pi := pi) (pick := pick) hx8.2) hw
          have hrec := ih _ hx8.2 (JC k pick ins 0) (dp + 1) (hit _ hty8.2) (hci _ hty8.2) hg8 hw8
          have hpl8 := wI (XO items 0) (JC k pick ins 0)
          refine JS [] [(0, .pure), (2, .pure), (3, .grow (Wj (slV 1) (.cells #[bV (UInt8.ofNat pick.toNat)] 5 (0, 0)))), (5, .pure), (7, .pure), (9, .pure), (11, .pure), (13, .pure), (16, .pure), (17, .pure)] 18 [0, 1, 2, 5, 6, 7, 8, 9, 10, 11, 12, 13, 14, 15, 3, 4, 16, 17] (by kernel_rfl) (by kernel_rfl) (by first | exact (fun _ h => absurd h List.not_mem_nil) | simp [SubS] | (intro p hp; simp [hp])) ?_
          refine Jv (k := 0) rfl rfl rfl rfl rfl (fun _ hS => (JM rfl rfl rfl)) ?_; refine KZ (k := 1) rfl rfl rfl rfl rfl (Jk rfl (kn 1 rfl) rfl rfl) ?_; refine Jv (k := 2) rfl rfl rfl rfl rfl (fun _ hS => (JA rfl rfl rfl)) ?_; refine WK (show _ = bV (UInt8.ofNat pick.toNat) from Jkg (m4 (by assumption)).2.1 (by have := m4 (by assumption); omega)) ?_
          refine Jv (k := 5) rfl rfl rfl rfl rfl (fun _ hS => (JM rfl rfl rfl)) ?_; refine KZ (k := 6) rfl rfl rfl rfl rfl (Jk rfl (kn 2 rfl) rfl rfl) ?_
          refine Jv (k := 7) rfl rfl rfl rfl rfl (fun _ hS => (JM rfl rfl rfl)) ?_; refine KZ (k := 8) rfl rfl rfl rfl rfl (Jk rfl (kn 1 rfl) rfl rfl) ?_; refine Jv (k := 9) rfl rfl rfl rfl rfl (fun _ hS => (Jr (j := pick.toNat) rfl hst rfl rfl rfl (by have := m4 (by assumption); omega) (by have := m4 (by assumption); omega))) ?_; refine KZ (k := 10) rfl rfl rfl rfl rfl (KX (fun q hq => Or.inr hq) rfl hst hty8.1 rfl rfl) ?_
          refine Jv (k := 11) rfl rfl rfl rfl rfl (fun _ hS => (JM rfl rfl rfl)) ?_; refine KZ (k := 12) rfl rfl rfl rfl rfl (Jk rfl (kn 1 rfl) rfl rfl) ?_
          refine Jv (k := 13) rfl rfl rfl rfl rfl (fun _ hS => (Jr (j := 0) rfl hs rfl rfl rfl (by first | rfl | omega) (by omega))) ?_; refine KZ (k := 14) rfl rfl rfl rfl rfl (QL (fun q hq => Or.inr hq) rfl hs hx8.1 rfl rfl) ?_; refine Qq (k := 15) rfl rfl rfl rfl rfl Jv9 hrec (fun q hq => Or.inr hq) ?_; refine VV (k := 3) (n := 1) (sz := 1) (vs := [_]) (zs := [_]) (r := [bV (UInt8.ofNat pick.toNat)]) rfl rfl rfl rfl rfl rfl rfl rfl rfl rfl rfl (by show (madeCells #[_] _).toList = _; rw [VP]; exact rfl) rfl fun rv => ?_; refine KZ (k := 4) rfl rfl rfl rfl rfl (QV (b := [UInt8.ofNat pick.toNat]) (row := some (rv, 1, [])) (e := 5) rfl ⟨rfl, rfl⟩ (fun p hp => .inl (by rw [List.mem_singleton.1 hp]; exact List.mem_cons_self)) rfl rfl rfl) ?_; refine Jv (k := 16) rfl rfl rfl rfl rfl (fun _ hS => (V7 (a := [UInt8.ofNat pick.toNat]) (b := QM (XO items 0) (JC k pick ins 0)) rfl rfl (by simp only [List.length_cons, List.length_nil]; omega))) ?_; refine Jv (k := 17) rfl rfl rfl rfl rfl (fun _ hS => (JO rfl)) ?_; refine KD ?_; refine nK hK19 (Jb (Jn (Jd ?_))); refine pT rfl rfl rfl fun w1 hs1 => ?_; refine ⟨?_, hs1.keep⟩; rw [QG, if_neg (by assumption), if_neg (by assumption), if_neg (by assumption), if_neg (by assumption), if_pos (by assumption), Jtf h81]; rfl
          · try simp only [ZZ] at h18
            refine Jg (Jj (hK3 ?_)); refine sR fun _ hK20 => ?_; refine LR rfl (Jw (vs := [_, _, _]) rfl (kn 2 rfl) rfl rfl rfl rfl) ?_
            refine LS 2 [1] rfl rfl ?_; refine Jh rfl rfl rfl (enters_of Tryz.func119 (by kernel_rfl) rfl) (hrow (by assumption) (by assumption) (by assumption) (by assumption) (by assumption)) (fun q hq => Or.inr hq) ?_; refine Ji rfl (nK hK20 ?_); refine Jb (pT rfl rfl rfl fun w1 hs1 => ?_); refine ⟨?_, hs1.keep⟩
            rfl
section
variable {c : Cx} {l : Ko} {L : Jo} {X : XP} {Q : Exit → Act → World → Prop} {d : List Deferred}
variable {ops : Array Oper} {rest : List Oper} {i : Nat} {v : Value} {t : TypeId} {ps : String} {af : Array Edge} {gd : Option (Nat × Bool)} {ty : TypeId}
end
theorem X6 {t : Ty} {v : Vl} (h : QT t v = 0) : V0 t 0 = 0 ∧ JW v t = 0 := by
  unfold QT at h
  split at h
  · rename_i h1; exact ⟨h1, h⟩
  · rename_i h1; exact absurd h h1
theorem Jth {v : Vl} (t : Ty) (h : wV v ≤ 20000) : (QM v t).length ≤ 800000 := by have := wI v t; omega
theorem Jol {R : Jo} {t : Ty} {v : Vl} (ht : t.In R) (hv : v.In R) (hw : wV v ≤ 20000) : PureR Tryz.prog 52 [t.val, v.val].toArray (jm (Ws t v)) R := by
  have h1 := Jnb ht hv
  have h2 := fun h => Jtg hv t 0 ht (X6 (t := t) (v := v) h).1 (X6 h).2 hw
  have hlb := Jth t hw
  unfold Ws
  generalize QT t v = e at h1 h2 ⊢
  generalize QM v t = s at h2 hlb ⊢
  obtain ⟨k, n, p, ins⟩ := t
  obtain ⟨a, b, c, d, bits, pb, items, pi, pick⟩ := v
  refine Je Tryz.func52 rfl rfl fun w => ?_; refine sR fun _ hK1 => ?_; refine LN rfl fun r1 => ?_; refine LN rfl fun r2 => ?_; refine LS 2 [] rfl rfl (nK hK1 ?_); refine sQ fun _ hK2 => sR fun _ hK3 => ?_; refine LS 2 [1, 0] rfl rfl ?_; refine Jh rfl rfl rfl (enters_of Tryz.func76 (by kernel_rfl) rfl) h1 (fun q hq => Or.inr hq) ?_; refine Ji rfl (nK hK3 ?_); refine sR fun _ hK4 => LS 2 [] rfl rfl (nK hK4 ?_); refine Jc rfl (fun h5 => ?_) (fun h5 => ?_)
  try simp only [ZZ] at h5
  refine sR fun _ hK6 => LS 3 [] rfl rfl (nK hK6 ?_); refine Jb (Jd ?_); refine Jt rfl rfl (.cons (J1 rfl) (.cons (J1 rfl) .nil)) (fun w1 hs1 => ?_); refine ⟨?_, hs1.keep⟩; rw [if_pos (by omega)]; rfl
  · try simp only [ZZ] at h5
    refine Jg (hK2 ?_); refine sR fun _ hK7 => LS 2 [1, 0] rfl rfl ?_; refine Jh rfl rfl rfl Jv9 (h2 (by omega)) (fun q hq => Or.inr hq) ?_; refine Ji rfl (nK hK7 ?_); refine sQ fun _ hK8 => sR fun _ hK9 => ?_; refine Ji rfl (LR rfl (Ke rfl rfl) (JY rfl ?_)); refine nK hK9 ?_; refine Jc rfl (fun h10 => ?_) (fun h10 => ?_)
    try simp only [ZZ] at h10
    refine sR fun _ hK11 => LS 2 [] rfl rfl (nK hK11 ?_); refine Jb (Jd ?_); refine Jt rfl rfl (.cons (J1 rfl) (.cons (J1 rfl) .nil)) (fun w1 hs1 => ?_); refine ⟨?_, hs1.keep⟩; rw [if_neg (by omega), if_pos (by omega)]; rfl
    · try simp only [ZZ] at h10
      refine Jg (hK8 ?_); refine sR fun _ hK12 => LS 3 [] rfl rfl (nK hK12 ?_); refine Jb ?_; refine Jt rfl rfl (.cons (J1 rfl) (.cons (J1 rfl) .nil)) (fun w1 hs1 => ?_); refine ⟨?_, hs1.keep⟩; rw [if_neg (by omega), if_neg (by omega)]; rfl
section
variable {c : Cx} {l : Ko} {L : Jo} {X : XP} {d : List Deferred} {i : Nat} {ps : String} {af : Array Edge} {gd : Option (Nat × Bool)} {ty : TypeId}
theorem Jd1 {x : Operand} {b : List UInt8} {r off n cap : Nat} {cs : Array Value} {e src dst : TypeId} {fr : Nat × Nat} (hx : Kg l x = some (.slice (some ⟨r, off, none⟩) n cap)) (hk : known c L r (.cells cs e fr)) (hn : n = b.length) (ht : (cs.toList.drop off).take b.length = b.map bV)
    (hs : Kl c.P src = some e) (he : c.P.underlying e = some (.int .u8)) (hd : wm c.P dst = true) :
    J5 c d l L X ⟨some i, .convert src dst x, ty, ps, af, gd⟩ (.string (bs b)) := fun a' w hf hst => by
  subst hn; simp only [execOp]; rw [hf.eval hx]
  have hget := hst.known hk
  have hl : (loadCells ⟨r, off, none⟩ (b.map bV).length).run c.P w = .ok (b.map bV).toArray w := run_loadCells_list w ⟨r, off, none⟩ (b.map bV) fun j v hj => by
    have hlt := (List.getElem?_eq_some_iff.1 hj).1
    rw [List.length_map] at hlt
    have hj2 : cs[off + j]? = some v := by
      rw [← ht, List.getElem?_take, if_pos hlt, List.getElem?_drop] at hj
      simpa using hj
    rw [jB, Wg hget]; exact hj2
  rw [List.length_map] at hl; simp only [Sem.run_bind]; rw [run_convert_bytes_string w src dst e _ _ _ (Ka hs) he (Vp hd)]; rw [run_bytesToString w _ _ _ (b.map fun x => ((x.toNat : Nat) : Int)) (by rw [hl]; simp [bV, Function.comp_def])]
  have := Z0 b []
  rw [show (bs [] : ByteArray) = ByteArray.empty from rfl] at this; rw [this]
  rfl
end
def X7 (s : BS) (i : Nat) : BS := (s.drop (32 * i)).take 32
def Ja1 (s : BS) : Nat := (s.length + 31) / 32
def yo (s : BS) (m : Nat) : List BS := (List.range m).map fun i => Y8 (X7 s i)
def YH (s : BS) : List BS := yo s (Ja1 s)
theorem Jom (s : BS) (m : Nat) : (yo s m).length = m := by unfold yo; rw [List.length_map, List.length_range]
theorem Zm (s : BS) : (YH s).length = Ja1 s := Jom _ _
theorem YI (s : BS) (i : Nat) : (X7 s i).length = min 32 (s.length - 32 * i) := by unfold X7; rw [List.length_take, List.length_drop]
theorem Jkh (s : BS) (i : Nat) : WG (yo s (i + 1)) = WG (yo s i) ++ [J3 (Y8 (X7 s i))] := by
  unfold yo
  rw [List.range_succ, List.map_append, List.map_cons, List.map_nil, Zl]
theorem ZL (s : BS) : ∀ x ∈ YH s, x.length = 32 := by
  intro x hx
  unfold YH yo at hx
  obtain ⟨i, _, rfl⟩ := List.mem_map.1 hx
  exact WO (by rw [YI]; omega)
theorem Jon (s : BS) (i : Nat) (sp : List Value) : ((s.map bV ++ sp).toArray.toList.drop (32 * i)).take (X7 s i).length = (X7 s i).map bV := by
  simp only [List.toList_toArray]; rw [YI]
  by_cases h : 32 * i ≤ s.length
  · rw [List.drop_append_of_le_length (by rw [List.length_map]; exact h), List.take_append_of_le_length (by rw [List.length_drop, List.length_map]; omega)]
    unfold X7
    rw [List.map_take, List.map_drop]
    rcases Nat.le_total 32 (s.length - 32 * i) with h2 | h2
    · rw [Nat.min_eq_left h2]
    · rw [Nat.min_eq_right h2, List.take_of_length_le (by rw [List.length_drop, List.length_map]; omega), List.take_of_length_le (by rw [List.length_drop, List.length_map]; omega)]
  · unfold X7
    rw [show s.length - 32 * i = 0 by omega, Nat.min_zero, List.take_zero, List.drop_of_length_le (by omega)]; rfl
def chM (rb n cap : Nat) (p : Nat × Nat) : Jo := [(p.2, .cells #[.int .i64 32] 3 (0, 0)), (p.1, .cells #[.slice (some ⟨rb, 0, none⟩) n cap] 55 (0, 0))]
theorem Joo (rb n cap : Nat) : PureE (α := Nat × Nat) Tryz.prog 236 [.slice (some ⟨rb, 0, none⟩) n cap, .int .i64 32].toArray (fun p => .func (.func 257) #[] #[VG p.1, VG p.2]) (chM rb n cap) := by
  refine V4 Tryz.func236 rfl rfl fun w => ?_; refine sR fun _ hK1 => ?_; refine LN rfl fun r1 => ?_; refine LN rfl fun r2 => ?_; refine Ji rfl (nK hK1 ?_); refine sQ fun _ hK2 => sR fun _ hK3 => ?_; refine LS 2 [0] rfl rfl (nK hK3 ?_); refine Jc rfl (fun h4 => ?_) (fun h4 => ?_)
  exact absurd h4 (by decide)
  · try simp only [ZZ] at h4
    refine Jg (hK2 ?_); refine sR fun _ hK5 => ?_; refine LR rfl (Ku rfl rfl) ?_; refine Ji rfl (nK hK5 ?_); refine Jb (pT rfl rfl rfl fun w1 hs1 => ?_); exact ⟨(r1, r2), rfl, hs1⟩
def Jge (rb n j : Nat) : List Value := [.slice (some ⟨rb, 32 * j, none⟩) (min 32 (n - 32 * j)) (min 32 (n - 32 * j))]
theorem Jop {rb n cap N : Nat} (hn : N = (n + 31) / 32) (hcap : n ≤ cap) (hlim : n ≤ 1000000) (p1 p2 : Nat) : xy Tryz.prog 257 [VG p1, VG p2] (chM rb n cap (p1, p2)) 0 (nxN (Jge rb n) N) (Je6 N) := by
  refine W5 Tryz.func257 rfl rfl fun q xids w2 XI XF hY => ?_; refine sR fun _ hK1 => Ji rfl (nK hK1 ?_); refine Js (JL (σ := Nat) (fun i => i ≤ N) (fun i => [(0, .func (.yield q) #[] #[]), (1, VG p1), (2, VG p2), (4, .int .i64 ((32 * i : Nat) : Int))]) (fun _ => []) (fun i => XI i) (fun i => N - i) 0 (Nat.zero_le _) (.cons rfl (.cons rfl (.cons rfl (.cons rfl .nil)))) (List.nil_sublist _) (fun _ _ h => h) ?_); intro i hi; refine sQ fun _ hK2 => sR fun _ hK3 => ?_; refine Ji rfl (LR rfl (Jk rfl (J7 (k := 1) rfl) rfl rfl) (LR rfl (KM rfl rfl) ?_)); refine JY rfl (nK hK3 ?_); refine Jc rfl (fun h4 => ?_) (fun h4 => ?_)
  · try simp only [ZZ] at h4
    refine Jg (hK2 ?_); refine sB fun _ hK5 => sQ fun _ hK6 => ?_
    obtain ⟨M, hM⟩ : ∃ M, M = min 32 (n - 32 * i) := ⟨_, rfl⟩
    have hM1 : M ≤ 32 := by omega
    have hM2 : 0 < M := by omega
    refine Kc 7 (by kernel_rfl) (by kernel_rfl) ?_; refine Jl rfl rfl rfl (Jk rfl (J7 (k := 0) rfl) rfl rfl) ?_; refine Jl rfl rfl rfl (Jk rfl (J7 (k := 1) rfl) rfl rfl) ?_; refine Jl rfl rfl rfl (Jp rfl) ?_; refine Jl rfl rfl rfl (JR (kl := some (32 * i)) (kh := none) (km := none) (sz := 1) (m := 32 * i) (q := n) (z := cap) rfl rfl rfl ⟨_, rfl⟩ trivial trivial rfl rfl rfl (by omega) hcap (Nat.le_refl _) (fun _ => rfl) rfl) ?_; refine Jl rfl rfl rfl (KM rfl rfl) ?_
    refine Jl rfl rfl rfl (Jme (r := ((M : Nat) : Int)) rfl rfl (by rw [hM]; split <;> omega)) ?_; refine Jl rfl rfl rfl (JO rfl) ?_; refine KA ?_; refine nK hK6 (sR fun _ hK7 => ?_); refine Ji rfl (LR rfl (Jk rfl (J7 (k := 1) rfl) rfl rfl) (LS 3 [] rfl rfl ?_))
    refine JY rfl ?_; refine Jy (show _ = Value.int .i64 ((32 * i + M : Nat) : Int) from by rw [wrap_i64 (by omega) (by omega)]; congr 1 <;> omega) ?_; refine LS 2 [] rfl rfl ?_
    refine JY rfl ?_; refine Jy (show _ = Value.int .i64 ((32 * i + M : Nat) : Int) from by rw [wrap_i64 (by omega) (by omega)]; congr 1 <;> omega) ?_
    refine LR rfl (JR (kl := some (32 * i)) (kh := some (32 * i + M)) (km := some (32 * i + M)) (sz := 1) (m := 32 * i) (q := 32 * i + M) (z := 32 * i + M) (off' := 32 * i) rfl rfl rfl ⟨_, rfl⟩ ⟨_, rfl⟩ ⟨_, rfl⟩ rfl rfl rfl (by omega) (Nat.le_refl _) (by omega) (fun h => by cases h) (by rw [if_neg (by omega)]; omega)) ?_; refine Jy (show _ = Value.slice (some ⟨rb, 32 * i, none⟩) (min 32 (n - 32 * i)) (min 32 (n - 32 * i)) from by congr 1 <;> omega) ?_; refine WI (XT := XI (i + 1)) (XF := XF) rfl rfl rfl rfl (hY i (Jge rb n i) (i + 1) ⟨by omega, rfl, rfl⟩) ?_ ?_
    all_goals refine JY rfl ?_
    all_goals refine Jf ?_
    all_goals (
     refine hK7 ?_; refine Jc rfl (fun h8 => ?_) (fun h8 => ?_)
     · try exact Bool.noConfusion h8
       all_goals try simp only [ZZ] at h8
       all_goals (
        refine Jb (Jn (Jd ?_)); refine Jd (Jn ?_); refine Jt rfl rfl .nil (fun w1 hs1 => ?_)
        obtain ⟨xs1, hx1⟩ := hs1.now
        exact ⟨⟨_, rfl⟩, hs1.keep, .inr ⟨_, hx1⟩⟩
        skip)
     · try exact Bool.noConfusion h8
       all_goals try simp only [ZZ] at h8
       all_goals (
        refine Jg (Jj (hK5 ?_)); refine Ja (Ji rfl (LR rfl (Jk rfl (J7 (k := 0) rfl) rfl rfl) ?_))
        refine JY rfl ?_; refine Jy (show _ = Value.int .i64 ((32 * (i + 1) : Nat) : Int) from by rw [wrap_i64 (by omega) (by omega)]; congr 1 <;> omega) ?_; refine Ji rfl (Jf (J8 ?_)); exact J2 (i + 1) (by omega) (by omega) (.cons rfl (.cons rfl (.cons rfl (.cons rfl .nil)))) (List.nil_sublist _) (fun _ _ h => h)
        skip)
     skip)
  · try simp only [ZZ] at h4
    refine JJ (Jm ?_); refine Jm (J0 ?_); refine QA rfl rfl .nil (fun w1 hs1 => ?_)
    obtain ⟨xs1, hx1⟩ := hs1.now
    exact ⟨⟨_, rfl⟩, hs1.keep, .inl ⟨i, _, (by show i = N; omega), hx1⟩⟩
theorem Jyx {s : BS} (hl : s.length ≤ 1000000) : PureT (α := { row : V5 // rowOk 1 (Ja1 s) (WG (YH s)) row }) Tryz.prog 172 [J3 s].toArray (fun x => JD (Ja1 s) x.1) [] (fun x => JV 9 (WG (YH s)) x.1) [] := by
  obtain ⟨N, hN⟩ : ∃ N, N = Ja1 s := ⟨_, rfl⟩
  have hN2 : N = (s.length + 31) / 32 := hN
  have hC : YH s = yo s N := by rw [hN]; rfl
  rw [hC, ← hN]; refine JI Tryz.func172 rfl rfl fun w => ?_; refine sR fun _ hK1 => Ji rfl (nK hK1 ?_); refine sR fun _ hK2 => ?_; refine LN rfl fun r1 => ?_; refine nK hK2 (sQ fun _ hK3 => ?_); refine sR fun _ hK4 => ?_; refine Ji rfl (XK rfl rfl rfl rfl rfl rfl fun rb kb => (Vx rfl rfl rfl (enters_of Tryz.func236 (by kernel_rfl) rfl) (Joo rb s.length (s.length + kb)) fun pp => ?_))
  obtain ⟨p1, p2⟩ := pp
  change HL _ _ _ [(p2, _), (p1, _), (rb, _), (r1, _)] _ _ _ _; refine nK hK4 (Js (Y0 [3, 0, 1, 2] (L' := [_, _, _, _]) (by decide) rfl ?_))
  refine Xk (τ := Unit) (fun i (q : Nat × V5) => i ≤ N ∧ i = q.1 ∧ rowOk 1 q.1 (WG (yo s q.1)) q.2) (fun q => (r1, .cells #[JD q.1 q.2] 109 (0, 0)) :: JV 9 (WG (yo s q.1)) q.2) (fun _ _ => False) (fun _ => []) [(p2, _), (p1, _), (rb, _)] (0, none) rfl rfl (enters_of Tryz.func257 (by kernel_rfl) rfl) (Jop (rb := rb) (cap := s.length + kb) hN2 (by omega) hl p1 p2) (by rintro _ _ _ ⟨_, rfl, _⟩; rfl) rfl (fun q hq => .inl (by rcases List.mem_cons.1 hq with rfl | hq; exact List.mem_cons_self; rw [List.mem_singleton.1 hq]; exact List.mem_cons_of_mem _ List.mem_cons_self)) rfl ⟨Nat.zero_le _, rfl, rfl, rfl⟩ ?_ ?_ ?_
  rintro q Xr Xb w3 i _ _ ⟨i2, row⟩ ⟨hii, rfl, rfl⟩ ⟨him, he, hrow⟩ Kr hKr
  simp only at he
  obtain rfl := he
  simp only at hrow
  unfold Jge
  refine Ja (Ji rfl (Jf ?_)); refine hKr _ _ ?_; clear hKr; refine Js ?_
  have hfull := Jf9 (s := X7 s i) (by rw [YI]; omega)
  have hsn := Jkh s i
  obtain ⟨sv, hsv⟩ : ∃ x, x = Y8 (X7 s i) := ⟨_, rfl⟩
  rw [← hsv] at hfull hsn
  refine JS [] [(1, .pure), (3, .pure), (4, .grow (Wj (slV 1) (.cells #[J3 sv] 9 (0, 0))))] 5 [0, 1, 2, 3, 4] (by kernel_rfl) (by kernel_rfl) (by first | exact (fun _ h => absurd h List.not_mem_nil) | simp [SubS] | (intro p hp; simp [hp])) ?_; refine KZ (k := 0) rfl rfl rfl rfl rfl (Jk (v := JD i row) rfl (kn 0 rfl) rfl rfl) ?_; refine Jv (k := 1) rfl rfl rfl rfl rfl (fun _ hS => (Jp rfl)) ?_; refine KZ (k := 2) rfl rfl rfl rfl rfl (Jd1 (b := X7 s i) rfl (J7 (k := 2) rfl) (YI s i).symm (Jon s i _) rfl rfl rfl) ?_; refine WL (k := 3) rfl rfl rfl rfl rfl Jmr hfull ?_; refine VV (k := 4) (n := 1) (sz := 1) (vs := [_]) (zs := [_]) (r := [J3 sv]) rfl rfl rfl rfl rfl rfl rfl rfl rfl rfl rfl (by show (madeCells #[_] _).toList = _; rw [VP]; exact rfl) rfl fun rv => ?_; refine KD ?_; refine Km (L0 := [_, _]) (xs := WG (yo s i)) (row := row) (n := i) (sz := 1) (b := 16) (news := [J3 sv]) (List.perm_append_comm (l₁ := [_, _])) rfl rfl rfl rfl (kn 0 rfl) rfl rfl rfl rfl rfl (by decide) rfl rfl rfl (by decide) hrow (by omega) (by omega) fun ra cap sp hra => ?_; refine Kx (k := 2) (cs' := #[JD (i + 1) (some (ra, cap, sp))]) rfl rfl rfl rfl rfl rfl rfl rfl rfl rfl ?_; refine Jf (Jj (Vo [2, 0] (L' := [_, _]) (by decide) rfl ?_)); exact QS (i + 1, some (ra, cap, sp)) ⟨by omega, rfl, by simp only; rw [hsn]; exact hra⟩ (by simp only; rw [hsn]; rfl)
  rintro D i ⟨i2, row⟩ hfi ⟨him, he, hrow⟩
  simp only at he hrow
  obtain rfl : N = i := Eq.symm hfi
  obtain rfl := he
  refine Jj (hK3 ?_); refine sR fun _ hK5 => ?_; refine LR rfl (Jk (v := JD N row) rfl (kn 1 rfl) rfl rfl) ?_; refine Ji rfl (nK hK5 ?_); refine Jb (QP (k := 0) rfl rfl ?_); refine pT rfl rfl rfl fun w1 hs1 => ?_; exact ⟨⟨row, hrow⟩, rfl, hs1.weakL (.cons _ (.cons _ (List.sublist_append_left _ _)))⟩
  · exact fun _ _ _ h => h.elim
theorem Joq {n : Nat} (hn : n ≤ 4611686018427387904) : Pure Tryz.prog 173 [.int .i64 (n : Int)].toArray (.int .i64 (((n + 31) / 32 : Nat) : Int)) := by
  refine JG Tryz.func173 rfl rfl fun w => ?_; refine sR fun _ hK1 => Ji rfl (nK hK1 ?_); refine sR fun _ hK2 => Ji rfl ?_
  refine JY rfl ?_; refine Jy (show _ = Value.int .i64 ((n + 32 : Nat) : Int) from by rw [wrap_i64 (by omega) (by omega)]; congr 1 <;> omega) ?_
  refine JY rfl ?_; refine Jy (show _ = Value.int .i64 ((n + 31 : Nat) : Int) from by rw [wrap_i64 (by omega) (by omega)]; congr 1 <;> omega) ?_; refine JY rfl (Jy (show _ = Value.int .i64 (((n + 31) / 32 : Nat) : Int) from congrArg (Value.int .i64) (QR (by omega) (by decide) (by omega))) (Ji rfl ?_)); refine nK hK2 (Jb ?_); refine pT rfl rfl rfl fun w1 hs1 => ?_; exact ⟨rfl, hs1.keep⟩
def X8 (x : Ty) : Bool := decide (x.k = 1) || decide (x.k = 2)
def Xj (items : List Vl) (x : Ty) : BS := (items.map fun v => QM v x).flatten
def Xa (k n : Int) (ins : List Ty) (items : List Vl) (rs : List BS) : BS :=
  if k = 7 then Vi rs ins.length else if X8 (ins.getD 0 default) = true then Vi (YH (Xj items (ins.getD 0 default))) ((n.toNat * (JQ (ins.getD 0 default)).toNat + 31) / 32) else Vi rs n.toNat
mutual
def KB : Vl → Ty → BS
  | .mk a b c d bits _ items _ pick, t =>
    if t.k = 1 ∨ t.k = 2 then yW [a, b, c, d] 32 else if t.k = 4 then XZ (Xa t.k t.n t.ins items (Kh items t.k pick t.ins 0)) items.length
    else if t.k = 5 then Vi (YH (Qj bits)) ((t.n.toNat + 255) / 256) else if t.k = 6 then XZ (Vi (YH (Qj bits)) ((t.n.toNat + 255) / 256)) bits.length
    else if t.k = 8 then XZ ((Kh items t.k pick t.ins 0).headD []) pick.toNat else Xa t.k t.n t.ins items (Kh items t.k pick t.ins 0)
def Kh : List Vl → Int → Int → List Ty → Nat → List BS
  | [], _, _, _, _ => []
  | x :: xs, k, pick, ins, i => KB x (JC k pick ins i) :: Kh xs k pick ins (i + 1)
end
section
variable {a b c d : Nat} {bits : List Bool} {pb : Pl} {items : List Vl} {pi : Pl} {pick k n : Int} {p : Pl} {ins : List Ty}
theorem WT : KB (.mk a b c d bits pb items pi pick) (.mk k n p ins) = if k = 1 ∨ k = 2 then yW [a, b, c, d] 32 else if k = 4 then XZ (Xa k n ins items (Kh items k pick ins 0)) items.length
    else if k = 5 then Vi (YH (Qj bits)) ((n.toNat + 255) / 256) else if k = 6 then XZ (Vi (YH (Qj bits)) ((n.toNat + 255) / 256)) bits.length
    else if k = 8 then XZ ((Kh items k pick ins 0).headD []) pick.toNat else Xa k n ins items (Kh items k pick ins 0) := by rw [KB]; rfl
end
theorem WA : ∀ (l : List Vl) (k pick : Int) (ins : List Ty) (i : Nat), (Kh l k pick ins i).length = l.length
  | [], _, _, _, _ => by rw [Kh]; rfl
  | x :: xs, k, pick, ins, i => by rw [Kh, List.length_cons, WA xs, List.length_cons]
theorem yp {k : Int} (h8 : k ≠ 8) (pick : Int) (ins : List Ty) : ∀ (l : List Vl) (i : Nat), Kh l k pick ins i = Kh l k 0 ins i
  | [], i => by rw [Kh, Kh]
  | x :: xs, i => by rw [Kh, Kh, yp h8 pick ins xs (i + 1), vX h8]
theorem Yp : ∀ {l : List Vl} {k pick : Int} {ins : List Ty} {i : Nat} {s : BS}, s ∈ Kh l k pick ins i → ∃ j x, l[j]? = some x ∧ s = KB x (JC k pick ins (i + j))
  | [], _, _, _, _, _, h => by rw [Kh] at h; cases h
  | y :: ys, k, pick, ins, i, s, h => by
    rw [Kh] at h
    rcases List.mem_cons.1 h with rfl | h
    · exact ⟨0, y, rfl, rfl⟩
    · obtain ⟨j, x, h1, h2⟩ := Yp h
      exact ⟨j + 1, x, h1, by rw [h2, show i + 1 + j = i + (j + 1) by omega]⟩
theorem yq (k : Int) (ins : List Ty) : ∀ {l : List Vl} {i j : Nat} {x : Vl}, l[j]? = some x → (Kh l k 0 ins i).take (j + 1) = (Kh l k 0 ins i).take j ++ [KB x (JC k 0 ins (i + j))]
  | [], _, _, _, h => by simp at h
  | y :: ys, i, 0, x, h => by
    simp at h; subst h; rw [Kh]; rfl
  | y :: ys, i, j + 1, x, h => by
    rw [List.getElem?_cons_succ] at h; rw [Kh, List.take_succ_cons, List.take_succ_cons, yq k ins h, show i + 1 + j = i + (j + 1) by omega]; rfl
theorem Jti {k n : Int} {p : Pl} {ins : List Ty} {d : Int} (hk : 1 ≤ k ∧ k ≤ 8) (ho : Kf k n ins.length = true) : V0 (.mk k n p ins) d = if 6 ≤ d then 7 else XW ins (d + 1) := by
  rw [V0, if_neg (by omega), if_neg (by rw [ho]; simp)]
theorem zS : ∀ {ins : List Ty} {d : Int}, (∀ x ∈ ins, V0 x d = 0) → XW ins d = 0
  | [], _, _ => by rw [XW]
  | x :: xs, d, h => by
    rw [XW, if_pos (h x List.mem_cons_self)]; exact zS fun y hy => h y (List.mem_cons_of_mem _ hy)
theorem Jki (t : Ty) : ∀ d : Int, V0 t (d + 1) = 0 → V0 t d = 0 := by
  induction t using Ty.ind with
  | h k n p ins ih =>
    intro d h
    obtain ⟨hk, ho, h6, hi⟩ := Qy h
    rw [Jti hk ho, if_neg (by omega)]; exact zS fun x hx => ih x hx (d + 1) (hi x hx)
theorem yr {t : Ty} : ∀ {d : Nat}, V0 t (d : Int) = 0 → V0 t 0 = 0
  | 0, h => h
  | d + 1, h => yr (d := d) (Jki t d (by rw [Int.natCast_add] at h; exact h))
theorem VY {k n : Int} {p : Pl} {ins : List Ty} (h : V0 (.mk k n p ins) 0 = 0) : ∀ x ∈ ins, V0 x 0 = 0 := fun x hx => yr (d := 1) ((Qy h).2.2.2 x hx)
theorem ZM {x : Ty} (hc : V0 x 0 = 0) (hp : X8 x = true) : JB x = true ∧ 1 ≤ JQ x ∧ JQ x ≤ 32 ∧ ∀ v : Vl, JW v x = 0 → ((QM v x).length : Int) = JQ x := by
  obtain ⟨k, n, p, ins⟩ := x
  obtain ⟨hk, hf, _, _⟩ := Qy hc
  have hk2 : k = 1 ∨ k = 2 := by
    unfold X8 at hp
    rw [Bool.or_eq_true] at hp; exact hp.imp of_decide_eq_true of_decide_eq_true
  unfold Kf at hf
  have hins : ins.length = 0 := by
    rcases hk2 with rfl | rfl
    all_goals generalize ins.length = m at hf ⊢
    all_goals simp at hf
    all_goals omega
  have hi : ins = [] := List.length_eq_zero_iff.1 hins
  subst hi
  rcases hk2 with rfl | rfl
  · have hn : 1 ≤ n ∧ n ≤ 32 := by simp at hf; omega
    refine ⟨Vd.2 ⟨hc, by rw [Wr, jh]; rfl⟩, by rw [JQ, if_pos rfl]; exact hn.1, by rw [JQ, if_pos rfl]; exact hn.2, fun v _ => ?_⟩
    obtain ⟨a, b, c, d, bits, pb, items, pi, pick⟩ := v
    rw [QG, if_pos rfl, JQ, if_pos rfl, ZF _ (by omega)]; omega
  · refine ⟨Vd.2 ⟨hc, by rw [Wr, jh]; rfl⟩, by rw [JQ, if_neg (by decide), if_pos rfl]; decide, by rw [JQ, if_neg (by decide), if_pos rfl]; decide, fun v _ => ?_⟩
    obtain ⟨a, b, c, d, bits, pb, items, pi, pick⟩ := v
    rw [QG, if_neg (by decide), if_pos rfl, JQ, if_neg (by decide), if_pos rfl, ZF _ (by decide)]
    rfl
theorem qb {x : Ty} {z : Nat} : ∀ {items : List Vl}, (∀ v ∈ items, (QM v x).length = z) → (Xj items x).length = items.length * z
  | [], _ => by unfold Xj; simp
  | v :: l, h => by
    have ih := qb (items := l) fun y hy => h y (List.mem_cons_of_mem _ hy)
    unfold Xj at ih ⊢
    rw [List.map_cons, List.flatten_cons, List.length_append, ih, h v List.mem_cons_self, List.length_cons, Nat.succ_mul, Nat.add_comm]
theorem Zn {a b c d : Nat} {bits : List Bool} {pb : Pl} {items : List Vl} {pi : Pl} {pick k n dp : Int} {p : Pl} {ins : List Ty} (hc : V0 (.mk k n p ins) dp = 0) (h : JW (.mk a b c d bits pb items pi pick) (.mk k n p ins) = 0) :
    (k = 3 ∨ k = 4 → 1 ≤ n ∧ n ≤ 512 ∧ (items.length : Int) ≤ n ∧ ins.length = 1) ∧ (k = 5 ∨ k = 6 → 1 ≤ n ∧ n ≤ 512 ∧ (bits.length : Int) ≤ n) ∧ (k = 7 → items.length = ins.length ∧ 1 ≤ ins.length ∧ ins.length ≤ 16) := by
  obtain ⟨h1, h2, _⟩ := We h
  obtain ⟨hk, hf, _, _⟩ := Qy hc
  rw [KY k n ins.length a b c d bits pb items pi pick _ rfl] at h2; simp only [KK] at h2
  unfold Kf at hf
  have h9 : k = 1 ∨ k = 2 ∨ k = 3 ∨ k = 4 ∨ k = 5 ∨ k = 6 ∨ k = 7 ∨ k = 8 := by omega
  rcases h9 with rfl | rfl | rfl | rfl | rfl | rfl | rfl | rfl
  all_goals generalize items.length = I at *
  all_goals generalize bits.length = J at *
  all_goals generalize ins.length = K at *
  all_goals simp at h1 h2 hf ⊢
  all_goals omega
theorem qD {bits : List Bool} {n : Int} (h : (bits.length : Int) ≤ n) : (YH (Qj bits)).length ≤ (n.toNat + 255) / 256 := by
  rw [Zm]
  unfold Ja1
  rw [VF]; omega
theorem Yq (v : Vl) : ∀ (t : Ty) (dp : Nat), V0 t (dp : Int) = 0 → JW v t = 0 → (KB v t).length = 32 := by
  induction v using Vl.ind with
  | h a b c d bits pb items pi pick ih =>
  intro t dp hck hfit
  obtain ⟨k, n, p, ins⟩ := t
  obtain ⟨hk8, ho, h6, hci⟩ := Qy hck
  obtain ⟨hf1, hf2, hf3⟩ := We hfit
  obtain ⟨q1, q2, q3⟩ := Zn hck hfit
  have hxl : ∀ i, i < items.length → VX k pick i < ins.length := fun i hi => ji (v := .mk a b c d bits pb items pi pick) hck hf2 hi
  have hrs : ∀ s ∈ Kh items k pick ins 0, s.length = 32 := fun s hs => by
    obtain ⟨j, x, h1, rfl⟩ := Yp hs
    have hlt := (List.getElem?_eq_some_iff.1 h1).1
    rw [Nat.zero_add]
    have hty := Qi (hxl j hlt)
    exact ih x (List.mem_of_getElem? h1) _ (dp + 1) (hci _ hty.2) (by have := VB hf3 h1; rwa [Nat.zero_add] at this)
  have hrl := WA items k pick ins 0
  have hrow : k = 3 ∨ k = 4 ∨ k = 7 → (Xa k n ins items (Kh items k pick ins 0)).length = 32 := fun hk => by
    unfold Xa
    split
    · rename_i h7
      exact Wd (by have := q3 h7; omega) hrs
    · rename_i h7
      have := q1 (by omega)
      split
      · rename_i hp
        have hin0 : ins.getD 0 default ∈ ins := by
          match ins, this.2.2.2 with
          | [x], _ => exact List.mem_cons_self
        have hc0 : V0 (ins.getD 0 default) 0 = 0 := VY (yr hck) _ hin0
        obtain ⟨f1, f2, f3, f4⟩ := ZM hc0 hp
        refine Wd ?_ (ZL _); rw [Zm]
        unfold Ja1
        have hz : ∀ v ∈ items, (QM v (ins.getD 0 default)).length = (JQ (ins.getD 0 default)).toNat := fun v hv => by
          obtain ⟨j, hj⟩ := List.getElem?_of_mem hv
          have hg := VB hf3 hj
          rw [Nat.zero_add] at hg
          have he : JC k pick ins j = ins.getD 0 default := by unfold JC VX; rw [if_neg h7, if_neg (by omega)]
          rw [he] at hg
          have := f4 v hg
          omega
        rw [qb hz]
        have hm : items.length * (JQ (ins.getD 0 default)).toNat ≤ n.toNat * (JQ (ins.getD 0 default)).toNat := Nat.mul_le_mul_right _ (by omega)
        omega
      · exact Wd (by omega) hrs
  rw [WT]
  split
  · exact ZF _ (Nat.le_refl _)
  · split
    · exact ZG _
    · split
      · rename_i h5
        exact Wd (qD (q2 (by omega)).2.2) (ZL _)
      · split
        · exact ZG _
        · split
          · exact ZG _
          · exact hrow (by omega)
def KN (head : Nat) : List (Ty × List UInt8) → Nat → List UInt8
  | [], _ => []
  | (x, s) :: l, n => if JB x then s ++ KN head l n else (zz (head + n) 4).1 ++ KN head l (n + s.length)
def Wn : List (Ty × List UInt8) → List UInt8
  | [] => []
  | (x, s) :: l => if JB x then Wn l else s ++ Wn l
theorem ZN (head : Nat) : ∀ (l : List (Ty × List UInt8)) (f th : List UInt8), XG head l f th = (f ++ KN head l th.length) ++ (th ++ Wn l)
  | [], f, th => by rw [XG, KN, Wn]; simp
  | (x, s) :: l, f, th => by
    rw [XG, KN, Wn]
    split
    · rw [ZN head l]; simp
    · rw [ZN head l, List.length_append]; simp
theorem Jor {n : Nat} (h : n < 4294967296) : (zz n 4).1 = YV n 4 := by
  unfold zz
  rw [if_neg]
  · rfl
  · have := (Jhn (n := n) (k := 4) (by omega) (by decide)).2 (by simpa using h)
    omega
theorem zT {n : Nat} (h : n < 4294967296) : (zz n 4).1.length = 4 := by rw [Jor h, Qv]
def Xc (l : List (Ty × List UInt8)) : Prop := ∀ p ∈ l, JB p.1 = true → (p.2.length : Int) = JQ p.1
def YY : List (Ty × List UInt8) → Nat
  | [] => 0
  | p :: l => p.2.length + 4 + YY l
theorem qE (head : Nat) : ∀ (l : List (Ty × List UInt8)) (n : Nat), Xc l → head + n + YY l < 4294967296 → ((KN head l n).length : Int) = JU (l.map Prod.fst)
  | [], _, _, _ => rfl
  | (x, s) :: l, n, hs, hb => by
    rw [YY] at hb; simp only at hb
    have hs2 : Xc l := fun p hp => hs p (List.mem_cons_of_mem _ hp)
    rw [KN, List.map_cons, JU, V1]
    simp only
    by_cases hf : JB x = true
    · rw [if_pos hf, if_pos hf, List.length_append]
      have h1 := hs _ List.mem_cons_self hf
      have h2 := qE head l n hs2 (by omega)
      simp only at h1; omega
    · rw [if_neg hf, if_neg hf, List.length_append, zT (by omega)]
      have h2 := qE head l (n + s.length) hs2 (by omega)
      omega
def Xd : List (Ty × List UInt8) → Nat
  | [] => 0
  | (x, s) :: l => if JB x then Xd l else s.length + Xd l
theorem Yr : ∀ l : List (Ty × List UInt8), (Wn l).length = Xd l
  | [] => rfl
  | (x, s) :: l => by
    rw [Wn, Xd]
    split
    · exact Yr l
    · rw [List.length_append, Yr l]
def Qu (s : List UInt8) (head : Nat) : List Ty → Nat → Nat → Bool → Option (List Nat)
  | [], _, _, op => if op = false ∧ head ≠ s.length then none else some [s.length]
  | x :: xs, at_, last, op => if JB x then Qu s head xs (at_ + (JQ x).toNat) last op else
      if (op = false ∧ Wq ((s.drop at_).take 4) ≠ head) ∨ Wq ((s.drop at_).take 4) < last ∨ s.length < Wq ((s.drop at_).take 4) then none
      else (Qu s head xs (at_ + 4) (Wq ((s.drop at_).take 4)) true).map fun r => Wq ((s.drop at_).take 4) :: r
def Vj (s : List UInt8) : List Ty → Nat → List Nat → List (List UInt8)
  | [], _, _ => []
  | x :: xs, at_, os => if JB x then (s.drop at_).take (JQ x).toNat :: Vj s xs (at_ + (JQ x).toNat) os else
      (s.take (os.getD 1 0)).drop (os.getD 0 0) :: Vj s xs (at_ + 4) os.tail
def yt (head : Nat) : List (Ty × List UInt8) → Nat → List Nat
  | [], n => [head + n]
  | (x, s) :: l, n => if JB x then yt head l n else (head + n) :: yt head l (n + s.length)
theorem zU (head : Nat) : ∀ (l : List (Ty × List UInt8)) (n : Nat), ∃ r, yt head l n = (head + n) :: r
  | [], n => ⟨[], rfl⟩
  | (x, s) :: l, n => by
    rw [yt]
    split
    · exact zU head l n
    · exact ⟨_, rfl⟩
theorem yu (head : Nat) (s : List UInt8) : ∀ (l : List (Ty × List UInt8)) (pre tp : List UInt8) (n last : Nat) (op : Bool), Xc l → s = pre ++ KN head l n ++ (tp ++ Wn l) → head = pre.length + (KN head l n).length → tp.length = n →
    last ≤ head + n → (op = false → n = 0) → head + n + YY l < 4294967296 → Qu s head (l.map Prod.fst) pre.length last op = some (yt head l n)
  | [], pre, tp, n, last, op, _, hs, hh, ht, hl, ho, hb => by
    have hlen : s.length = head + n := by rw [hs, hh, Wn]; simp [ht, KN]
    rw [List.map_nil, Qu, yt, hlen, if_neg]; rintro ⟨h1, h2⟩
    have := ho h1
    omega
  | (x, t) :: l, pre, tp, n, last, op, hz, hs, hh, ht, hl, ho, hb => by
    rw [YY] at hb; simp only at hb
    have hz2 : Xc l := fun p hp => hz p (List.mem_cons_of_mem _ hp)
    rw [List.map_cons, Qu, yt]
    by_cases hf : JB x = true
    · rw [if_pos hf, if_pos hf]
      have h1 := hz _ List.mem_cons_self hf
      simp only at h1
      have e1 : pre.length + (JQ x).toNat = (pre ++ t).length := by rw [List.length_append]; omega
      rw [KN, if_pos hf] at hs hh; rw [Wn, if_pos hf] at hs; rw [e1]; exact yu head s l (pre ++ t) tp n last op hz2 (by rw [hs]; simp) (by rw [List.length_append] at hh ⊢; omega) ht hl ho (by omega)
    · rw [if_neg hf, if_neg hf]
      rw [KN, if_neg hf] at hs hh; rw [Wn, if_neg hf] at hs
      have hle := Jor (n := head + n) (by omega)
      rw [hle] at hs hh
      have hlow : Wq ((s.drop pre.length).take 4) = head + n := by
        rw [hs, List.append_assoc, List.append_assoc, List.drop_left' rfl, List.take_left' (Qv _ _)]; exact xO 4 _ (by simp; omega)
      have hsl : s.length = pre.length + (4 + (KN head l (n + t.length)).length) + (n + (t.length + Xd l)) := by
        rw [hs]; simp only [List.length_append, Qv, ht, Yr]
      have hh2 : head = pre.length + (4 + (KN head l (n + t.length)).length) := by rw [List.length_append, Qv] at hh; exact hh
      rw [hlow, if_neg (by
        rintro (⟨h1, h2⟩ | h1 | h1)
        · have := ho h1; omega
        · omega
        · omega)]
      have e1 : pre.length + 4 = (pre ++ YV (head + n) 4).length := by rw [List.length_append, Qv]
      rw [e1, yu head s l (pre ++ YV (head + n) 4) (tp ++ t) (n + t.length) (head + n) true hz2 (by rw [hs]; simp) (by rw [List.length_append, Qv]; omega) (by rw [List.length_append, ht]) (by omega) (fun h => by cases h) (by omega)]
      rfl
theorem qF (head : Nat) (s : List UInt8) : ∀ (l : List (Ty × List UInt8)) (pre tp : List UInt8) (n : Nat), Xc l → s = pre ++ KN head l n ++ (tp ++ Wn l) → head = pre.length + (KN head l n).length → tp.length = n →
    head + n + YY l < 4294967296 → Vj s (l.map Prod.fst) pre.length (yt head l n) = l.map Prod.snd
  | [], _, _, _, _, _, _, _, _ => rfl
  | (x, t) :: l, pre, tp, n, hz, hs, hh, ht, hb => by
    rw [YY] at hb; simp only at hb
    have hz2 : Xc l := fun p hp => hz p (List.mem_cons_of_mem _ hp)
    rw [List.map_cons, List.map_cons, Vj, yt]
    by_cases hf : JB x = true
    · rw [if_pos hf, if_pos hf]
      have h1 := hz _ List.mem_cons_self hf
      simp only at h1
      have e1 : pre.length + (JQ x).toNat = (pre ++ t).length := by rw [List.length_append]; omega
      rw [KN, if_pos hf] at hs hh; rw [Wn, if_pos hf] at hs; rw [e1, qF head s l (pre ++ t) tp n hz2 (by rw [hs]; simp) (by rw [List.length_append] at hh ⊢; omega) ht (by omega)]
      congr 1
      rw [hs, show (JQ x).toNat = t.length by omega]; simp only [List.append_assoc]; rw [List.drop_left' rfl, List.take_left' rfl]
    · rw [if_neg hf, if_neg hf]
      rw [KN, if_neg hf] at hs hh; rw [Wn, if_neg hf] at hs
      have hle := Jor (n := head + n) (by omega)
      rw [hle] at hs hh
      have e1 : pre.length + 4 = (pre ++ YV (head + n) 4).length := by rw [List.length_append, Qv]
      obtain ⟨r, hr⟩ := zU head l (n + t.length)
      rw [List.tail_cons, e1, qF head s l (pre ++ YV (head + n) 4) (tp ++ t) (n + t.length) hz2 (by rw [hs]; simp) (by rw [List.length_append] at hh ⊢; rw [Qv] at hh ⊢; omega) (by rw [List.length_append, ht]) (by omega)]
      congr 1
      rw [hr]
      show (s.take (head + (n + t.length))).drop (head + n) = t
      obtain ⟨A, hA⟩ : ∃ A, A = pre ++ (YV (head + n) 4 ++ KN head l (n + t.length)) ++ tp := ⟨_, rfl⟩
      have e2 : s = A ++ (t ++ Wn l) := by rw [hs, hA]; simp
      have e3 : A.length = head + n := by rw [hA, List.length_append, List.length_append, ht]; omega
      rw [e2, ← Nat.add_assoc, ← e3, List.take_length_add_append, List.drop_left' rfl, List.take_left' rfl]
theorem vY : ∀ {ts : List Ty}, (∀ x ∈ ts, JB x = true → 0 ≤ JQ x) → 0 ≤ JU ts
  | [], _ => by rw [JU]; exact Int.le_refl _
  | x :: xs, h => by
    have h1 := vY (ts := xs) fun y hy => h y (List.mem_cons_of_mem _ hy)
    rw [JU, V1]
    split
    · have := h x List.mem_cons_self ‹_›; omega
    · omega
theorem vZ {s : List UInt8} {head : Nat} : ∀ {ts : List Ty} {at_ last : Nat} {op : Bool} {os : List Nat}, Qu s head ts at_ last op = some os → last ≤ s.length → (op = false → last = head) → ∃ o r, os = o :: r ∧ last ≤ o ∧ o ≤ s.length ∧ (op = false → o = head)
  | [], at_, last, op, os, h, hl, ho => by
    rw [Qu] at h
    split at h
    · cases h
    · rename_i h1
      cases h
      refine ⟨s.length, [], rfl, hl, Nat.le_refl _, fun hop => ?_⟩; exact Decidable.byContradiction fun h2 => h1 ⟨hop, fun e => h2 e.symm⟩
  | x :: xs, at_, last, op, os, h, hl, ho => by
    rw [Qu] at h
    split at h
    · exact vZ h hl ho
    · split at h
      · cases h
      · rename_i h1
        obtain ⟨r, _, rfl⟩ := Option.map_eq_some_iff.1 h
        refine ⟨_, r, rfl, by omega, by omega, fun hop => ?_⟩; exact Decidable.byContradiction fun h2 => h1 (.inl ⟨hop, h2⟩)
theorem Ja2 {s : List UInt8} {head : Nat} (hs : s.length < 4294967296) (hh : head ≤ s.length) : ∀ {ts : List Ty} {at_ last : Nat} {op : Bool} {os : List Nat}, Qu s head ts at_ last op = some os → last ≤ s.length → head ≤ last → (op = false → last = head) →
    (∀ x ∈ ts, JB x = true → 0 ≤ JQ x) → (at_ : Int) + JU ts = head →
    ∀ o r, os = o :: r → KN head (ts.zip (Vj s ts at_ os)) (o - head) = (s.take head).drop at_ ∧ Wn (ts.zip (Vj s ts at_ os)) = s.drop o ∧ Xc (ts.zip (Vj s ts at_ os)) ∧ (Vj s ts at_ os).length = ts.length
  | [], at_, last, op, os, h, hl, hhl, ho, hz, hb, o, r, e => by
    rw [Qu] at h
    split at h
    · cases h
    · cases h
      cases e
      rw [JU] at hb
      have ha : at_ = head := by omega
      subst ha; refine ⟨?_, ?_, fun p hp => by simp [Vj] at hp, rfl⟩
      · rw [Vj, List.zip_nil_right, KN, List.drop_of_length_le (by rw [List.length_take]; omega)]
      · rw [Vj, List.zip_nil_right, Wn, List.drop_length]
  | x :: xs, at_, last, op, os, h, hl, hhl, ho, hz, hb, o, r, e => by
    have hz2 : ∀ y ∈ xs, JB y = true → 0 ≤ JQ y := fun y hy => hz y (List.mem_cons_of_mem _ hy)
    rw [JU, V1] at hb; rw [Qu] at h
    by_cases hf : JB x = true
    · rw [if_pos hf] at h hb
      have h0 := hz x List.mem_cons_self hf
      obtain ⟨i1, i2, i3, i4⟩ := Ja2 hs hh h hl hhl ho hz2 (by omega) o r e
      have hlen : ((s.drop at_).take (JQ x).toNat).length = (JQ x).toNat := by
        have hbg := vY hz2
        rw [List.length_take, List.length_drop]; omega
      rw [Vj, if_pos hf, List.zip_cons_cons, KN, Wn, if_pos hf, if_pos hf]; refine ⟨?_, i2, ?_, by rw [List.length_cons, i4, List.length_cons]⟩
      · rw [i1]
        have hbg := vY hz2
        have e2 : (s.drop at_).take (JQ x).toNat = ((s.take head).drop at_).take (JQ x).toNat := by
          rw [List.drop_take, List.take_take, Nat.min_eq_left (by omega)]
        rw [e2, ← List.drop_drop, List.take_append_drop]
      · intro p hp
        rcases List.mem_cons.1 hp with rfl | hp
        · intro _; simp only; rw [hlen]; omega
        · exact i3 p hp
    · rw [if_neg hf] at h hb
      split at h
      · cases h
      · rename_i h1
        obtain ⟨r2, h2, hr2⟩ := Option.map_eq_some_iff.1 h
        subst hr2
        obtain ⟨rfl, rfl⟩ := List.cons.inj e
        have hbg := vY hz2
        have h4 : ((s.drop at_).take 4).length = 4 := by rw [List.length_take, List.length_drop]; omega
        have hn : Wq ((s.drop at_).take 4) ≤ s.length := by omega
        have hnl : last ≤ Wq ((s.drop at_).take 4) := by omega
        have hle : YV (Wq ((s.drop at_).take 4)) 4 = (s.drop at_).take 4 := by
          have := Jg6 ((s.drop at_).take 4)
          rwa [h4] at this
        generalize hq : Wq ((s.drop at_).take 4) = q at *
        obtain ⟨b, r3, rfl, hb1, hb2, _⟩ := vZ h2 hn (fun h => by cases h)
        obtain ⟨i1, i2, i3, i4⟩ := Ja2 hs hh h2 hn (by omega) (fun h => by cases h) hz2 (by omega) b r3 rfl
        rw [Vj, if_neg hf, List.zip_cons_cons, KN, Wn, if_neg hf, if_neg hf]; simp only [List.tail_cons]
        have hpl : ((s.take b).drop q).length = b - q := by rw [List.length_drop, List.length_take]; omega
        refine ⟨?_, ?_, ?_, by rw [List.length_cons, i4, List.length_cons]⟩
        · show (zz (head + (q - head)) 4).1 ++ KN head _ (q - head + ((s.take b).drop q).length) = _
          rw [hpl, show q - head + (b - q) = b - head by omega, i1, show head + (q - head) = q by omega, Jor (by omega), hle]
          have e2 : (s.drop at_).take 4 = ((s.take head).drop at_).take 4 := by
            rw [List.drop_take, List.take_take, Nat.min_eq_left (by omega)]
          rw [e2, ← List.drop_drop, List.take_append_drop]
        · show (s.take b).drop q ++ _ = _
          rw [i2]
          have e3 : s.drop q = (s.drop q).take (b - q) ++ (s.drop q).drop (b - q) := (List.take_append_drop _ _).symm
          rw [e3, List.drop_drop, List.drop_take, show q + (b - q) = b by omega]
        · intro p hp
          rcases List.mem_cons.1 hp with rfl | hp
          · intro hff; exact absurd hff hf
          · exact i3 p hp
theorem Jos {t : Ty} (hc : V0 t 0 = 0) : JB t = Wr t := by unfold JB; rw [hc]; simp
theorem qc {t : Ty} (h : JB t = true) : 1 ≤ JQ t := by
  obtain ⟨h1, h2⟩ := Vd.1 h
  exact (xR t 0 (Int.le_refl _) h1 h2).1
mutual
def VH : Vl → Vl
  | .mk a b c d bits _ items _ pick => .mk a b c d bits none (Xe items) none pick
def Xe : List Vl → List Vl
  | [] => []
  | x :: xs => VH x :: Xe xs
end
theorem QZ : ∀ l : List Vl, Xe l = l.map VH
  | [] => by rw [Xe]; rfl
  | x :: xs => by rw [Xe, QZ xs]; rfl
def v0L : Vl := .mk 0 0 0 0 [] none [] none 0
def vn (w : List Nat) : Vl := .mk (w.getD 0 0) (w.getD 1 0) (w.getD 2 0) (w.getD 3 0) [] none [] none 0
def Zo (l : List Bool) : Vl := .mk 0 0 0 0 l none [] none 0
def JX (l : List Vl) (pick : Int) : Vl := .mk 0 0 0 0 [] none l none pick
def JT (k n : Int) (ins : List Ty) (s : List UInt8) : Nat × Int :=
  if k = 7 then (ins.length, 0) else if k = 3 then (n.toNat, 0) else if s = [] then (0, 0)
  else if JB (JC k 0 ins 0) then (if s.length % (JQ (JC k 0 ins 0)).toNat ≠ 0 then (0, 2) else if n < ((s.length / (JQ (JC k 0 ins 0)).toNat : Nat) : Int) then (0, 5) else (s.length / (JQ (JC k 0 ins 0)).toNat, 0))
  else if s.length < 4 ∨ Wq (s.take 4) % 4 ≠ 0 ∨ Wq (s.take 4) = 0 then (0, 2) else if n < ((Wq (s.take 4) / 4 : Nat) : Int) then (0, 5) else (Wq (s.take 4) / 4, 0)
abbrev Gf : Type := List UInt8 → Vl × Int
def Vs : List (Gf × List UInt8) → List Vl × Int
  | [] => ([], 0)
  | (f, s) :: r => if (f s).2 ≠ 0 then ([], (f s).2) else if (Vs r).2 ≠ 0 then ([], (Vs r).2) else ((f s).1 :: (Vs r).1, 0)
def Wo (s : List UInt8) : Nat → Nat
  | 0 => 0
  | i + 1 => if Qw s i = true then i else Wo s i
def g0 : Gf := fun _ => (v0L, 0)
def ze (k n : Int) (ins : List Ty) (fs : List Gf) (s : List UInt8) : Vl × Int :=
  if (JT k n ins s).2 ≠ 0 then (v0L, (JT k n ins s).2)
  else if (s.length : Int) < JU (Kq k ins (JT k n ins s).1) then (v0L, 2)
  else match Qu s (JU (Kq k ins (JT k n ins s).1)).toNat (Kq k ins (JT k n ins s).1) 0 (JU (Kq k ins (JT k n ins s).1)).toNat false with
    | none => (v0L, 2)
    | some os =>
      let r := Vs (((List.range (JT k n ins s).1).map fun i => fs.getD (VX k 0 i) g0).zip (Vj s (Kq k ins (JT k n ins s).1) 0 os))
      if r.2 ≠ 0 then (v0L, r.2) else (JX r.1 0, 0)
def ZX (k n : Int) (p : Pl) (ins : List Ty) (fs : List Gf) (s : List UInt8) : Vl × Int :=
  if JB (.mk k n p ins) = true ∧ (s.length : Int) ≠ JQ (.mk k n p ins) then (v0L, 2)
  else if k = 1 then (vn (Xi s), 0)
  else if k = 2 then (if 1 < (s.getD 0 0).toNat then (v0L, 2) else (vn (Xi s), 0))
  else if k = 5 then (if ((JH s (8 * s.length)).drop n.toNat).any id then (v0L, 8) else (Zo (JH s n.toNat), 0))
  else if k = 6 then (if s.getLast? = none ∨ s.getLast? = some 0 then (v0L, 2) else if n < (Wo s (8 * s.length) : Int) then (v0L, 5) else (Zo (JH s (Wo s (8 * s.length))), 0))
  else if k = 8 then (match s with
    | [] => (v0L, 2)
    | b :: r => if ins.length ≤ b.toNat then (v0L, 9) else if (fs.getD b.toNat g0 r).2 ≠ 0 then (v0L, (fs.getD b.toNat g0 r).2) else (JX [(fs.getD b.toNat g0 r).1] b.toNat, 0))
  else ze k n ins fs s
mutual
def KH : Ty → List UInt8 → Vl × Int
  | .mk k n p ins, s => ZX k n p ins (YJ ins) s
def YJ : List Ty → List Gf
  | [] => []
  | x :: xs => KH x :: YJ xs
end
theorem Jd2 : ∀ l : List Ty, YJ l = l.map KH
  | [] => by rw [YJ]; rfl
  | x :: xs => by rw [YJ, Jd2 xs]; rfl
theorem ZO {ins : List Ty} {i : Nat} {x : Ty} (h : ins[i]? = some x) : (YJ ins).getD i g0 = KH x := by
  rw [Jd2, List.getD_eq_getElem?_getD, List.getElem?_map, h]; rfl
theorem Jid : ∀ {l : List (Gf × List UInt8)} {vs : List Vl}, l.length = vs.length → (∀ (i : Nat) f s v, l[i]? = some (f, s) → vs[i]? = some v → f s = (v, 0)) → Vs l = (vs, 0)
  | [], [], _, _ => rfl
  | [], _ :: _, h, _ => by simp at h
  | _ :: _, [], h, _ => by simp at h
  | (f, s) :: l, v :: vs, h, hg => by
    have h1 := hg 0 f s v rfl rfl
    have h2 := Jid (l := l) (vs := vs) (by simpa using h) fun i f' s' v' hl hv => hg (i + 1) f' s' v' (by simpa using hl) (by simpa using hv)
    rw [Vs, h1, if_neg (by simp), h2, if_neg (by simp)]
theorem Jie {w : List Nat} {n t : Nat} (h : (Qp w).length ≤ n) (h1 : n ≤ t) (h2 : t < 32) : dg w t = 0 := by
  have e := wE w
  have hb := jl w
  have h3 : (XJ w 32)[31 - t]? = some 0 := by
    rw [← e, List.getElem?_append_left (by rw [List.length_replicate]; omega), List.getElem?_replicate, if_pos (by omega)]
  rw [Y4 w (show 31 - t < 32 by omega), show 32 - 1 - (31 - t) = t by omega] at h3
  have h4 := zp w t
  have h5 : (UInt8.ofNat (dg w t)).toNat = (0 : UInt8).toNat := by rw [Option.some.inj h3]
  rw [UInt8.toNat_ofNat', Nat.mod_eq_of_lt h4] at h5; exact h5
theorem qd : ∀ {l : List Vl} {k pick : Int} {ins : List Ty} {i : Nat} {q : Ty × List UInt8}, q ∈ Kt l k pick ins i → ∃ j x, l[j]? = some x ∧ q = (JC k pick ins (i + j), QM x (JC k pick ins (i + j)))
  | [], _, _, _, _, _, h => by rw [Kt] at h; cases h
  | y :: ys, k, pick, ins, i, q, h => by
    rw [Kt] at h
    rcases List.mem_cons.1 h with rfl | h
    · exact ⟨0, y, rfl, rfl⟩
    · obtain ⟨j, x, h1, h2⟩ := qd h
      exact ⟨j + 1, x, h1, by rw [h2, show i + 1 + j = i + (j + 1) by omega]⟩
theorem YK : ∀ {l : List (Ty × List UInt8)}, (∀ p ∈ l, JB p.1 = true) → Xd l = 0
  | [], _ => by rw [Xd]
  | (x, s) :: l, h => by
    have h1 := h _ List.mem_cons_self
    rw [Xd, if_pos h1]; exact YK fun p hp => h p (List.mem_cons_of_mem _ hp)
theorem zV (head : Nat) : ∀ {l : List (Ty × List UInt8)} (n : Nat), (∀ p ∈ l, JB p.1 = true) → Xc l → ((KN head l n).length : Int) = JU (l.map Prod.fst)
  | [], _, _, _ => rfl
  | (x, s) :: l, n, hf, hs => by
    have h1 := hf _ List.mem_cons_self
    have h2 := hs _ List.mem_cons_self h1
    have h3 := zV head n (l := l) (fun p hp => hf p (List.mem_cons_of_mem _ hp)) fun p hp => hs p (List.mem_cons_of_mem _ hp)
    simp only at h1 h2; rw [KN, List.map_cons, JU, V1, if_pos h1, if_pos h1, List.length_append]
    simp only
    omega
theorem Jd3 : ∀ {l : List (Ty × List UInt8)}, Xc l → JU (l.map Prod.fst) ≤ (YY l : Nat)
  | [], _ => by rw [List.map_nil, JU, YY]; exact Int.le_refl _
  | (x, s) :: l, h => by
    have h1 := Jd3 (l := l) fun p hp => h p (List.mem_cons_of_mem _ hp)
    have h2 := h _ List.mem_cons_self
    rw [List.map_cons, JU, V1, YY]; simp only at h2 ⊢
    split
    · rename_i h3
      have := h2 h3
      omega
    · omega
theorem zX : ∀ l : List (Ty × List UInt8), YY l = yl l
  | [] => rfl
  | p :: l => by rw [YY, jq, zX l]
theorem qG {k : Int} {ins : List Ty} {x : Ty} : ∀ m : Nat, (∀ i, i < m → JC k 0 ins i = x) → JU (Kq k ins m) = m * V1 x
  | 0, _ => by rw [show Kq k ins 0 = [] from rfl, JU]; simp
  | m + 1, h => by
    rw [zQ, qG m fun i hi => h i (by omega), h m (by omega), Int.natCast_add, Int.add_mul]
    simp
theorem Jww (ins : List Ty) : Kq 7 ins ins.length = ins := by
  apply List.ext_getElem?
  intro i
  unfold Kq
  rw [List.getElem?_map]
  by_cases h : i < ins.length
  · rw [List.getElem?_range h, List.getElem?_eq_getElem h]
    show some (ins.getD (VX 7 0 i) default) = _
    rw [show VX 7 0 i = i from if_pos rfl, List.getD_eq_getElem?_getD, List.getElem?_eq_getElem h]; rfl
  · rw [List.getElem?_eq_none (by rw [List.length_range]; omega), List.getElem?_eq_none (by omega)]; rfl
theorem Jd4 : ∀ {l : List Ty}, (∀ x ∈ l, JB x = true) → JU l = VK l
  | [], _ => by rw [JU, VK]
  | x :: xs, h => by rw [JU, VK, V1, if_pos (h x List.mem_cons_self), Jd4 fun y hy => h y (List.mem_cons_of_mem _ hy)]
section
variable {a b c d : Nat} {bits : List Bool} {pb : Pl} {items : List Vl} {pi : Pl} {pick k n : Int} {p : Pl} {ins : List Ty}
theorem Jif (hc : V0 (.mk k n p ins) 0 = 0) (h : JW (.mk a b c d bits pb items pi pick) (.mk k n p ins) = 0) :
    (k = 1 → bits.length = 0 ∧ items.length = 0 ∧ pick = 0 ∧ ((Qp [a, b, c, d]).length : Int) ≤ n) ∧
    (k = 2 → bits.length = 0 ∧ items.length = 0 ∧ pick = 0 ∧ (a = 0 ∨ a = 1) ∧ b = 0 ∧ c = 0 ∧ d = 0) ∧
    (k = 3 ∨ k = 4 ∨ k = 7 → a = 0 ∧ b = 0 ∧ c = 0 ∧ d = 0 ∧ bits.length = 0 ∧ pick = 0) ∧
    (k = 5 ∨ k = 6 → a = 0 ∧ b = 0 ∧ c = 0 ∧ d = 0 ∧ items.length = 0 ∧ pick = 0) ∧
    (k = 8 → a = 0 ∧ b = 0 ∧ c = 0 ∧ d = 0 ∧ bits.length = 0) ∧ (k = 3 → (items.length : Int) = n) ∧ (k = 5 → (bits.length : Int) = n) := by
  obtain ⟨h1, h2, _⟩ := We h
  obtain ⟨hk, hf, _, _⟩ := Qy hc
  rw [KY k n ins.length a b c d bits pb items pi pick _ rfl] at h2; simp only [KK] at h2
  unfold Kf at hf
  have h9 : k = 1 ∨ k = 2 ∨ k = 3 ∨ k = 4 ∨ k = 5 ∨ k = 6 ∨ k = 7 ∨ k = 8 := by omega
  rcases h9 with rfl | rfl | rfl | rfl | rfl | rfl | rfl | rfl
  all_goals generalize items.length = I at *
  all_goals generalize bits.length = J at *
  all_goals generalize ins.length = K at *
  all_goals generalize (Qp [a, b, c, d]).length = Z at *
  all_goals simp at h1 h2 hf ⊢
  all_goals omega
theorem wa (hc : V0 (.mk k n p ins) 0 = 0) (h : JW (.mk a b c d bits pb items pi pick) (.mk k n p ins) = 0) (h8 : k ≠ 8) {j : Nat} {x : Vl} (hx : items[j]? = some x) : ins[VX k 0 j]? = some (JC k 0 ins j) ∧ JC k 0 ins j ∈ ins ∧ V0 (JC k 0 ins j) 0 = 0 ∧ JW x (JC k 0 ins j) = 0 := by
  obtain ⟨_, h2, h3⟩ := We h
  have hlt := (List.getElem?_eq_some_iff.1 hx).1
  have hin := ji (v := .mk a b c d bits pb items pi pick) hc h2 hlt
  have hg := VB h3 hx
  rw [Nat.zero_add, vX h8] at hg
  have e : VX k (Vl.pick (.mk a b c d bits pb items pi pick)) j = VX k 0 j := by unfold VX; rw [if_neg h8, if_neg h8]
  rw [e] at hin
  have hty := Qi hin
  exact ⟨hty.1, hty.2, VY hc _ hty.2, hg⟩
end
theorem Jd5 {items : List Vl} {k : Int} {ins : List Ty} (h : ∀ (j : Nat) x, items[j]? = some x → JB (JC k 0 ins j) = true → ((QM x (JC k 0 ins j)).length : Int) = JQ (JC k 0 ins j)) : Xc (Kt items k 0 ins 0) := by
  intro q hq hf
  obtain ⟨j, x, h1, rfl⟩ := qd hq
  rw [Nat.zero_add] at hf ⊢; exact h j x h1 hf
theorem Jig (v : Vl) : ∀ t, V0 t 0 = 0 → JW v t = 0 → Wr t = true → ((QM v t).length : Int) = JQ t := by
  induction v using Vl.ind with
  | h a b c d bits pb items pi pick ih =>
  intro t hc hf hx
  obtain ⟨k, n, p, ins⟩ := t
  obtain ⟨hk8, ho, _, _⟩ := Qy hc
  obtain ⟨m1, m2, m3, m4⟩ := qa hc hf
  obtain ⟨q1, q2, q3⟩ := Zn hc hf
  obtain ⟨g1, g2, g3, g4, g5, g6, g7⟩ := Jif hc hf
  have hrow := fun (h8 : k ≠ 8) (j : Nat) x (h : items[j]? = some x) => wa hc hf h8 h
  rw [Wr, Bool.and_eq_true] at hx
  have hne : (k ≠ 4 ∧ k ≠ 6) ∧ k ≠ 8 := by simpa using hx.1
  have hfx := Zc.1 hx.2
  rw [QG, JQ]
  by_cases h1 : k = 1
  · have := m3 h1
    rw [if_pos h1, if_pos h1, ZF _ (by omega)]; omega
  rw [if_neg h1, if_neg h1]
  by_cases h2 : k = 2
  · rw [if_pos h2, if_pos h2, ZF _ (by decide)]; rfl
  rw [if_neg h2, if_neg h2]
  by_cases h5 : k = 5
  · have := g7 h5
    rw [if_pos h5, if_pos h5, VF]; omega
  have hall : ∀ q ∈ Kt items k 0 ins 0, JB q.1 = true := fun q hq => by
    obtain ⟨j, x, e1, rfl⟩ := qd hq
    obtain ⟨_, r1, r2, _⟩ := hrow hne.2 j x e1
    rw [Nat.zero_add]; exact Vd.2 ⟨r2, hfx _ r1⟩
  have hsz : Xc (Kt items k 0 ins 0) := Jd5 fun j x e1 _ => by
    obtain ⟨_, r1, r2, r3⟩ := hrow hne.2 j x e1
    exact ih x (List.mem_of_getElem? e1) _ r2 r3 (hfx _ r1)
  rw [if_neg h5, if_neg h5, if_neg hne.1.2, if_neg hne.2, jZ hne.2, ZN, List.nil_append, List.nil_append, List.length_append, Yr, YK hall, Int.natCast_add, zV _ _ hall hsz, X5]
  by_cases h3 : k = 3
  · obtain ⟨w1, w2, w3, w4⟩ := q1 (.inl h3)
    have w5 := g6 h3
    match ins, w4 with
    | [x], _ =>
    rw [if_pos h3, qG (x := x) _ fun i _ => by subst h3; rfl, V1, if_pos (Vd.2 ⟨VY hc _ List.mem_cons_self, hfx _ List.mem_cons_self⟩), w5, VK, VK]
    simp
  · have h7 : k = 7 := by omega
    subst h7; rw [if_neg h3, (q3 rfl).1, Jww, Jd4 fun x hx => Vd.2 ⟨VY hc _ hx, hfx _ hx⟩]
    simp
theorem Jkj (l : List Bool) : ((JH (Qj l) (8 * (Qj l).length)).drop l.length).any id = false := by
  rw [List.any_eq_false]; intro b hb
  obtain ⟨j, hj⟩ := List.getElem?_of_mem hb
  rw [List.getElem?_drop] at hj
  have hlt : l.length + j < 8 * (Qj l).length := by
    have := (List.getElem?_eq_some_iff.1 hj).1
    rw [JZ] at this; exact this
  rw [Qr _ hlt] at hj; rw [VF] at hlt; rw [wG l hlt, List.getD_eq_getElem?_getD, List.getElem?_eq_none (by omega)] at hj
  cases hj; simp
theorem Jih {s : List UInt8} {L : Nat} (h1 : Qw s L = true) : ∀ N : Nat, L < N → (∀ i, L < i → i < N → Qw s i = false) → Wo s N = L
  | 0, h, _ => by omega
  | N + 1, h, h2 => by
    rw [Wo]
    by_cases e : L = N
    · subst e; rw [if_pos h1]
    · rw [if_neg (by rw [h2 N (by omega) (by omega)]; decide)]
      exact Jih h1 N (by omega) fun i hi hj => h2 i hi (by omega)
theorem Jot (bits : List Bool) : Wo (Qj (bits ++ [true])) (8 * (Qj (bits ++ [true])).length) = bits.length ∧ JH (Qj (bits ++ [true])) bits.length = bits ∧ (Qj (bits ++ [true])).getLast? ≠ none ∧ (Qj (bits ++ [true])).getLast? ≠ some 0 := by
  have hl : (bits ++ [true]).length = bits.length + 1 := by rw [List.length_append]; rfl
  have hn := VF (bits ++ [true])
  rw [hl] at hn
  have hb : ∀ i, i < 8 * (Qj (bits ++ [true])).length → Qw (Qj (bits ++ [true])) i = (bits ++ [true]).getD i false := fun i hi => wG _ (by rw [hl]; rw [hn] at hi; exact hi)
  have h1 : Qw (Qj (bits ++ [true])) bits.length = true := by
    rw [hb _ (by omega), List.getD_eq_getElem?_getD, List.getElem?_append_right (Nat.le_refl _), Nat.sub_self]; rfl
  refine ⟨Jih h1 _ (by omega) fun i h2 h3 => ?_, ?_, ?_, ?_⟩
  · rw [hb _ h3, List.getD_eq_getElem?_getD, List.getElem?_eq_none (by omega)]; rfl
  · apply List.ext_getElem?
    intro i
    by_cases hi : i < bits.length
    · rw [Qr _ hi, hb _ (by omega), List.getD_eq_getElem?_getD, List.getElem?_append_left hi, List.getElem?_eq_getElem hi]; rfl
    · rw [List.getElem?_eq_none (by rw [JZ]; omega), List.getElem?_eq_none (by omega)]
  · rw [Ne, List.getLast?_eq_none_iff]
    intro e; rw [e] at hn; simp at hn; omega
  · rw [List.getLast?_eq_getElem?]
    intro e
    have e2 : (Qj (bits ++ [true])).getD (bits.length / 8) 0 = 0 := by
      rw [List.getD_eq_getElem?_getD, show bits.length / 8 = (Qj (bits ++ [true])).length - 1 by omega, e]; rfl
    unfold Qw at h1
    rw [e2] at h1; simp at h1
theorem Jtj {l : List (Ty × List UInt8)} {H : Nat} {s : List UInt8} (hH : JU (l.map Prod.fst) = (H : Int)) (hz : Xc l) (hs : s = XG H l [] []) (hb : H + YY l < 4294967296) :
    s.length = H + Xd l ∧ Qu s H (l.map Prod.fst) 0 H false = some (yt H l 0) ∧ Vj s (l.map Prod.fst) 0 (yt H l 0) = l.map Prod.snd := by
  rw [ZN, List.nil_append, List.nil_append, List.length_nil] at hs
  have hf := qE H l 0 hz (by omega)
  rw [hH] at hf; refine ⟨by rw [hs, List.length_append, Yr]; omega, ?_, ?_⟩
  · exact yu H s l [] [] 0 H false hz (by rw [hs]; simp) (by simp only [List.length_nil]; omega) rfl (Nat.le_refl _) (fun _ => rfl) (by omega)
  · exact qF H s l [] [] 0 hz (by rw [hs]; simp) (by simp only [List.length_nil]; omega) rfl (by omega)
theorem KE (a b c d : Nat) (bits : List Bool) (pb : Pl) (items : List Vl) (pi : Pl) (pick : Int) : VH (.mk a b c d bits pb items pi pick) = .mk a b c d bits none (Xe items) none pick := by rw [VH]
theorem Jtk {R : Jo} {v : Vl} (hv : v.In R) : ∀ t, V0 t 0 = 0 → JW v t = 0 → wV v ≤ 20000 → KH t (QM v t) = (VH v, 0) := by
  induction hv with
  | @mk a b c d bits pb items pi pick ha hb hcc hd hlb hsb hl hs hp hi ih =>
  intro t hc hf hw
  obtain ⟨k, n, p, ins⟩ := t
  obtain ⟨hk8, ho, _, _⟩ := Qy hc
  obtain ⟨m1, m2, m3, m4⟩ := qa hc hf
  obtain ⟨q1, q2, q3⟩ := Zn hc hf
  obtain ⟨g1, g2, g3, g4, g5, g6, g7⟩ := Jif hc hf
  have hwd : WOk [a, b, c, d] := ⟨rfl, fun x hx => by simp at hx; rcases hx with rfl | rfl | rfl | rfl <;> assumption⟩
  have hrow := fun (h8 : k ≠ 8) (j : Nat) x (h : items[j]? = some x) => wa hc hf h8 h
  have hfl := Jig _ _ hc hf
  rw [KH]
  unfold ZX
  rw [if_neg (fun h => h.2 (hfl (Vd.1 h.1).2)), KE, QG]
  by_cases h1 : k = 1
  · obtain ⟨e1, e2, rfl, e4⟩ := g1 h1
    obtain rfl := List.length_eq_zero_iff.1 e1
    obtain rfl := List.length_eq_zero_iff.1 e2
    have := m3 h1
    rw [if_pos h1, if_pos h1, Jng hwd (by omega) fun t h3 h4 => Jie (n := n.toNat) (by omega) h3 h4, Xe]; rfl
  rw [if_neg h1, if_neg h1]
  by_cases h2 : k = 2
  · obtain ⟨e1, e2, rfl, e4, rfl, rfl, rfl⟩ := g2 h2
    obtain rfl := List.length_eq_zero_iff.1 e1
    obtain rfl := List.length_eq_zero_iff.1 e2
    have hz : (Qp [a, 0, 0, 0]).length ≤ 1 := by rcases e4 with rfl | rfl <;> decide +kernel
    have h01 : ¬ 1 < ((yW [a, 0, 0, 0] 1).getD 0 0).toNat := by rcases e4 with rfl | rfl <;> decide +kernel
    rw [if_pos h2, if_pos h2, if_neg h01, Jng hwd (by decide) fun t h3 h4 => Jie hz h3 h4, Xe]; rfl
  rw [if_neg h2, if_neg h2]
  by_cases h5 : k = 5
  · obtain ⟨rfl, rfl, rfl, rfl, e2, rfl⟩ := g4 (.inl h5)
    obtain rfl := List.length_eq_zero_iff.1 e2
    have hn := g7 h5
    rw [if_pos h5, if_pos h5, show n.toNat = bits.length by omega, Jkj, if_neg (by decide), Jcv, Xe]; rfl
  rw [if_neg h5, if_neg h5]
  by_cases h6 : k = 6
  · obtain ⟨rfl, rfl, rfl, rfl, e2, rfl⟩ := g4 (.inr h6)
    obtain rfl := List.length_eq_zero_iff.1 e2
    obtain ⟨w1, w2, w3⟩ := q2 (.inr h6)
    obtain ⟨t1, t2, t3, t4⟩ := Jot bits
    rw [if_pos h6, if_pos h6, if_neg (by rintro (h | h); exact t3 h; exact t4 h), t1, if_neg (by omega), t2, Xe]; rfl
  rw [if_neg h6, if_neg h6]
  by_cases h8 : k = 8
  · obtain ⟨rfl, rfl, rfl, rfl, e1⟩ := g5 h8
    obtain rfl := List.length_eq_zero_iff.1 e1
    obtain ⟨w1, w2, w3, w4⟩ := m4 h8
    subst h8
    match items, w1 with
    | [x], _ =>
    obtain ⟨_, f2, f3⟩ := We hf
    have hg := VB (j := 0) (x := x) f3 rfl
    have hin := ji (v := .mk 0 0 0 0 [] pb [x] pi pick) (i := 0) hc f2 (Nat.lt_succ_self 0)
    have hty := Qi hin
    have hx := ih x List.mem_cons_self _ (VY hc _ hty.2) hg (Nat.le_trans (ym List.mem_cons_self) hw)
    have hbt : (UInt8.ofNat pick.toNat).toNat = pick.toNat := by rw [UInt8.toNat_ofNat']; omega
    have hF := ZO hty.1
    rw [show VX 8 (Vl.pick (.mk 0 0 0 0 [] pb [x] pi pick)) 0 = pick.toNat from rfl] at hF; rw [if_pos rfl, if_pos rfl, Kt]; simp only [List.headD_cons, hbt]; rw [if_neg (by omega), hF]; rw [show JC 8 (Vl.pick (.mk 0 0 0 0 [] pb [x] pi pick)) ins 0 = JC 8 pick ins 0 from rfl] at *; rw [hx]; simp only [ne_eq, not_true_eq_false, if_false]; rw [Xe, Xe, JX]
    congr 2
    omega
  rw [if_neg h8, if_neg h8, jZ h8, X5]
  obtain ⟨rfl, rfl, rfl, rfl, e1, rfl⟩ := g3 (by omega)
  obtain rfl := List.length_eq_zero_iff.1 e1
  have hsz : Xc (Kt items k 0 ins 0) := Jd5 fun j x e1 hfx => by
    obtain ⟨_, r1, r2, r3⟩ := hrow h8 j x e1
    exact Jig x _ r2 r3 (Vd.1 hfx).2
  have hbl := ZK (Kq k ins items.length)
  obtain ⟨H, hH⟩ : ∃ H, H = (JU (Kq k ins items.length)).toNat := ⟨_, rfl⟩
  have hHi : JU (Kq k ins items.length) = (H : Int) := by omega
  have hbs := Jd3 hsz
  have hrl := yn items k 0 ins items 0
  rw [← zX] at hrl
  have hwl : wL items ≤ 20000 := by rw [wV] at hw; omega
  rw [X5, hHi] at hbs; rw [← hH]
  obtain ⟨s, hS⟩ : ∃ s, s = XG H (Kt items k 0 ins 0) [] [] := ⟨_, rfl⟩
  obtain ⟨o1, o2, o3⟩ := Jtj (l := Kt items k 0 ins 0) (by rw [X5]; exact hHi) hsz hS (by omega)
  rw [X5] at o2 o3; rw [← hS]
  have hmany : JT k n ins s = (items.length, 0) := by
    unfold JT
    by_cases h7 : k = 7
    · rw [if_pos h7, (q3 h7).1]
    · rw [if_neg h7]
      by_cases h3 : k = 3
      · have := g6 h3
        rw [if_pos h3, show n.toNat = items.length by omega]
      · rw [if_neg h3]
        have h4 : k = 4 := by omega
        subst h4
        obtain ⟨w1, w2, w3, w4⟩ := q1 (.inr rfl)
        have hsm : ∀ i, i < items.length → JC 4 0 ins i = JC 4 0 ins 0 := fun i _ => rfl
        have hbe := qG items.length hsm
        rw [hHi] at hbe
        cases items with
        | nil =>
          rw [Kt, XG] at hS; rw [if_pos (by rw [hS]; rfl)]; rfl
        | cons x xs =>
          obtain ⟨_, r1, r2, r3⟩ := hrow h8 0 x rfl
          have hbT := jY (JC 4 0 ins 0)
          have hpos : 0 < H := by
            have : (1 : Int) * V1 (JC 4 0 ins 0) ≤ ((x :: xs).length : Int) * V1 (JC 4 0 ins 0) := Int.mul_le_mul_of_nonneg_right (by rw [List.length_cons]; omega) (by omega)
            omega
          rw [if_neg (by intro e; rw [e] at o1; simp at o1; omega)]
          by_cases hfx : JB (JC 4 0 ins 0) = true
          · have hall : ∀ q ∈ Kt (x :: xs) 4 0 ins 0, JB q.1 = true := fun q hq => by
              obtain ⟨j, y, e1, rfl⟩ := qd hq
              exact hfx
            rw [YK hall] at o1; rw [V1, if_pos hfx] at hbe hbT
            obtain ⟨z, hz⟩ : ∃ z, z = (JQ (JC 4 0 ins 0)).toNat := ⟨_, rfl⟩
            have hzi : JQ (JC 4 0 ins 0) = (z : Int) := by omega
            rw [hzi] at hbe
            have hHe : H = (x :: xs).length * z := by exact_mod_cast hbe
            have hdv : s.length / z = (x :: xs).length := by rw [o1, Nat.add_zero, hHe]; exact Nat.mul_div_cancel _ (by omega)
            rw [if_pos hfx, ← hz, if_neg (by rw [o1, Nat.add_zero, hHe, Nat.mul_mod_left]; simp), hdv, if_neg (by omega)]
          · rw [V1, if_neg hfx] at hbe
            have htk : s.take 4 = YV H 4 := by
              rw [hS, ZN, List.nil_append, List.nil_append, List.length_nil, Kt, KN, if_neg hfx, Nat.add_zero, Jor (by omega), List.append_assoc, List.take_left' (Qv _ _)]
            have hlv : Wq (s.take 4) = H := by rw [htk]; exact xO 4 _ (by simp; omega)
            rw [if_neg hfx, hlv, if_neg (by omega), if_neg (by omega), show H / 4 = (x :: xs).length by omega]
  unfold ze
  rw [hmany]; simp only [ne_eq, not_true_eq_false, if_false]; rw [hHi, if_neg (by omega), Int.toNat_natCast, o2]
  simp only
  rw [o3]
  have hrun : Vs (((List.range items.length).map fun i => (YJ ins).getD (VX k 0 i) g0).zip ((Kt items k 0 ins 0).map Prod.snd)) = (Xe items, 0) := by
    refine Jid (by rw [List.length_zip, List.length_map, List.length_map, List.length_range, Jcw, QZ, List.length_map]; omega) fun i f s v h1 h2 => ?_; rw [QZ, List.getElem?_map] at h2
    obtain ⟨x, hx, rfl⟩ := Option.map_eq_some_iff.1 h2
    obtain ⟨r0, r1, r2, r3⟩ := hrow h8 i x hx
    have hlt := (List.getElem?_eq_some_iff.1 hx).1
    rw [List.getElem?_zip_eq_some] at h1; simp only at h1
    obtain ⟨h3, h4⟩ := h1
    rw [List.getElem?_map, List.getElem?_range hlt, Option.map_some, ZO r0] at h3; rw [List.getElem?_map, Jcx hx, Option.map_some, Nat.zero_add] at h4
    cases h3; cases h4
    exact ih x (List.mem_of_getElem? hx) _ r2 r3 (Nat.le_trans (ym (List.mem_of_getElem? hx)) hw)
  rw [hrun]; simp only [ne_eq, not_true_eq_false, if_false]
  rfl
theorem Jii (k pick : Int) (ins : List Ty) : ∀ (l : List Vl), (∀ x ∈ l, ∀ t, QM (VH x) t = QM x t) → ∀ i : Nat, Kt (Xe l) k pick ins i = Kt l k pick ins i
  | [], _, i => by rw [Xe]
  | x :: xs, h, i => by rw [Xe, Kt, Kt, h x List.mem_cons_self, Jii k pick ins xs (fun y hy => h y (List.mem_cons_of_mem _ hy))]
theorem Jgf (v : Vl) : ∀ t, QM (VH v) t = QM v t := by
  induction v using Vl.ind with
  | h a b c d bits pb items pi pick ih =>
  intro t
  obtain ⟨k, n, p, ins⟩ := t
  rw [KE, QG, QG, Jii k pick ins items ih]
theorem Jd6 (k pick : Int) (ins : List Ty) : ∀ (l : List Vl), (∀ x ∈ l, ∀ t, KB (VH x) t = KB x t) → ∀ i : Nat, Kh (Xe l) k pick ins i = Kh l k pick ins i
  | [], _, i => by rw [Xe]
  | x :: xs, h, i => by rw [Xe, Kh, Kh, h x List.mem_cons_self, Jd6 k pick ins xs (fun y hy => h y (List.mem_cons_of_mem _ hy))]
theorem Jtl (x : Ty) (l : List Vl) : Xj (Xe l) x = Xj l x := by
  unfold Xj
  rw [QZ, List.map_map]
  congr 1
  exact List.map_congr_left fun v _ => Jgf v x
theorem Jtm (v : Vl) : ∀ t, KB (VH v) t = KB v t := by
  induction v using Vl.ind with
  | h a b c d bits pb items pi pick ih =>
  intro t
  obtain ⟨k, n, p, ins⟩ := t
  have hl : (Xe items).length = items.length := by rw [QZ, List.length_map]
  rw [KE, WT, WT, Jd6 k pick ins items ih, hl]
  unfold Xa
  rw [Jtl]
theorem Jd7 : ∀ {l : List (Gf × List UInt8)} {vs : List Vl}, Vs l = (vs, 0) → vs.length = l.length ∧ ∀ (i : Nat) f s v, l[i]? = some (f, s) → vs[i]? = some v → f s = (v, 0)
  | [], vs, h => by
    rw [Vs] at h
    obtain rfl := (Prod.mk.inj h).1
    exact ⟨rfl, fun i f s v h1 => by simp at h1⟩
  | (f, s) :: l, vs, h => by
    rw [Vs] at h
    by_cases h1 : (f s).2 ≠ 0
    · rw [if_pos h1] at h; exact absurd (Prod.mk.inj h).2 h1
    rw [if_neg h1] at h
    by_cases h2 : (Vs l).2 ≠ 0
    · rw [if_pos h2] at h; exact absurd (Prod.mk.inj h).2 h2
    rw [if_neg h2] at h
    have h3 := (Prod.mk.inj h).1
    subst h3
    have h4 : Vs l = ((Vs l).1, 0) := by rw [← Decidable.not_not.1 h2]
    obtain ⟨i1, i2⟩ := Jd7 h4
    refine ⟨by rw [List.length_cons, List.length_cons, i1], fun i f' s' v' hl hv => ?_⟩
    cases i with
    | zero =>
      cases hl; cases hv
      rw [← Decidable.not_not.1 h1]
    | succ i => exact i2 i f' s' v' hl hv
theorem zY : ∀ {l : List Vl} {k pick : Int} {ins : List Ty} {i : Nat}, (∀ (j : Nat) x, l[j]? = some x → JW x (JC k pick ins (i + j)) = 0) → Qt l k pick ins i = 0
  | [], _, _, _, _, _ => by rw [Qt]
  | x :: xs, k, pick, ins, i, h => by
    have h0 := h 0 x rfl
    rw [Nat.add_zero] at h0; rw [Qt, if_pos h0]; exact zY fun j y hy => by rw [show i + 1 + j = i + (j + 1) by omega]; exact h (j + 1) y (by simpa using hy)
theorem Jou : ∀ {l : List Vl}, (∀ x ∈ l, VH x = x) → Xe l = l
  | [], _ => by rw [Xe]
  | x :: xs, h => by rw [Xe, h x List.mem_cons_self, Jou fun y hy => h y (List.mem_cons_of_mem _ hy)]
theorem Jd8 {k : Int} {ins : List Ty} : ∀ {vs : List Vl} {ps : List (List UInt8)} {i : Nat}, vs.length = ps.length → (∀ (j : Nat) x s, vs[j]? = some x → ps[j]? = some s → QM x (JC k 0 ins (i + j)) = s) → Kt vs k 0 ins i = ((List.range' i vs.length).map fun j => JC k 0 ins j).zip ps
  | [], _, _, _, _ => by rw [Kt]; rfl
  | x :: xs, [], _, h, _ => by simp at h
  | x :: xs, s :: ps, i, h, hg => by
    have h0 := hg 0 x s rfl rfl
    rw [Nat.add_zero] at h0
    rw [Kt, h0, List.length_cons, List.range'_succ, List.map_cons, List.zip_cons_cons, Jd8 (vs := xs) (ps := ps) (i := i + 1) (by simpa using h) fun j y t hy ht => by
      rw [show i + 1 + j = i + (j + 1) by omega]; exact hg (j + 1) y t (by simpa using hy) (by simpa using ht)]
theorem Jwx (k : Int) (ins : List Ty) (m : Nat) : ((List.range' 0 m).map fun j => JC k 0 ins j) = Kq k ins m := by
  unfold Kq; rw [List.range_eq_range']
theorem Jij : ∀ {l : List (Ty × List UInt8)}, Xc l → (YY l : Int) ≤ JU (l.map Prod.fst) + Xd l + 4 * l.length
  | [], _ => by rw [YY, Xd, List.map_nil, JU]; simp
  | (x, s) :: l, h => by
    have h1 := Jij (l := l) fun p hp => h p (List.mem_cons_of_mem _ hp)
    have h2 := h _ List.mem_cons_self
    simp only at h2; rw [YY, Xd, List.map_cons, JU, V1, List.length_cons]
    simp only
    split
    · rename_i h3
      have := h2 h3
      omega
    · omega
theorem Jov {A H : Nat} : ∀ {l : List (Ty × List UInt8)} {vs : List Vl} {n : Nat}, vs.length = l.length → Xc l → (∀ p ∈ l, JB p.1 = true → 1 ≤ JQ p.1) → (∀ (j : Nat) p v, l[j]? = some p → vs[j]? = some v → wV v ≤ A * p.2.length + 1) → H + n + YY l < 4294967296 → wL vs ≤ (A + 1) * ((KN H l n).length + Xd l)
  | [], [], _, _, _, _, _, _ => by rw [wL]; exact Nat.zero_le _
  | [], _ :: _, _, h, _, _, _, _ => by simp at h
  | _ :: _, [], _, h, _, _, _, _ => by simp at h
  | (x, s) :: l, v :: vs, n, h, hs, hz, hg, hb => by
    rw [YY] at hb; simp only at hb
    have g0 := hg 0 (x, s) v rfl rfl
    simp only at g0
    have hs2 : Xc l := fun p hp => hs p (List.mem_cons_of_mem _ hp)
    have hz2 : ∀ p ∈ l, JB p.1 = true → 1 ≤ JQ p.1 := fun p hp => hz p (List.mem_cons_of_mem _ hp)
    have hg2 : ∀ (j : Nat) p u, l[j]? = some p → vs[j]? = some u → wV u ≤ A * p.2.length + 1 := fun j p u hp hu => hg (j + 1) p u (by simpa using hp) (by simpa using hu)
    rw [wL, KN, Xd]
    by_cases hf : JB x = true
    · have ih := Jov (A := A) (H := H) (l := l) (vs := vs) (n := n) (by simpa using h) hs2 hz2 hg2 (by omega)
      have h1 := hs _ List.mem_cons_self hf
      have h2 := hz _ List.mem_cons_self hf
      simp only at h1 h2; rw [if_pos hf, if_pos hf, List.length_append, Nat.add_assoc, Nat.mul_add]
      have h3 : 1 ≤ s.length := by omega
      rw [Nat.add_mul, Nat.one_mul]; omega
    · have ih := Jov (A := A) (H := H) (l := l) (vs := vs) (n := n + s.length) (by simpa using h) hs2 hz2 hg2 (by omega)
      rw [if_neg hf, if_neg hf, List.length_append, zT (by omega)]
      have e : 4 + (KN H l (n + s.length)).length + (s.length + Xd l) = ((KN H l (n + s.length)).length + Xd l) + (s.length + 4) := by omega
      rw [e, Nat.mul_add, Nat.mul_add (A + 1) s.length 4, Nat.add_mul A 1 s.length, Nat.one_mul]; omega
theorem zZ {s : List UInt8} : ∀ {N i : Nat}, i < N → Qw s i = true → Wo s N < N ∧ i ≤ Wo s N ∧ Qw s (Wo s N) = true ∧ ∀ j, Wo s N < j → j < N → Qw s j = false
  | 0, _, h, _ => by omega
  | N + 1, i, h, hb => by
    rw [Wo]
    by_cases e : Qw s N = true
    · rw [if_pos e]
      exact ⟨Nat.lt_succ_self _, by omega, e, fun j h1 h2 => by omega⟩
    · rw [if_neg e]
      have hi : i ≠ N := fun h => e (h ▸ hb)
      obtain ⟨h1, h2, h3, h4⟩ := zZ (N := N) (i := i) (by omega) hb
      refine ⟨by omega, h2, h3, fun j h5 h6 => ?_⟩
      by_cases hj : j = N
      · subst hj; simpa using e
      · exact h4 j h5 (by omega)
theorem Ja3 {s : List UInt8} (hx : ¬ (s.getLast? = none ∨ s.getLast? = some 0)) : s.length = (Wo s (8 * s.length) + 8) / 8 ∧ Qw s (Wo s (8 * s.length)) = true ∧ ∀ i, Wo s (8 * s.length) < i → i < 8 * s.length → Qw s i = false := by
  have hne : s ≠ [] := fun e => hx (.inl (by rw [e]; rfl))
  have hpos : 0 < s.length := List.length_pos_iff.2 hne
  obtain ⟨x, hl⟩ : ∃ x, s.getLast? = some x := by
    cases h : s.getLast? with
    | none => exact absurd (.inl h) hx
    | some x => exact ⟨x, rfl⟩
  have h0 : x ≠ 0 := fun e => hx (.inr (by rw [hl, e]))
  have hg : s.getD (s.length - 1) 0 = x := by
    rw [List.getLast?_eq_getElem?] at hl; rw [List.getD_eq_getElem?_getD, hl]; rfl
  have hj : ∃ j, j < 8 ∧ x.toNat.testBit j = true := by
    refine Decidable.byContradiction fun hn => h0 (Jhp fun j hj => ?_)
    have : ¬ x.toNat.testBit j = true := fun h => hn ⟨j, hj, h⟩
    rw [Bool.not_eq_true] at this; rw [this]; simp
  obtain ⟨j, hj, hb⟩ := hj
  have hbit : Qw s (8 * (s.length - 1) + j) = true := by
    unfold Qw
    rw [show (8 * (s.length - 1) + j) / 8 = s.length - 1 by omega, show (8 * (s.length - 1) + j) % 8 = j by omega, hg]; exact hb
  obtain ⟨h1, h2, h3, h4⟩ := zZ (N := 8 * s.length) (by omega) hbit
  exact ⟨by omega, h3, h4⟩
theorem qH {s : List UInt8} : ∀ {ts : List Ty} {at_ : Nat} {os : List Nat} {q : List UInt8}, q ∈ Vj s ts at_ os → q.length ≤ s.length
  | [], _, _, _, h => by rw [Vj] at h; cases h
  | x :: xs, at_, os, q, h => by
    rw [Vj] at h
    split at h
    · rcases List.mem_cons.1 h with rfl | h
      · rw [List.length_take, List.length_drop]; omega
      · exact qH h
    · rcases List.mem_cons.1 h with rfl | h
      · rw [List.length_drop, List.length_take]; omega
      · exact qH h
theorem chkL_mem : ∀ {ins : List Ty} {d : Int}, XW ins d = 0 → ∀ x ∈ ins, V0 x d = 0
  | [], _, _, x, hx => by cases hx
  | y :: ys, d, h, x, hx => by
    rw [XW] at h
    by_cases h1 : V0 y d = 0
    · rw [if_pos h1] at h
      rcases List.mem_cons.1 hx with rfl | hx
      · exact h1
      · exact chkL_mem h x hx
    · rw [if_neg h1] at h; exact absurd h h1
theorem qe {k n : Int} {ins : List Ty} {s : List UInt8} (hk : 1 ≤ k ∧ k ≤ 8) (ho : Kf k n ins.length = true) (h3 : k = 3 ∨ k = 4 ∨ k = 7) (h : (JT k n ins s).2 = 0) :
    (JT k n ins s).1 ≤ 512 ∧ (k = 3 → ((JT k n ins s).1 : Int) = n) ∧ (k = 7 → (JT k n ins s).1 = ins.length) ∧ (k = 4 → ((JT k n ins s).1 : Int) ≤ n) := by
  unfold Kf at ho
  unfold JT at h ⊢
  rcases h3 with rfl | rfl | rfl
  · simp at ho ⊢; omega
  · simp only [show ¬ ((4 : Int) = 7) by decide, show ¬ ((4 : Int) = 3) by decide, if_false] at h ⊢
    simp at ho
    split at h
    · rename_i h1; rw [if_pos h1]; simp; omega
    · rename_i h1
      rw [if_neg h1]
      split at h
      · rename_i h2
        rw [if_pos h2]
        split at h
        · simp at h
        · rename_i h4
          rw [if_neg h4]
          split at h
          · simp at h
          · rename_i h5
            rw [if_neg h5]
            simp only
            refine ⟨?_, fun e => absurd e (by decide), fun e => absurd e (by decide), fun _ => ?_⟩
            · revert h5; generalize s.length / (JQ (JC 4 0 ins 0)).toNat = q; intro h5; omega
            · revert h5; generalize s.length / (JQ (JC 4 0 ins 0)).toNat = q; intro h5; omega
      · rename_i h2
        rw [if_neg h2]
        split at h
        · simp at h
        · rename_i h4
          rw [if_neg h4]
          split at h
          · simp at h
          · rename_i h5
            rw [if_neg h5]
            simp only
            refine ⟨?_, fun e => absurd e (by decide), fun e => absurd e (by decide), fun _ => ?_⟩
            · revert h5; generalize Wq (s.take 4) / 4 = q; intro h5; omega
            · revert h5; generalize Wq (s.take 4) / 4 = q; intro h5; omega
  · simp at ho ⊢; omega
theorem qf {k n : Int} {ins : List Ty} {s : List UInt8} (hk : 1 ≤ k ∧ k ≤ 8) (ho : Kf k n ins.length = true) (h3 : k = 3 ∨ k = 4 ∨ k = 7) (h : (JT k n ins s).2 = 0) : ∀ i, i < (JT k n ins s).1 → VX k 0 i < ins.length := by
  intro i hi
  obtain ⟨_, _, h7, _⟩ := qe hk ho h3 h
  unfold Kf at ho
  unfold VX
  rcases h3 with rfl | rfl | rfl
  · simp at ho ⊢; omega
  · simp at ho ⊢; omega
  · have := h7 rfl
    simp; omega
theorem Jik (t : Ty) : ∀ (d : Nat), V0 t (d : Int) = 0 → ∀ (s : List UInt8) (v : Vl), s.length ≤ 100000 → KH t s = (v, 0) → JW v t = 0 ∧ QM v t = s ∧ VH v = v ∧ wV v ≤ (7 - d) * s.length + 1 := by
  induction t using Ty.ind with
  | h k n p ins ih =>
  intro d hcd s v hlen hget
  have hc : V0 (.mk k n p ins) 0 = 0 := yr hcd
  obtain ⟨hk8, ho, hd6, hsubd⟩ := Qy hcd
  have hsub := VY hc
  rw [KH] at hget
  unfold ZX at hget
  by_cases hfx : JB (.mk k n p ins) = true ∧ (s.length : Int) ≠ JQ (.mk k n p ins)
  · rw [if_pos hfx] at hget; simp at hget
  rw [if_neg hfx] at hget
  have hsz : JB (.mk k n p ins) = true → (s.length : Int) = JQ (.mk k n p ins) := fun h => Decidable.byContradiction fun h2 => hfx ⟨h, h2⟩
  have hplain : k = 1 ∨ k = 2 ∨ k = 5 → (s.length : Int) = JQ (.mk k n p ins) := fun h => hsz (by
    rw [Jos hc, Wr]
    unfold Kf at ho
    have hi : ins = [] := by
      rcases h with rfl | rfl | rfl <;> simp at ho <;> first | exact ho.1 | exact ho.1.1
    subst hi; rw [jh]
    rcases h with rfl | rfl | rfl <;> rfl)
  rw [JQ] at hplain
  by_cases h1 : k = 1
  · subst h1
    rw [if_pos rfl] at hget
    obtain rfl := (Prod.mk.inj hget).1
    have hs1 := hplain (.inl rfl)
    rw [if_pos rfl] at hs1
    unfold Kf at ho
    simp at ho
    have hn : s.length ≤ 32 := by omega
    obtain ⟨a, b, c, e, hnum⟩ : ∃ a b c e, Xi s = [a, b, c, e] := by
      have := (Jag s).1
      match hq : Xi s, this with
      | [a, b, c, e], _ => exact ⟨a, b, c, e, rfl⟩
    have hle := Jwl hn
    rw [hnum] at hle
    unfold vn
    rw [hnum]; simp only [List.getD_cons_zero, List.getD_cons_succ]; refine ⟨?_, ?_, ?_, ?_⟩
    · refine (W8 (by omega) ?_).trans (by rw [Qt])
      rw [KY 1 n ins.length a b c e [] none [] none 0 _ rfl, if_pos rfl, KK]
      have hb : (Qp [a, b, c, e]).length ≤ s.length := by
        have hz := fun t h3 h4 => Jnh hn (t := t) h3 h4
        rw [hnum] at hz; exact (jK _ 32 _).2 hz
      simp; omega
    · rw [QG, if_pos rfl, show n.toNat = s.length by omega, hle]
    · rw [KE, Xe]
    · rw [wV, wL]; simp
  by_cases h2 : k = 2
  · subst h2
    rw [if_neg h1, if_pos rfl] at hget
    have hs1 := hplain (.inr (.inl rfl))
    rw [if_neg h1, if_pos rfl] at hs1
    match s, hs1 with
    | [x], _ =>
    by_cases hx : 1 < x.toNat
    · rw [if_pos (by simpa using hx)] at hget; simp at hget
    rw [if_neg (by simpa using hx)] at hget
    obtain rfl := (Prod.mk.inj hget).1
    have hx2 : x = 0 ∨ x = 1 := by
      have : x.toNat = 0 ∨ x.toNat = 1 := by omega
      rcases this with h | h
      · exact .inl (by rw [← UInt8.toNat_inj]; exact h)
      · exact .inr (by rw [← UInt8.toNat_inj]; exact h)
    have hi : ins = [] := by unfold Kf at ho; simp at ho; exact ho.1
    subst hi
    rcases hx2 with rfl | rfl
    · have e : vn (Xi [0]) = .mk 0 0 0 0 [] none [] none 0 := by rw [show Xi [0] = [0, 0, 0, 0] by decide +kernel]; rfl
      rw [e]; refine ⟨(W8 (by omega) (by rw [KY 2 n _ 0 0 0 0 [] none [] none 0 _ rfl]; rfl)).trans (by rw [Qt]), by rw [QG, if_neg (by decide), if_pos rfl]; decide +kernel, by rw [KE, Xe], by rw [wV, wL]; simp⟩
    · have e : vn (Xi [1]) = .mk 1 0 0 0 [] none [] none 0 := by rw [show Xi [1] = [1, 0, 0, 0] by decide +kernel]; rfl
      rw [e]; refine ⟨(W8 (by omega) (by rw [KY 2 n _ 1 0 0 0 [] none [] none 0 _ rfl]; rfl)).trans (by rw [Qt]), by rw [QG, if_neg (by decide), if_pos rfl]; decide +kernel, by rw [KE, Xe], by rw [wV, wL]; simp⟩
  rw [if_neg h1, if_neg h2] at hget; rw [if_neg h1, if_neg h2] at hplain
  by_cases h5 : k = 5
  · subst h5
    rw [if_pos rfl] at hget
    have hs1 := hplain (.inr (.inr rfl))
    rw [if_pos rfl] at hs1
    by_cases hx : ((JH s (8 * s.length)).drop n.toNat).any id = true
    · rw [if_pos hx] at hget; simp at hget
    rw [if_neg hx] at hget
    obtain rfl := (Prod.mk.inj hget).1
    unfold Kf at ho
    simp at ho
    have hl : s.length = (n.toNat + 7) / 8 := by omega
    have hz : ∀ i, n.toNat ≤ i → i < 8 * s.length → Qw s i = false := fun i h3 h4 => by
      rw [Bool.not_eq_true, List.any_eq_false] at hx
      have := hx (Qw s i) (List.mem_iff_getElem?.2 ⟨i - n.toNat, by rw [List.getElem?_drop, show n.toNat + (i - n.toNat) = i by omega, Qr s h4]⟩)
      simpa using this
    unfold Zo
    refine ⟨(W8 (by omega) ?_).trans (by rw [Qt]), ?_, by rw [KE, Xe], ?_⟩
    · rw [KY 5 n _ 0 0 0 0 _ none [] none 0 _ rfl, if_neg h1, if_neg h2, if_neg (by decide), if_neg (by decide), if_pos rfl, KK, JZ]
      simp; omega
    · rw [QG, if_neg h1, if_neg h2, if_pos rfl, ve hl hz]
    · rw [wV, wL, JZ]
      have : 1 * s.length ≤ (7 - d) * s.length := Nat.mul_le_mul_right _ (by omega)
      omega
  rw [if_neg h5] at hget
  by_cases h6 : k = 6
  · subst h6
    rw [if_pos rfl] at hget
    by_cases hx : s.getLast? = none ∨ s.getLast? = some 0
    · rw [if_pos hx] at hget; simp at hget
    rw [if_neg hx] at hget
    by_cases hn : n < (Wo s (8 * s.length) : Int)
    · rw [if_pos hn] at hget; simp at hget
    rw [if_neg hn] at hget
    obtain rfl := (Prod.mk.inj hget).1
    obtain ⟨L, hL⟩ : ∃ L, L = Wo s (8 * s.length) := ⟨_, rfl⟩
    obtain ⟨q1, q2, q3⟩ := Ja3 hx
    rw [← hL] at hn q1 q2 q3 ⊢
    unfold Zo
    refine ⟨(W8 (by rw [JZ]; omega) ?_).trans (by rw [Qt]), ?_, by rw [KE, Xe], ?_⟩
    · rw [KY 6 n _ 0 0 0 0 _ none [] none 0 _ rfl]; rfl
    · rw [QG, if_neg h1, if_neg h2, if_neg h5, if_pos rfl]
      have e : JH s L ++ [true] = JH s (L + 1) := by
        apply List.ext_getElem?
        intro i
        by_cases hi : i < L
        · rw [List.getElem?_append_left (by rw [JZ]; exact hi), Qr s hi, Qr s (by omega)]
        · by_cases hi2 : i = L
          · subst hi2
            rw [List.getElem?_append_right (by rw [JZ]; exact Nat.le_refl _), JZ, Nat.sub_self, Qr s (Nat.lt_succ_self _), q2]; rfl
          · rw [List.getElem?_eq_none (by rw [List.length_append, JZ]; simp; omega), List.getElem?_eq_none (by rw [JZ]; omega)]
      rw [e]; exact ve (by omega) fun i h3 h4 => q3 i (by omega) h4
    · rw [wV, wL, JZ]
      have : 1 * s.length ≤ (7 - d) * s.length := Nat.mul_le_mul_right _ (by omega)
      omega
  rw [if_neg h6] at hget
  by_cases h8 : k = 8
  · subst h8
    rw [if_pos rfl] at hget
    cases s with
    | nil => simp at hget
    | cons b r =>
    simp only at hget
    by_cases hb : ins.length ≤ b.toNat
    · rw [if_pos hb] at hget; simp at hget
    rw [if_neg hb] at hget
    by_cases hg : ((YJ ins).getD b.toNat g0 r).2 ≠ 0
    · rw [if_pos hg] at hget; exact absurd (Prod.mk.inj hget).2 hg
    rw [if_neg hg] at hget
    obtain rfl := (Prod.mk.inj hget).1
    obtain ⟨x, hx⟩ : ∃ x, ins[b.toNat]? = some x := ⟨_, List.getElem?_eq_getElem (by omega)⟩
    have hxm := List.mem_of_getElem? hx
    rw [ZO hx] at hg ⊢
    obtain ⟨y, hy⟩ : ∃ y, y = (KH x r).1 := ⟨_, rfl⟩
    have hgx : KH x r = (y, 0) := by rw [hy, ← Decidable.not_not.1 hg]
    rw [← hy]
    obtain ⟨i1, i2, i3, i4⟩ := ih x hxm (d + 1) (by have := hsubd x hxm; simpa using this) r y (by simp at hlen; omega) hgx
    have hin : JC 8 (b.toNat : Int) ins 0 = x := by
      unfold JC VX
      rw [if_neg (by decide), if_pos rfl, Int.toNat_natCast, List.getD_eq_getElem?_getD, hx]; rfl
    unfold Kf at ho
    simp at ho
    unfold JX
    refine ⟨(W8 (by omega) ?_).trans ?_, ?_, ?_, ?_⟩
    · rw [KY 8 n _ 0 0 0 0 [] none [y] none b.toNat _ rfl, if_neg h1, if_neg h2, if_neg (by decide), if_neg (by decide), if_neg h5, if_neg h6, if_neg (by decide), KK]
      simp; omega
    · rw [Qt, hin, if_pos i1, Qt]
    · rw [QG, if_neg h1, if_neg h2, if_neg h5, if_neg h6, if_pos rfl, Kt, hin, i2]
      simp only [List.headD_cons, Int.toNat_natCast]; rw [show UInt8.ofNat b.toNat = b from by rw [← UInt8.toNat_inj, UInt8.toNat_ofNat']; exact Nat.mod_eq_of_lt (UInt8.toNat_lt b)]
    · rw [KE, Xe, Xe, i3]
    · rw [wV, wL, wL, List.length_cons]
      have e : (7 - d) * (r.length + 1) = (7 - (d + 1)) * r.length + r.length + (7 - d) := by
        rw [Nat.mul_add, Nat.mul_one]
        congr 1
        have : 7 - d = (7 - (d + 1)) + 1 := by omega
        rw [this, Nat.add_mul, Nat.one_mul]
      simp only [List.length_nil, Nat.zero_div]; omega
  rw [if_neg h8] at hget
  have h3 : k = 3 ∨ k = 4 ∨ k = 7 := by omega
  unfold ze at hget
  by_cases hm : (JT k n ins s).2 ≠ 0
  · rw [if_pos hm] at hget; exact absurd (Prod.mk.inj hget).2 hm
  rw [if_neg hm] at hget
  have hm0 := Decidable.not_not.1 hm
  obtain ⟨m1, m2, m3, m4⟩ := qe hk8 ho h3 hm0
  have hX := qf hk8 ho h3 hm0
  generalize hM : (JT k n ins s).1 = M at *
  by_cases hbg : (s.length : Int) < JU (Kq k ins M)
  · rw [if_pos hbg] at hget; simp at hget
  rw [if_neg hbg] at hget
  have hbl := ZK (Kq k ins M)
  obtain ⟨H, hH⟩ : ∃ H, H = (JU (Kq k ins M)).toNat := ⟨_, rfl⟩
  have hHi : JU (Kq k ins M) = (H : Int) := by omega
  rw [← hH] at hget
  cases hos : Qu s H (Kq k ins M) 0 H false with
  | none => rw [hos] at hget; simp at hget
  | some os =>
  rw [hos] at hget; simp only at hget
  have hty : ∀ i, i < M → ins[VX k 0 i]? = some (JC k 0 ins i) ∧ JC k 0 ins i ∈ ins := fun i hi => Qi (hX i hi)
  have htys : ∀ x ∈ Kq k ins M, x ∈ ins := fun x hx => by
    unfold Kq at hx
    obtain ⟨i, hi, rfl⟩ := List.mem_map.1 hx
    exact (hty i (List.mem_range.1 hi)).2
  generalize hps : Vj s (Kq k ins M) 0 os = ps at *
  obtain ⟨o, r, rfl, o1, o2, o3⟩ := vZ hos (by omega) (fun _ => rfl)
  have ho3 := (o3 rfl).symm
  subst ho3
  have hg := Ja2 (by omega) (by omega) hos (by omega) (Nat.le_refl _) (fun _ => rfl) (fun x _ hx => by have := qc hx; omega) (by omega) H r rfl
  rw [hps, Nat.sub_self, List.drop_zero] at hg
  obtain ⟨f1, f2, f3, f4⟩ := hg
  rw [WS] at f4
  by_cases hr : (Vs (((List.range M).map fun i => (YJ ins).getD (VX k 0 i) g0).zip ps)).2 ≠ 0
  · rw [if_pos hr] at hget; exact absurd (Prod.mk.inj hget).2 hr
  rw [if_neg hr] at hget
  obtain ⟨vs, hvs⟩ : ∃ vs, vs = (Vs (((List.range M).map fun i => (YJ ins).getD (VX k 0 i) g0).zip ps)).1 := ⟨_, rfl⟩
  have hrun : Vs (((List.range M).map fun i => (YJ ins).getD (VX k 0 i) g0).zip ps) = (vs, 0) := by rw [hvs]; exact Prod.ext rfl (Decidable.not_not.1 hr)
  rw [← hvs] at hget
  obtain rfl := (Prod.mk.inj hget).1
  obtain ⟨r1, r2⟩ := Jd7 hrun
  have hvl : vs.length = M := by rw [r1, List.length_zip, List.length_map, List.length_range, f4, Nat.min_self]
  have hall : ∀ (j : Nat) x q, vs[j]? = some x → ps[j]? = some q → JW x (JC k 0 ins j) = 0 ∧ QM x (JC k 0 ins j) = q ∧ VH x = x ∧ wV x ≤ (7 - (d + 1)) * q.length + 1 := fun j x q hx hq => by
    have hj : j < M := by rw [← hvl]; exact (List.getElem?_eq_some_iff.1 hx).1
    obtain ⟨e1, e2⟩ := hty j hj
    have hql : q.length ≤ 100000 := by
      have hqm := List.mem_of_getElem? hq
      rw [← hps] at hqm
      have := qH hqm
      omega
    refine ih _ e2 (d + 1) (by have := hsubd _ e2; simpa using this) q x hql ?_; refine r2 j _ q x ?_ hx; rw [List.getElem?_zip_eq_some]; exact ⟨by rw [List.getElem?_map, List.getElem?_range hj, Option.map_some, ZO e1], hq⟩
  have hpl : Kt vs k 0 ins 0 = (Kq k ins M).zip ps := by
    rw [Jd8 (ps := ps) (by rw [hvl, f4]) fun j x q hx hq => by rw [Nat.zero_add]; exact (hall j x q hx hq).2.1, hvl, Jwx]
  have hzl : ((Kq k ins M).zip ps).length = M := by rw [List.length_zip, WS, f4, Nat.min_self]
  have hfst : ((Kq k ins M).zip ps).map Prod.fst = Kq k ins M := by
    rw [List.map_fst_zip]; rw [WS, f4]; exact Nat.le_refl _
  have htl := congrArg List.length f2
  rw [Yr, List.length_drop] at htl
  have hfl := congrArg List.length f1
  rw [List.length_take, Nat.min_eq_left (by omega)] at hfl
  have hsb := Jij f3
  rw [hfst, hHi, hzl] at hsb
  have hitem : ∀ (j : Nat) x, vs[j]? = some x → ∃ q, ps[j]? = some q := fun j x hx => by
    have hj : j < M := by rw [← hvl]; exact (List.getElem?_eq_some_iff.1 hx).1
    exact ⟨_, List.getElem?_eq_getElem (by omega)⟩
  unfold JX
  refine ⟨(W8 ?_ ?_).trans ?_, ?_, ?_, ?_⟩
  · rw [hvl]
    rintro (⟨e1, e2⟩ | ⟨e1, _⟩)
    · have := m4 e1; omega
    · omega
  · rw [KY k n _ 0 0 0 0 [] none vs none 0 _ rfl, KK, KK, KK, KK, hvl]
    rcases h3 with rfl | rfl | rfl
    · have := m2 rfl; simp; omega
    · simp
    · have := m3 rfl; simp; omega
  · exact zY fun j x hx => by
      obtain ⟨q, hq⟩ := hitem j x hx
      rw [Nat.zero_add]; exact (hall j x q hx hq).1
  · rw [QG, if_neg h1, if_neg h2, if_neg h5, if_neg h6, if_neg h8, jZ h8, X5, hvl, ← hH, hpl, ZN, List.nil_append, List.nil_append, List.length_nil, f1, f2, List.take_append_drop]
  · rw [KE, Jou fun x hx => by
      obtain ⟨j, hj⟩ := List.getElem?_of_mem hx
      obtain ⟨q, hq⟩ := hitem j x hj
      exact (hall j x q hj hq).2.2.1]
  · have hw := Jov (A := 7 - (d + 1)) (H := H) (l := (Kq k ins M).zip ps) (vs := vs) (n := 0) (by rw [hvl, hzl]) f3 (fun p _ hp => qc hp) (fun j p v hp hv => by
      obtain ⟨q, hq⟩ := hitem j v hv
      rw [List.getElem?_zip_eq_some] at hp
      have e : p.2 = q := by have := hp.2; rw [hq] at this; exact (Option.some.inj this).symm
      rw [e]
      exact (hall j v q hv hq).2.2.2) (by omega)
    rw [hfl, htl, show 7 - (d + 1) + 1 = 7 - d by omega, show H + (s.length - H) = s.length by omega] at hw; rw [wV]; simp only [List.length_nil, Nat.zero_div]; omega
end Go.Proofs.YteceenlfegnigaaGreatDoor
namespace Go.SL
set_option linter.all false
open Go Go.RowKit Go.Shelf
open Go.Proofs (Enters enters_of)
def yv (v : Value) : List PanicEntry := [{ v, recovered := false }]
structure PureX {α : Type} (P : Program) (f : FuncId) (args : Array Value) (ok : Prop) (bad : Value → Prop) (V : α → Value) (LL : α → Jo) (Rl : Jo) : Prop where
  run : ∀ w, vr Rl w → Calls P f args w fun e w' => (ok ∧ ∃ x, e = .returned (V x) ∧ Keep [] w w' ∧ (∀ p ∈ LL x, w.heap.size ≤ p.1 ∧ w'.heap[p.1]? = some p.2) ∧ (LL x).Pairwise fun p q => p.1 ≠ q.1) ∨ (∃ v, bad v ∧ e = .panicked (yv v) ∧ Keep [] w w')
def cxX (P : Program) (w : World) (Rl : Jo) (n : Nat) : Cx := ⟨P, none, w, [], [], Rl, n⟩
theorem St.startX {P : Program} {w : World} {n : Nat} {Rl : Jo} (hR : vr Rl w) : St (cxX P w Rl n) [] (fun _ _ => True) w :=
  ⟨Keep.refl _ _, by simp, by simp, fun p hp => ⟨by simp [cxX], by simp [cxX], hR p hp⟩, by simp [cxX], ⟨[], by simp, fun _ _ => trivial⟩⟩
def Jow {α : Type} (c : Cx) (ok : Prop) (bad : Value → Prop) (V : α → Value) (LL : α → Jo) : Ending → World → Prop := fun e w' =>
  (ok ∧ ∃ x, e = .returned (V x) ∧ St c (LL x) (fun _ _ => True) w') ∨ (∃ v, bad v ∧ e = .panicked (yv v) ∧ Keep [] c.w1 w')
theorem XS {α : Type} {P : Program} {f : FuncId} {fn : Func} {code : Code} {vs : List Value} {ok : Prop} {bad : Value → Prop} {V : α → Value} {Rl : Jo} {LL : α → Jo} (hf : P.funcs[f]? = some fn) (hb : fn.body = some code) (hlen : Nat.ble vs.length fn.ntmps = true)
    (h : ∀ w, HC (cxX P w Rl fn.ntmps) [] (Vm 0 vs) [] (fun _ _ => True) code (bodyPostM (FW none) 0 P fn (Jow (cxX P w Rl fn.ntmps) ok bad V LL))) : PureX P f vs.toArray ok bad V LL Rl := ⟨fun w hR =>
  (QH (cxX P w Rl fn.ntmps) hf hb rfl rfl rfl hlen (St.startX hR) (h w)).mono fun _ _ h => h.imp
    (fun ⟨ho, x, he, hs⟩ => ⟨ho, x, he, by have := hs.keep; simpa [cxX] using this, fun p hp => by have := (hs.own p hp); simp only [cxX, List.not_mem_nil, false_or] at this; exact ⟨this.1, this.2.2⟩, hs.distinct⟩)
    (fun ⟨v, hv, he, hk⟩ => ⟨v, hv, he, hk⟩)⟩
theorem PureX.mono {α : Type} {P : Program} {f : FuncId} {args : Array Value} {ok ok' : Prop} {bad bad' : Value → Prop} {V : α → Value} {LL : α → Jo} {Rl : Jo} (h : PureX P f args ok bad V LL Rl) (h1 : ok → ok') (h2 : ∀ v, bad v → bad' v) : PureX P f args ok' bad' V LL Rl :=
  ⟨fun w hR => (h.run w hR).mono fun _ _ h => h.imp (fun ⟨a, b⟩ => ⟨h1 a, b⟩) (fun ⟨v, a, b⟩ => ⟨v, h2 v a, b⟩)⟩
theorem PureX.map {α β : Type} {P : Program} {f : FuncId} {args : Array Value} {ok : Prop} {bad : Value → Prop} {V : α → Value} {LL : α → Jo} {V' : β → Value} {LL' : β → Jo} {Rl : Jo} (h : PureX P f args ok bad V LL Rl) (g : α → β) (hv : ∀ x, V x = V' (g x)) (hl : ∀ x, (LL' (g x)).Sublist (LL x)) : PureX P f args ok bad V' LL' Rl :=
  ⟨fun w hR => (h.run w hR).mono fun _ _ h => h.imp (fun ⟨a, x, he, hk, h1, h2⟩ => ⟨a, g x, he.trans (by rw [hv]), hk, fun p hp => h1 p ((hl x).subset hp), h2.sublist (hl x)⟩) id⟩
theorem PureX.toT {α : Type} {P : Program} {f : FuncId} {args : Array Value} {ok : Prop} {bad : Value → Prop} {V : α → Value} {LL : α → Jo} {Rl : Jo} (h : PureX P f args ok bad V LL Rl) (hb : ∀ v, ¬ bad v) : PureT P f args V [] LL Rl :=
  ⟨fun w _ hR _ _ => (h.run w hR).mono fun _ _ h => h.elim (fun ⟨_, x, he, hk, h1, h2⟩ => ⟨x, he, hk, fun p hp => ⟨.inr (h1 p hp).1, (h1 p hp).2⟩, h2⟩) (fun ⟨v, hv, _⟩ => absurd hv (hb v))⟩
section
variable {c : Cx} {l : Ko} {L : Jo} {X : XP} {Q : Exit → Act → World → Prop} {K : Act → World → Prop} {d : List Deferred}
variable {ops : Array Oper} {rest : List Oper} {i : Nat} {v : Value} {t : TypeId} {ps : String} {af : Array Edge} {gd : Option (Nat × Bool)} {ty : TypeId}
theorem KS {α : Type} {ok : Prop} {bad : Value → Prop} {Rl : Jo} {f : Operand} {args : Array Operand} {at_ : Array TypeId} {g : FuncId} {vs : List Value} {V : α → Value} {LL : α → Jo}
    (hg : Kk l ops ⟨some i, .call ⟨.value f, args, at_⟩, ty, ps, af, gd⟩ = some true) (hi : Nat.ble (i + 1) c.n = true) (hca : Ky l f args = some (g, vs)) (eg : Enters c.P g)
    (hpt : PureX c.P g vs.toArray ok bad V LL Rl) (hR : ∀ p ∈ Rl, known c L p.1 p.2) (h : ok → ∀ x, HL c d ((i, V x) :: l) (LL x ++ L) X ops rest Q) (hp : ∀ v, bad v → HQ c d l L X (Q (.panic (yv v)))) :
    HL c d l L X ops (⟨some i, .call ⟨.value f, args, at_⟩, ty, ps, af, gd⟩ :: rest) Q := fun a w hf hs => by
  refine QQ (JE hf hg) rfl ?_
  rw [VC hf hca c.P w _ rfl eg, Oper.uponIn_enter]
  refine ⟨fun hdep => (by cases hdep), ?_⟩
  have hc := callsIn_wide (n := 0) |>.2 (hpt.run w fun p hp => hs.known (hR p hp))
  refine CallsIn.mono (show CallsIn (FW c.ro) 0 c.P g vs.toArray w _ from hc) ?_
  rintro e w' (⟨ho, x, rfl, hk, h1, h2⟩ | ⟨v, hv, rfl, hk⟩)
  · exact h ho x _ w' (hf.put (Nat.le_of_ble_eq_true hi)) (hs.freshs hk h1 h2)
  · exact hp v hv a w' hf (hs.more hk)
theorem Jox {x : Operand} {dst : Option Nat} {tt : TypeId} (hg : Kk l ops ⟨dst, .panic x, ty, ps, af, gd⟩ = some true) (hx : Kg l x = some (.iface tt v)) (h : HQ c d l L X (Q (.panic (yv (.iface tt v))))) : HL c d l L X ops (⟨dst, .panic x, ty, ps, af, gd⟩ :: rest) Q := fun a w hf hs => by
  refine QQ (JE hf hg) rfl ?_
  have hrun : (execOp a.eval ⟨dst, .panic x, ty, ps, af, gd⟩).run c.P w = .halt (.panic (.iface tt v)) w := by
    have e : (Instr.panic (.iface tt v)).run c.P w = .halt (.panic (.iface tt v)) w := rfl
    simp only [execOp, hf.eval hx]
    simp [Sem.run_bind, e, Result.andThen]
  rw [hrun, Oper.uponIn_panic]
  exact h a w hf hs
theorem Joy {ch : List PanicEntry} (h : HQ c d l L X (Q (.panic ch))) : HQ c d l L X (Exit.then K Q (.panic ch)) := h
theorem Jkk {id : Nat} {ch : List PanicEntry} (h : HQ c d l L X (Q (.panic ch))) : HQ c d l L X (Exit.inBlock id Q (.panic ch)) := h
theorem Jim {fn : Func} {R : Ending → World → Prop} {P : Program} {ch : List PanicEntry} (h : ∀ w, St c L X w → R (.panicked ch) w) : HQ c [] l L X (bodyPostM (FW none) 0 P fn R (.panic ch)) := fun a w hf hs => by
  show LeavesInM _ _ _ _ _ _ _ _ _
  rw [hf.defers]
  exact h w hs
theorem Qo {α : Type} {fn : Func} {P : Program} {ok : Prop} {bad : Value → Prop} {V : α → Value} {LL : α → Jo} (hc1 : c.ids = []) (hc2 : c.xids = []) (h : bad v) : HQ c [] l L X (bodyPostM (FW none) 0 P fn (Jow c ok bad V LL) (.panic (yv v))) :=
  Jim fun w hs => .inr ⟨v, h, rfl, by have := hs.keep; rw [hc1, hc2] at this; exact this⟩
theorem Jd9 {fn : Func} {R : Ending → World → Prop} {P : Program} {ch : List PanicEntry} {D k : Nat} {L' : Jo} (hk : L[k]? = some (D, .deferred (some []))) (hL : L.set k (D, .deferred none) = L')
    (h : HQ c d l L' X (bodyPostM (FW none) 0 P fn R (.panic ch))) : HQ c (Vc D :: d) l L X (bodyPostM (FW none) 0 P fn R (.panic ch)) := fun a w hf hs => by
  subst hL
  have hget := hs.get hk
  have hs' := hs.set hk (Keep.putObj D (.deferred none)) (World.putObj_heap_same (Jx hget))
  have h1 := h { tmps := a.tmps, defers := d } _ ⟨hf.size, rfl, hf.slots⟩ hs'
  show LeavesInM _ _ _ _ _ _ _ _ _
  rw [hf.defers]
  exact ⟨by simp, .inl ⟨D, _, rfl, run_takeDeferred hget, h1⟩⟩
end
def jr (P : Program) (l : Nat) (R : Ending → World → Prop) : Exit → Act → World → Prop
  | .panic ch, a, w => a.defers = [] ∧ R (.panicked ch) w
  | e, a, w => roundPost P l R e a w
theorem qI {F : Fence} {n : Nat} {P : Program} {l : Nat} {f : FuncId} {fn : Func} {tmps : Array Value} {assign body : Code} {w : World} {R : Ending → World → Prop} (hF : F.fn f) (hfn : P.funcs[f]? = some fn)
    (h : assign.wpIn (F.inRound l) n P (Exit.then (fun a₁ w₁ => ∃ w₂, (Instr.beginRound l).run P w₁ = .ok () w₂ ∧ body.wpIn (F.inRound l) n P (jr P l R) a₁ w₂) (fun _ _ _ => False))
      { tmps := tmps, defers := [] } w) :
    RoundIn F n P l f tmps assign body w R := by
  refine ⟨hF, fun c cs hr => ?_⟩
  let b : Frame := { (default : Frame) with fn := f, kind := .normal, roundOf := some l }
  have hb0 : Frame.round l f tmps assign body .normal = b.atR { tmps := tmps, defers := [] } [.code assign, .beginRound, .code body] := by
    simp [Frame.round, Frame.atR, b]
  have hr' : (F.inRound l).room ((c :: cs).length + 1 + n) := hr
  have hF' : (F.inRound l).fn b.fn := hF
  obtain ⟨e, a₁, w₁, hq, harr⟩ := h b [.beginRound, .code body] (c :: cs) rfl hF' hr'
  rw [← hb0] at harr
  cases e with
  | normal =>
    obtain ⟨w₂, hbr, hbody⟩ := hq
    have s1 : StepsIn (Machine.fenced P (F.inRound l)) P (lone (b.atR a₁ [.beginRound, .code body]) (c :: cs) w₁) (lone (b.atR a₁ [.code body]) (c :: cs) w₂) :=
      .one (fenced_calm (fr := b.atR a₁ [.beginRound, .code body]) hF' hr' rfl) (stepR_beginRound rfl hbr)
    obtain ⟨e₂, a₂, w₃, hq₂, harr₂⟩ := hbody b [] (c :: cs) rfl hF' hr'
    cases e₂ with
    | normal =>
      obtain ⟨v, w₄, hend, hR⟩ := hq₂
      exact ⟨.returned v, w₄, hR, (StepsIn.trans harr s1).trans (StepsIn.trans harr₂ (.one (fenced_calm (fr := b.atR a₂ []) hF' hr' rfl) (stepR_round_end rfl rfl hend)))⟩
    | ret =>
      obtain ⟨v, w₄, hend, hR⟩ := hq₂
      obtain ⟨k₁, hs⟩ := harr₂.2 rfl
      exact ⟨.returned v, w₄, hR, (StepsIn.trans harr s1).trans (StepsIn.trans hs (.one (fenced_calm (fr := b.atR a₂ (.code .ret :: k₁)) hF' hr' rfl) (stepR_round_ret rfl rfl hend)))⟩
    | exit id =>
      obtain ⟨v, w₄, hend, hR⟩ := hq₂
      obtain ⟨k₁, hk, hs⟩ := harr₂.2 rfl rfl
      exact ⟨.returned v, w₄, hR, (StepsIn.trans harr s1).trans (StepsIn.trans hs (.one (fenced_calm (fr := b.atR a₂ (.code (.exit id) :: k₁)) hF' hr' rfl) (stepR_round_exit rfl rfl hk hend)))⟩
    | goto t =>
      obtain ⟨v, w₄, hend, hR⟩ := hq₂
      obtain ⟨k₁, hk, hs⟩ := harr₂.2 rfl rfl
      exact ⟨.returned v, w₄, hR, (StepsIn.trans harr s1).trans (StepsIn.trans hs (.one (fenced_calm (fr := b.atR a₂ (.code (.goto t) :: k₁)) hF' hr' rfl) (stepR_round_goto rfl rfl hk hend)))⟩
    | panic chain =>
      obtain ⟨hd, hR⟩ := hq₂
      obtain ⟨todo, hs⟩ := harr₂
      have hl : ({ b.atR a₂ todo with mode := .panicking chain } : Frame).leaving P w₃ (.panicked chain) := ⟨rfl, hd, fn, hfn⟩
      have hfe : (lone ({ b.atR a₂ todo with mode := .panicking chain } : Frame) (c :: cs) w₃).fenced P (F.inRound l) := fenced_leaving (F := F.inRound l) hF' hr' hl
      exact ⟨.panicked chain, w₃, hR, (StepsIn.trans harr s1).trans (StepsIn.trans hs (.one hfe (step_leave_panicked hl)))⟩
    | outgrown => exact hq₂.elim
  | exit id => exact hq.elim
  | goto t => exact hq.elim
  | ret => exact hq.elim
  | panic chain => exact hq.elim
  | outgrown => exact hq.elim
def YSX (P : Program) (q : Nat) (vals : Array Value) (xs : List Nat) (w : World) (XT XF : XP) (pc : List PanicEntry → Prop) : Prop :=
  YieldAt (FW none) 0 P q vals w fun e w' => (∃ b xs', e = .returned (.bool b) ∧ (∀ k ∈ xs', k < w'.heap.size ∧ (k ∈ xs ∨ w.heap.size ≤ k)) ∧ Keep xs w w' ∧ YX xs' (if b = true then XT else XF) w') ∨ (∃ ch, e = .panicked ch ∧ pc ch ∧ Keep xs w w')
def Joz {ι : Type} (P : Program) (gf : FuncId) (caps : List Value) (Rl : Jo) (p0 : ι) (nx : ι → List Value → ι → Prop) (fin : ι → Prop) : Prop :=
  ∀ (q : Nat) (xids : List Nat) (w2 : World) (XI : ι → XP) (XF : XP) (pc : List PanicEntry → Prop),
    (∀ p ∈ Rl, p.1 ∉ xids ∧ w2.heap[p.1]? = some p.2) → (∀ k ∈ xids, k < w2.heap.size) → YX xids (XI p0) w2 →
    (∀ i v i', nx i v i' → ∀ xs w, (∀ k ∈ xs, k < w.heap.size ∧ (k ∈ xids ∨ w2.heap.size ≤ k)) → Keep xids w2 w → YX xs (XI i) w → YSX P q v.toArray xs w (XI i') XF pc) →
    Calls P gf (.func (.yield q) #[] #[] :: caps).toArray w2 fun e w' => ((∃ v, e = .returned v) ∧ Keep xids w2 w' ∧ ((∃ i xs, fin i ∧ XI i xs w') ∨ ∃ xs, XF xs w')) ∨ (∃ ch, e = .panicked ch ∧ pc ch ∧ Keep xids w2 w')
theorem Jea {ι : Type} {P : Program} {f : FuncId} {fn : Func} {code : Code} {caps : List Value} {Rl : Jo} {p0 : ι} {nx : ι → List Value → ι → Prop} {fin : ι → Prop} (hf : P.funcs[f]? = some fn) (hb : fn.body = some code) (hlen : Nat.ble (caps.length + 1) fn.ntmps = true)
    (h : ∀ (q : Nat) (xids : List Nat) (w2 : World) (XI : ι → XP) (XF : XP) (pc : List PanicEntry → Prop),
      (∀ i v i', nx i v i' → ∀ xs w, (∀ k ∈ xs, k < w.heap.size ∧ (k ∈ xids ∨ w2.heap.size ≤ k)) → Keep ([] ++ xids) w2 w → YX xs (XI i) w → YSX P q v.toArray xs w (XI i') XF pc) →
      HC ⟨P, none, w2, [], xids, Rl, fn.ntmps⟩ [] (Vm 0 (.func (.yield q) #[] #[] :: caps)) [] (XI p0) code
        (bodyPostM (FW none) 0 P fn (fun e w' => ((∃ v, e = .returned v) ∧ Keep ([] ++ xids) w2 w' ∧ ((∃ i xs, fin i ∧ XI i xs w') ∨ ∃ xs, XF xs w')) ∨ (∃ ch, e = .panicked ch ∧ pc ch ∧ Keep ([] ++ xids) w2 w')))) : Joz P f caps Rl p0 nx fin :=
  fun q xids w2 XI XF pc hR hlt h0 hY =>
    QH ⟨P, none, w2, [], xids, Rl, fn.ntmps⟩ hf hb rfl rfl rfl hlen
      ⟨Keep.refl _ _, by simp, by simp, fun p hp => ⟨by simp, (hR p hp).1, (hR p hp).2⟩, hlt, xids, fun k hk => ⟨.inl hk, hlt k hk, by simp⟩, h0⟩ (h q xids w2 XI XF pc hY)
section
variable {c : Cx} {l : Ko} {L : Jo} {X : XP} {Q : Exit → Act → World → Prop} {d : List Deferred}
variable {ops : Array Oper} {rest : List Oper} {i : Nat} {v : Value} {t : TypeId} {ps : String} {af : Array Edge} {gd : Option (Nat × Bool)} {ty : TypeId}
theorem Jkl {f : Operand} {args : Array Operand} {at_ : Array TypeId} {q : Nat} {vs : List Value} {XT XF : XP} {pc : List PanicEntry → Prop}
    (hg : Kk l ops ⟨some i, .call ⟨.value f, args, at_⟩, ty, ps, af, gd⟩ = some true) (hi : Nat.ble (i + 1) c.n = true)
    (hf : Kg l f = some (.func (.yield q) #[] #[])) (ha : evs l args.toList = some vs)
    (hY : ∀ xs w, (∀ k ∈ xs, k < w.heap.size ∧ (k ∈ c.xids ∨ c.w1.heap.size ≤ k)) → Keep (c.ids ++ c.xids) c.w1 w → YX xs X w → YSX c.P q vs.toArray xs w XT XF pc)
    (h1 : HL c d ((i, .bool true) :: l) L XT ops rest Q) (h0 : HL c d ((i, .bool false) :: l) L XF ops rest Q) (hp : ∀ ch, pc ch → HQ c d l L (fun _ _ => True) (Q (.panic ch))) : HL c d l L X ops (⟨some i, .call ⟨.value f, args, at_⟩, ty, ps, af, gd⟩ :: rest) Q := fun a w hfr hs => by
  refine QQ (JE hfr hg) rfl ?_
  obtain ⟨xs, hx1, hx2⟩ := hs.x
  obtain ⟨fn, tmps, assign, body, hy, hR⟩ := hY xs w (fun k hk => ⟨(hx1 k hk).2.1, (hx1 k hk).1⟩) hs.keep hx2
  have h2 := hfr.evals ha
  have h3 : args.map a.eval = vs.toArray := by apply Array.toList_inj.1; rw [Array.toList_map]; simpa using h2
  have h4 : a.eval f = .func (.yield q) #[] #[] := hfr.eval hf
  have hrun : (execOp a.eval ⟨some i, .call ⟨.value f, args, at_⟩, ty, ps, af, gd⟩).run c.P w = .ok (.round q fn tmps assign body) w := by
    simp only [execOp, Sem.run_bind]
    simp [resolve, h3, h4, Deferred.ofValue, Result.andThen, invoke, hy]
  rw [hrun, Oper.uponIn_round]
  refine ⟨fun hdep => (by cases hdep), ?_⟩
  refine RoundIn.mono (show RoundIn (FW c.ro) (0 - 1) c.P q fn tmps assign body w _ from hR) ?_
  have base : ∀ xs' w' X', Keep xs w w' → (∀ k ∈ xs', k < w'.heap.size ∧ (k ∈ xs ∨ w.heap.size ≤ k)) → YX xs' X' w' → St c L X' w' := fun xs' w' X' hk hxs hx => by
    refine ⟨hs.keep.glue hk fun k hm => ?_, fun p hp => ?_, hs.distinct, hs.ext, hs.xlt, xs', fun k hm => ?_, hx⟩
    · rcases (hx1 k hm).1 with g | g
      · exact .inl (List.mem_append_right _ g)
      · exact .inr g
    · obtain ⟨g1, g2, g3⟩ := hs.own p hp
      exact ⟨g1, g2, (hk.block p.1 (Jx g3) fun hm => (hx1 _ hm).2.2 p hp rfl).trans g3⟩
    · obtain ⟨g1, g2⟩ := hxs k hm
      refine ⟨g2.elim (fun g => (hx1 k g).1) fun g => .inr (Nat.le_trans hs.keep.size g), g1, fun p hp => ?_⟩
      rcases g2 with g | g
      · exact (hx1 k g).2.2 p hp
      · have := Jx (hs.own p hp).2.2; omega
  rintro e w' (⟨b, xs', rfl, hxs, hk, hb⟩ | ⟨ch, rfl, hpc, hk⟩)
  · cases b with
    | true => exact h1 _ w' (hfr.put (Nat.le_of_ble_eq_true hi)) (base xs' w' XT hk hxs (by simpa using hb))
    | false => exact h0 _ w' (hfr.put (Nat.le_of_ble_eq_true hi)) (base xs' w' XF hk hxs (by simpa using hb))
  · exact hp ch hpc a w' hfr (base [] w' _ hk (by simp) fun _ _ => trivial)
end
def wpE (F : Fence) (n : Nat) (P : Program) (c : Code) (Q : Exit → Act → World → Prop) (a : Act) (w : World) : Prop :=
  ∀ (b : Frame) (k : List Item) (cs : List Frame), b.roundOf = F.round → F.fn b.fn → (∃ fn, P.funcs[b.fn]? = some fn) → F.room (cs.length + 1 + n) →
    ∃ e a' w', Q e a' w' ∧ ArrivesIn (Machine.fenced P F) P (lone (b.atR a (.code c :: k)) cs w) b k cs e a' w'
theorem Jwy {F : Fence} {n : Nat} {P : Program} {c : Code} {Q : Exit → Act → World → Prop} {a : Act} {w : World} (h : c.wpIn F n P Q a w) : wpE F n P c Q a w := fun b k cs h1 h2 _ h4 => h b k cs h1 h2 h4
theorem Jtn {F : Fence} {n : Nat} {P : Program} {x y : Code} {Q : Exit → Act → World → Prop} {a : Act} {w : World} (h : wpE F n P x (Exit.then (wpE F n P y Q) Q) a w) : wpE F n P (.seq x y) Q a w := by
  intro b k cs hro hb hfn hr
  have h0 : (lone (b.atR a (.code (.seq x y) :: k)) cs w).fenced P F := fenced_calm hb hr rfl
  obtain ⟨e, a₁, w₁, hq, harr⟩ := h b (.code y :: k) cs hro hb hfn hr
  cases e with
  | normal =>
    obtain ⟨e₂, a₂, w₂, hq₂, harr₂⟩ := hq b k cs hro hb hfn hr
    exact ⟨e₂, a₂, w₂, hq₂, .of_steps (.head h0 stepR_seq harr) harr₂⟩
  | exit id => exact ⟨_, a₁, w₁, hq, .of_steps (.one h0 stepR_seq) (.pass (x := .code y) rfl (fun _ _ => .inl (by simp)) harr)⟩
  | goto l => exact ⟨_, a₁, w₁, hq, .of_steps (.one h0 stepR_seq) (.pass (x := .code y) rfl (fun _ _ => .inl (by simp)) harr)⟩
  | ret => exact ⟨_, a₁, w₁, hq, .of_steps (.one h0 stepR_seq) (.pass (x := .code y) rfl (fun _ _ => .inl (by simp)) harr)⟩
  | panic ch => exact ⟨_, a₁, w₁, hq, .of_steps (.one h0 stepR_seq) (.pass (x := .code y) rfl (fun _ _ => .inl (by simp)) harr)⟩
  | outgrown => exact ⟨_, a₁, w₁, hq, .of_steps (.one h0 stepR_seq) (.pass (x := .code y) rfl (fun _ _ => .inl (by simp)) harr)⟩
theorem Jkm {F : Fence} {n : Nat} {P : Program} {id : Nat} {c : Code} {Q : Exit → Act → World → Prop} {a : Act} {w : World} (h : wpE F n P c (Exit.inBlock id Q) a w) : wpE F n P (.block id c) Q a w := by
  intro b k cs hro hb hfn hr
  have h0 : (lone (b.atR a (.code (.block id c) :: k)) cs w).fenced P F := fenced_calm hb hr rfl
  obtain ⟨e, a₁, w₁, hq, harr⟩ := h b (.inBlock id :: k) cs hro hb hfn hr
  cases e with
  | normal => exact ⟨.normal, a₁, w₁, hq, .head h0 stepR_block (StepsIn.trans harr (.one (fenced_calm hb hr rfl) stepR_inBlock))⟩
  | exit id' =>
    by_cases hid : id' = id
    · simp only [Exit.inBlock, hid, if_true] at hq
      exact ⟨.normal, a₁, w₁, hq, .head h0 stepR_block (harr.1 k (by simp [exitTo, hid]))⟩
    · simp only [Exit.inBlock, hid, if_false] at hq
      have this : (id == id') = false := by simp; exact fun h => hid h.symm
      have hx : exitTo id' (.inBlock id :: k) = exitTo id' k := by simp [exitTo, this]
      exact ⟨.exit id', a₁, w₁, hq, fun k' hk => .head h0 stepR_block (harr.1 k' (by rw [hx]; exact hk)),
        fun hr' hk => let ⟨k₁, h1, h2⟩ := harr.2 hr' (by rw [hx]; exact hk); ⟨k₁, h1, .head h0 stepR_block h2⟩⟩
  | goto l =>
    have hx : gotoIn l (.inBlock id :: k) = gotoIn l k := by simp [gotoIn]
    exact ⟨_, a₁, w₁, hq, fun k' hk => .head h0 stepR_block (harr.1 k' (by rw [hx]; exact hk)),
      fun hr' hk => let ⟨k₁, h1, h2⟩ := harr.2 hr' (by rw [hx]; exact hk); ⟨k₁, h1, .head h0 stepR_block h2⟩⟩
  | ret => exact ⟨_, a₁, w₁, hq, .of_steps (.one h0 stepR_block) harr⟩
  | panic ch => exact ⟨_, a₁, w₁, hq, .of_steps (.one h0 stepR_block) harr⟩
  | outgrown => exact ⟨_, a₁, w₁, hq, .of_steps (.one h0 stepR_block) harr⟩
theorem Jwz {F : Fence} {n : Nat} {P : Program} {f : FuncId} {fn : Func} {c : Code} {args : Array Value} {w : World} {R : Ending → World → Prop}
    (hf : P.funcs[f]? = some fn) (hb : fn.body = some c) (hF : F.fn f)
    (h : wpE F n P c (bodyPostM F n P fn R) { tmps := args ++ Array.replicate (fn.ntmps - args.size) undef, defers := [] } w) (hro : F.round = none := by rfl) : CallsIn F n P f args w R := by
  refine ⟨hF, fun cs hr => ?_⟩
  let b : Frame := { (default : Frame) with fn := f, kind := .normal, roundOf := none }
  have henter : Frame.enter P f args .normal =
      b.atR { tmps := args ++ Array.replicate (fn.ntmps - args.size) undef, defers := [] } [.code c] := by
    simp [Frame.enter, Frame.atR, hf, hb, b]
  obtain ⟨e, a', w', hq, harr⟩ := h b [] cs hro.symm hF ⟨fn, hf⟩ hr
  rw [← henter] at harr
  cases e with
  | normal =>
    obtain ⟨e', w'', fr', hR, hs, hfn, hl⟩ := leaves_stepsInM a'.defers .returning w' { b.atR a' [] with mode := .returning } cs rfl rfl rfl hf rfl hF hr hq
    exact ⟨e', w'', fr', hR, ComesIn.of_steps (StepsIn.trans harr (.one (fenced_calm (fr := b.atR a' []) hF hr rfl) (stepR_end rfl))) hs, hfn, hl⟩
  | ret =>
    obtain ⟨todo, hs₀⟩ := harr.1 rfl
    obtain ⟨e', w'', fr', hR, hs, hfn, hl⟩ := leaves_stepsInM a'.defers .returning w' { b.atR a' todo with mode := .returning } cs rfl rfl rfl hf rfl hF hr hq
    exact ⟨e', w'', fr', hR, ComesIn.of_steps hs₀ hs, hfn, hl⟩
  | panic chain =>
    obtain ⟨todo, hs₀⟩ := harr
    obtain ⟨e', w'', fr', hR, hs, hfn, hl⟩ := leaves_stepsInM a'.defers (.panicking chain) w' { b.atR a' todo with mode := .panicking chain } cs rfl rfl rfl hf rfl hF hr hq
    exact ⟨e', w'', fr', hR, ComesIn.of_steps hs₀ hs, hfn, hl⟩
  | exit id => exact hq.elim
  | goto l => exact hq.elim
  | outgrown => exact ⟨.outgrown, w', b, hq, harr.resolve_left (by simp [b]), rfl, trivial⟩
theorem zf {F : Fence} {n : Nat} {P : Program} {g : Operand} {ps : Array Tmp} {assign body : Code} {Q : Exit → Act → World → Prop} {a : Act} {w : World}
    (h : ∀ fn, F.fn fn → (∃ fd, P.funcs[fn]? = some fd) → ∃ (l : Nat) (mark : List Deferred) (w₁ : World) (d : Deferred) (w₁' : World) (f : FuncId) (args : Array Value) (w₂ : World),
      (Instr.enterLoop fn a.tmps ps assign body F.round).run P w = .ok (l, mark) w₁ ∧
      (resolve a.eval (rangeCall g l) 0).run P w₁ = .ok d w₁' ∧
      (∀ f', Target.leads P w₁' d.target d.args = some f' → F.fn f') ∧
      (invoke d.target d.args).run P w₁' = .ok (.enter f args) w₂ ∧
      (F.depth.isSome = true → 1 ≤ n) ∧
      CallsIn F (n - 1) P f args w₂ (rangePost F n P l Q { a with defers := mark ++ a.defers })) :
    wpE F n P (.rangeFunc g ps assign body) Q a w := by
  intro b k cs hro hb hfn hr
  have h2 := h b.fn hb hfn
  have h3 : (Code.rangeFunc g ps assign body).wpIn { F with fn := fun f => F.fn f } n P Q a w → True := fun _ => trivial
  obtain ⟨l, mark, w₁, d, w₁', f, args, w₂, he, hres, hlead, hinv, hn, hF, hcall⟩ := h2
  rw [← hro] at he
  have h0 : (lone (b.atR a (.code (.rangeFunc g ps assign body) :: k)) cs w).fenced P F := by
    refine fenced_lone (.inl hb) (fun f' hf' => hlead f' ?_) (Fence.room_le hr (by omega))
    have hev := Frame.eval_atR b a (.code (.rangeFunc g ps assign body) :: k)
    simp only [Frame.atR] at hev
    simp only [Frame.about, Frame.atR, he, hev, hres] at hf'
    exact hf'
  have henter := stepR_rangeFunc (P := P) (b := b) (a := a) (k := k) (cs := cs) (w := w) he hres hinv
  have hroom : F.room ((b.atR { a with defers := mark ++ a.defers } (.inRangeFunc l :: k) :: cs).length + 1 + (n - 1)) := Fence.room_enter hr hn
  obtain ⟨e, w₃, fr, hR, hsteps, hfn', hleave⟩ := hcall (b.atR { a with defers := mark ++ a.defers } (.inRangeFunc l :: k) :: cs) hroom
  cases e with
  | outgrown =>
    obtain ⟨a₀, w₀, hq⟩ := hR
    exact ⟨.outgrown, a₀, w₀, hq, .inr (Outgrown.of_steps (.one henter) hsteps)⟩
  | returned v =>
    have hl : (lone fr (b.atR { a with defers := mark ++ a.defers } (.inRangeFunc l :: k) :: cs) w₃).fenced P F := fenced_leaving (hfn' ▸ hF) hroom hleave
    obtain ⟨jump, w₄, hend, hj⟩ := hR
    have sback : StepsIn (Machine.fenced P F) P (lone (b.atR a (.code (.rangeFunc g ps assign body) :: k)) cs w) (lone (b.atR { a with defers := mark ++ a.defers } ((jump.map Item.code).toList ++ k)) cs w₄) := by
      refine .head h0 henter (StepsIn.trans hsteps (.head hl ?_ (.one (fenced_calm (fr := b.atR { a with defers := mark ++ a.defers } (.endRangeFunc l :: k)) hb hr rfl) (stepR_endRangeFunc hend))))
      rw [← finish_atR_inRangeFunc l v]; exact step_leave_returned hleave
    cases jump with
    | none => exact ⟨.normal, _, w₄, hj, sback⟩
    | some c =>
      obtain ⟨e', a'', w₅, hq, harr⟩ := hj b k cs hro hb hr
      exact ⟨e', a'', w₅, hq, .of_steps sback harr⟩
  | panicked chain =>
    have hl : (lone fr (b.atR { a with defers := mark ++ a.defers } (.inRangeFunc l :: k) :: cs) w₃).fenced P F := fenced_leaving (hfn' ▸ hF) hroom hleave
    refine ⟨.panic chain, _, w₃, hR, .inRangeFunc l :: k, .head h0 henter (StepsIn.trans hsteps (.one hl ?_))⟩
    rw [← Frame.raise_atR]; exact step_leave_panicked hleave
def wb {σ τ : Type} (c3 : Cx) (Xb : XP) (I : σ → Prop) (LI : σ → Jo) (E : Code → τ → Prop) (LE : τ → Jo) (pc : List PanicEntry → Prop) : Exit → Act → World → Prop
  | .normal, _, w => ∃ s, I s ∧ St c3 (LI s) Xb w
  | .ret, _, w => ∃ s, E .ret s ∧ St c3 (LE s) Xb w
  | .exit id, _, w => ∃ s, E (.exit id) s ∧ St c3 (LE s) Xb w
  | .panic ch, a, w => a.defers = [] ∧ pc ch ∧ ∃ LL, St c3 LL Xb w
  | _, _, _ => False
theorem Ja4 {σ τ : Type} {c3 : Cx} {q : Nat} {r : Loop} {I : σ → Prop} {LI : σ → Jo} {E : Code → τ → Prop} {LE : τ → Jo} {pc : List PanicEntry → Prop} {R : Ending → World → Prop}
    (h1 : ∀ s w, I s → St c3 (LI s) (WV q { r with state := .busy }) w → R (.returned (.bool true)) (w.putObj q (.loop { r with state := .ready, pending := none })))
    (h2 : ∀ j s w, E j s → St c3 (LE s) (WV q { r with state := .busy }) w → R (.returned (.bool false)) (w.putObj q (.loop { r with state := .done, pending := some j })))
    (h3 : ∀ ch LL w, pc ch → St c3 LL (WV q { r with state := .busy }) w → R (.panicked ch) w)
    (e : Exit) (a : Act) (w : World) (h : wb c3 (WV q { r with state := .busy }) I LI E LE pc e a w) : jr c3.P q R e a w := by
  have hend : ∀ (w : World) (jump : Option Code), w.heap[q]? = some (.loop { r with state := .busy }) → (Instr.endRound q jump).run c3.P w = .ok (.bool jump.isNone) (w.putObj q (.loop { r with state := if jump.isNone then .ready else .done, pending := jump })) := fun w jump hw => run_endRound (r := { r with state := .busy }) jump hw
  cases e with
  | normal => obtain ⟨s, hs, hst⟩ := h; exact ⟨_, _, hend w none hst.recd, h1 s w hs hst⟩
  | ret => obtain ⟨s, hs, hst⟩ := h; exact ⟨_, _, hend w (some .ret) hst.recd, h2 _ s w hs hst⟩
  | exit id => obtain ⟨s, hs, hst⟩ := h; exact ⟨_, _, hend w (some (.exit id)) hst.recd, h2 _ s w hs hst⟩
  | goto t => exact h.elim
  | panic ch => obtain ⟨hd, hpc, LL, hst⟩ := h; exact ⟨hd, h3 ch LL w hpc hst⟩
  | outgrown => exact h.elim
theorem Jkn {σ τ : Type} {c3 : Cx} {l : Ko} {L : Jo} {Xb : XP} {I : σ → Prop} {LI : σ → Jo} {E : Code → τ → Prop} {LE : τ → Jo} {pc : List PanicEntry → Prop} {ch : List PanicEntry} (h : pc ch) : HQ c3 [] l L Xb (wb c3 Xb I LI E LE pc (.panic ch)) := fun a w hf hs => ⟨hf.defers, h, L, hs⟩
def HCE (c : Cx) (d : List Deferred) (l : Ko) (L : Jo) (X : XP) (code : Code) (Q : Exit → Act → World → Prop) : Prop :=
  ∀ a w, Fr c.n d l a → St c L X w → wpE (FW c.ro) 0 c.P code Q a w
section
variable {c : Cx} {l : Ko} {L : Jo} {X : XP} {Q : Exit → Act → World → Prop} {d : List Deferred}
theorem Jo0 {code : Code} (h : HC c d l L X code Q) : HCE c d l L X code Q := fun a w hf hs => Jwy (h a w hf hs)
theorem Jin {x y : Code} (h : ∀ K, (∀ d l L X, HCE c d l L X y Q → HQ c d l L X K) → HCE c d l L X x (Exit.then K Q)) : HCE c d l L X (x.seq y) Q :=
  fun a w hf hs => Jtn (h (fun a w => wpE (FW c.ro) 0 c.P y Q a w) (fun _ _ _ _ hy a w hf hs => hy a w hf hs) a w hf hs)
theorem Jkp {id : Nat} {b : Code} (h : HCE c d l L X b (Exit.inBlock id Q)) : HCE c d l L X (.block id b) Q := fun a w hf hs => Jkm (h a w hf hs)
theorem Wp {x y : Code} (h : ∀ K, (∀ d l L X, HCE c d l L X y Q → HQ c d l L X K) → HC c d l L X x (Exit.then K Q)) : HCE c d l L X (x.seq y) Q := Jin fun K hK => Jo0 (h K hK)
theorem Jkq {ι σ τ : Type} {f : Operand} {pp : List Nat} {assign body : Code} {gf : FuncId} {caps : List Value} {Rl : Jo} {p0 : ι} {nx : ι → List Value → ι → Prop} {fi : ι → Prop}
    (pc : List PanicEntry → Prop) (I : ι → σ → Prop) (LI : σ → Jo) (E : Code → τ → Prop) (LE : τ → Jo) (Lk : Jo) (s0 : σ)
    (hro : c.ro = none) (hf : Kg l f = some (.func (.func gf) #[] caps.toArray)) (eg : Enters c.P gf) (hit : Joz c.P gf caps Rl p0 nx fi) (hlen : ∀ i v i', nx i v i' → v.length = pp.length) (hpp : pp.all (Nat.blt · c.n) = true)
    (hRl : ∀ p ∈ Rl, p ∈ Lk ∨ p ∈ c.R) (hL : L = LI s0 ++ Lk) (h0 : I p0 s0)
    (hround : ∀ (q : Nat) (Xr Xb : XP) (w3 : World) (i : ι) (v : List Value) (i' : ι) (s : σ), nx i v i' → I i s → ∀ K, Jgt (yV c q w3 (QI (LI s)) Lk) Xr Xb body (wb (yV c q w3 (QI (LI s)) Lk) Xb (I i') LI E LE pc) K →
      HC (yV c q w3 (QI (LI s)) Lk) [] (wl pp v l) (LI s) Xr assign (Exit.then K fun _ _ _ => False))
    (hdone : ∀ D i s, fi i → I i s → HQ c (Vc D :: d) l ((D, .deferred (some [])) :: (LI s ++ Lk)) X (Q .normal))
    (hstop : ∀ D j s, E j s → HC c (Vc D :: d) l ((D, .deferred (some [])) :: (LE s ++ Lk)) X j Q)
    (hpan : ∀ D ch, pc ch → HQ c (Vc D :: d) l ((D, .deferred (some [])) :: Lk) X (Q (.panic ch))) :
    HCE c d l L X (.rangeFunc f pp.toArray assign body) Q := fun a w hfr hs => by
  subst hL
  refine zf ?_
  intro fn _ hfdE
  obtain ⟨fd, hfd⟩ := hfdE
  have e0 : (FW c.ro).round = none := by rw [hro]; rfl
  rw [e0]
  obtain ⟨r, hr⟩ : ∃ r : Loop, r = { state := .ready, pending := none, fn, tmps := a.tmps, params := pp.toArray, assign, body, defers := w.heap.size } := ⟨_, rfl⟩
  obtain ⟨w2, hw2⟩ : ∃ w2, (w.alloc (.deferred (some []))).alloc (.loop r) = w2 := ⟨_, rfl⟩
  have hq : (w.alloc (.deferred (some []))).heap.size = w.heap.size + 1 := World.size_alloc _ _
  have hs2 : St c ((w.heap.size + 1, .loop r) :: (w.heap.size, .deferred (some [])) :: (LI s0 ++ Lk)) X w2 := by
    have := (hs.alloc (.deferred (some []))).alloc (.loop r)
    rw [hq, hw2] at this
    exact this
  have hq2 : w2.heap[w.heap.size + 1]? = some (.loop r) := (hs2.own _ List.mem_cons_self).2.2
  have hrr : ({ r with state := .ready, pending := none } : Loop) = r := by rw [hr]
  obtain ⟨M, hM⟩ : ∃ M, QI (LI s0) = M := ⟨_, rfl⟩
  refine ⟨w.heap.size + 1, [Vc w.heap.size], w2, { target := .fn (.func gf) caps.toArray, args := #[.func (.yield (w.heap.size + 1)) #[] #[]] }, w2, gf, (.func (.yield (w.heap.size + 1)) #[] #[] :: caps).toArray, w2, ?_, ?_, fun _ _ => trivial, ?_, fun hdep => (by cases hdep), ?_⟩
  rw [← hw2, hr]; exact run_enterLoop_outer _ _ _ _ _
  have := hfr.eval hf
  simp only [resolve, this]
  simp [Deferred.ofValue]
  rfl
  have := eg (#[.func (.yield (w.heap.size + 1)) #[] #[]] ++ caps.toArray) w2
  have e1 : (#[Value.func (.yield (w.heap.size + 1)) #[] #[]] ++ caps.toArray) = (Value.func (.yield (w.heap.size + 1)) #[] #[] :: caps).toArray := by apply Array.toList_inj.1; simp
  rw [e1] at this
  simpa [invoke] using this
  · -- the iterator's contract at our invariant
    have hown := hs2.distinct
    have hMown : ∀ k ∈ M, ∃ o, (k, o) ∈ LI s0 := fun k hk => by
      rw [← hM] at hk
      obtain ⟨p, hp, rfl⟩ := List.mem_map.1 hk
      exact ⟨p.2, hp⟩
    have hpw := List.pairwise_cons.1 hown
    have hpw2 := List.pairwise_cons.1 hpw.2
    have hpw3 := List.pairwise_append.1 hpw2.2
    have hsz2 : w2.heap.size = w.heap.size + 2 := by rw [← hw2, World.size_alloc, World.size_alloc]
    have hLk2 : ∀ p ∈ Lk, p.1 < w2.heap.size := fun p hp => Jx (hs2.own p (List.mem_cons_of_mem _ (List.mem_cons_of_mem _ (List.mem_append_right _ hp)))).2.2
    have hMk : ∀ p ∈ Lk, p.1 ∉ M ∧ p.1 ≠ w.heap.size + 1 := fun p hp => ⟨fun hm => by
      obtain ⟨o, ho⟩ := hMown _ hm
      exact hpw3.2.2 _ ho _ hp rfl, fun e => hpw.1 p (List.mem_cons_of_mem _ (List.mem_append_right _ hp)) e.symm⟩
    have hMq : w.heap.size + 1 ∉ M := fun hm => by
      obtain ⟨o, ho⟩ := hMown _ hm
      exact hpw.1 _ (List.mem_cons_of_mem _ (List.mem_append_left _ ho)) rfl
    have hMD : w.heap.size ∉ M := fun hm => by
      obtain ⟨o, ho⟩ := hMown _ hm
      exact hpw2.1 _ (List.mem_append_left _ ho) rfl
    have hMlt : ∀ k ∈ M, k < w2.heap.size := fun k hk => by
      obtain ⟨o, ho⟩ := hMown _ hk
      exact Jx (hs2.own _ (List.mem_cons_of_mem _ (List.mem_cons_of_mem _ (List.mem_append_left _ ho)))).2.2
    -- what a place of one's own is apart from
    have apart : ∀ {k : Nat}, (k ∈ M ∨ w2.heap.size ≤ k) → k ≠ w.heap.size + 1 ∧ k ≠ w.heap.size ∧ (∀ p ∈ Lk, p.1 ≠ k) := fun {k} hk => by
      rcases hk with hk | hk
      exact ⟨fun e => hMq (e ▸ hk), fun e => hMD (e ▸ hk), fun p hp e => (hMk p hp).1 (e ▸ hk)⟩
      exact ⟨by omega, by omega, fun p hp e => by have := hLk2 p hp; omega⟩
    have apartR : ∀ {k : Nat}, (k ∈ M ∨ w2.heap.size ≤ k) → ∀ p ∈ c.R, p.1 ≠ k := fun {k} hk p hp e => by
      obtain ⟨e1, _, e3⟩ := hs2.ext p hp
      have h1 := Jx e3
      have h2 := hs.keep.size
      rcases hk with hk | hk
      obtain ⟨o, ho⟩ := hMown _ hk
      rcases (hs2.own _ (List.mem_cons_of_mem _ (List.mem_cons_of_mem _ (List.mem_append_left _ ho)))).1 with g | g
      exact e1 (e ▸ g)
      simp only at g; omega
      omega
    have hcalls := hit (w.heap.size + 1) ((w.heap.size + 1) :: M) w2 (fun i => Jb1 (w.heap.size + 1) w2.heap.size M r (I i) LI)
      (fun xs w' => ∃ j, Jb1 (w.heap.size + 1) w2.heap.size M { r with state := .done, pending := some j } (E j) LE xs w') pc
      (fun p hp => by
        rcases hRl p hp with hL | hR
        refine ⟨fun hm => ?_, (hs2.own p (List.mem_cons_of_mem _ (List.mem_cons_of_mem _ (List.mem_append_right _ hL)))).2.2⟩
        obtain ⟨h1, h2⟩ := hMk p hL
        rcases List.mem_cons.1 hm with hm | hm
        exact h2 hm
        exact h1 hm
        refine ⟨fun hm => ?_, hs2.readR hR⟩
        rcases List.mem_cons.1 hm with hm | hm
        have h1 := Jx (hs2.ext p hR).2.2
        have h2 := hs.keep.size
        omega
        exact apartR (.inl hm) p hR rfl)
      (fun k hk => by
        rcases List.mem_cons.1 hk with rfl | hk
        exact Jx hq2
        exact hMlt k hk)
      (by
        have := W3 (q := w.heap.size + 1) (B := w2.heap.size) (M := M) (rec := r) (I := I p0) (LI := LI) s0 h0 hpw3.1 (fun p hp => .inl (by rw [← hM]; exact List.mem_map_of_mem (f := (·.1)) hp)) (fun p hp => (hs2.own _ (List.mem_cons_of_mem _ (List.mem_cons_of_mem _ (List.mem_append_left _ hp)))).2.2) hq2
        rw [hM] at this
        exact this)
      ?_
    · refine CallsIn.mono (show CallsIn (FW c.ro) (0 - 1) c.P gf _ w2 _ from callsIn_wide (n := 0) |>.2 hcalls) ?_
      rintro e w' (⟨⟨v, rfl⟩, hk, hfin⟩ | ⟨ch, rfl, hpc, hk⟩)
      rotate_left
      refine hpan w.heap.size ch hpc _ w' ⟨hfr.size, by simp [hfr.defers], hfr.slots⟩ ?_
      refine hs2.jump hk (fun k hm => ?_) (List.pairwise_cons.2 ⟨fun p hp => hpw2.1 p (List.mem_append_right _ hp), hpw3.2.1⟩) (fun p hp => ?_)
      rcases List.mem_cons.1 hm with rfl | hm
      exact ⟨_, List.mem_cons_self⟩
      obtain ⟨o, ho⟩ := hMown k hm
      exact ⟨o, List.mem_cons_of_mem _ (List.mem_cons_of_mem _ (List.mem_append_left _ ho))⟩
      rcases List.mem_cons.1 hp with rfl | hp
      refine ⟨.inl ⟨_, List.mem_cons_of_mem _ List.mem_cons_self⟩, ?_⟩
      refine (hk.block w.heap.size (Jx (hs2.own _ (List.mem_cons_of_mem _ List.mem_cons_self)).2.2) ?_).trans (hs2.own _ (List.mem_cons_of_mem _ List.mem_cons_self)).2.2
      simp only [List.mem_cons, not_or]; exact ⟨by omega, hMD⟩
      have hmem := List.mem_cons_of_mem (w.heap.size + 1, Obj.loop r) (List.mem_cons_of_mem (w.heap.size, Obj.deferred (some [])) (List.mem_append_right (LI s0) hp))
      refine ⟨.inl ⟨p.2, hmem⟩, ?_⟩
      obtain ⟨g1, g2⟩ := hMk p hp
      refine (hk.block p.1 (Jx (hs2.own _ hmem).2.2) ?_).trans (hs2.own _ hmem).2.2
      simp only [List.mem_cons, not_or]; exact ⟨g2, g1⟩
      have fin : ∀ (st : LoopState) (pe : Option Code) (LL : Jo), st ≠ .busy → LL.Pairwise (fun p q => p.1 ≠ q.1) → (∀ p ∈ LL, p.1 ∈ M ∨ w2.heap.size ≤ p.1) → vr LL w' → w'.heap[w.heap.size + 1]? = some (.loop { r with state := st, pending := pe }) →
          (Instr.endLoop (w.heap.size + 1)).run c.P w' = .ok pe (w'.putObj (w.heap.size + 1) (.loop { r with state := .exhausted, pending := pe })) ∧
          St c ((w.heap.size, .deferred (some [])) :: (LL ++ Lk)) X (w'.putObj (w.heap.size + 1) (.loop { r with state := .exhausted, pending := pe })) := by
        intro st pe LL hst hpwL hLM hLL hl
        refine ⟨run_endLoop hl hst, ?_⟩
        have hk2 : Keep ((w.heap.size + 1) :: M) w2 (w'.putObj (w.heap.size + 1) (.loop { r with state := .exhausted, pending := pe })) :=
          hk.trans ((Keep.putObj _ _).weak fun k hm => by simp at hm; subst hm; exact List.mem_cons_self)
        have hput : ∀ k, k ≠ w.heap.size + 1 → (w'.putObj (w.heap.size + 1) (.loop { r with state := .exhausted, pending := pe })).heap[k]? = w'.heap[k]? := fun k hne => World.putObj_heap_other hne
        refine hs2.jump hk2 (fun k hm => ?_) ?_ (fun p hp => ?_)
        rcases List.mem_cons.1 hm with rfl | hm
        exact ⟨_, List.mem_cons_self⟩
        obtain ⟨o, ho⟩ := hMown k hm
        exact ⟨o, List.mem_cons_of_mem _ (List.mem_cons_of_mem _ (List.mem_append_left _ ho))⟩
        refine List.pairwise_cons.2 ⟨fun p hp => ?_, List.pairwise_append.2 ⟨hpwL, hpw3.2.1, fun p hp p' hp' => ?_⟩⟩
        rcases List.mem_append.1 hp with hp | hp
        exact fun e => (apart (hLM p hp)).2.1 e.symm
        exact hpw2.1 p (List.mem_append_right _ hp)
        exact fun e => (apart (hLM p hp)).2.2 p' hp' e.symm
        rcases List.mem_cons.1 hp with rfl | hp
        refine ⟨.inl ⟨_, List.mem_cons_of_mem _ List.mem_cons_self⟩, ?_⟩
        rw [hput _ (by simp)]
        refine (hk.block w.heap.size (Jx (hs2.own _ (List.mem_cons_of_mem _ List.mem_cons_self)).2.2) ?_).trans (hs2.own _ (List.mem_cons_of_mem _ List.mem_cons_self)).2.2
        simp only [List.mem_cons, not_or]; exact ⟨by omega, hMD⟩
        rcases List.mem_append.1 hp with hp | hp
        refine ⟨?_, ?_⟩
        rcases hLM p hp with g | g
        obtain ⟨o, ho⟩ := hMown _ g
        exact .inl ⟨o, List.mem_cons_of_mem _ (List.mem_cons_of_mem _ (List.mem_append_left _ ho))⟩
        exact .inr g
        rw [hput _ (apart (hLM p hp)).1]
        exact hLL p hp
        have hmem := List.mem_cons_of_mem (w.heap.size + 1, Obj.loop r) (List.mem_cons_of_mem (w.heap.size, Obj.deferred (some [])) (List.mem_append_right (LI s0) hp))
        refine ⟨.inl ⟨p.2, hmem⟩, ?_⟩
        obtain ⟨g1, g2⟩ := hMk p hp
        rw [hput _ g2]
        refine (hk.block p.1 (Jx (hs2.own _ hmem).2.2) ?_).trans (hs2.own _ hmem).2.2
        simp only [List.mem_cons, not_or]; exact ⟨g2, g1⟩
      have hfr2 : Fr c.n (Vc w.heap.size :: d) l { tmps := a.tmps, defers := [Vc w.heap.size] ++ a.defers } := ⟨hfr.size, by simp [hfr.defers], hfr.slots⟩
      rcases hfin with ⟨i, xs, hi, ⟨s, h1, h2, h3, h4, _⟩, h5⟩ | ⟨xs, j, ⟨s, h1, h2, h3, h4, _⟩, h5⟩
      obtain ⟨g1, g2⟩ := fin .ready none (LI s) (by simp) h2 h3 h4 (by rw [hrr]; exact h5)
      exact ⟨none, _, g1, hdone _ i s hi h1 _ _ hfr2 g2⟩
      · obtain ⟨g1, g2⟩ := fin .done (some j) (LE s) (by simp) h2 h3 h4 h5
        exact ⟨some j, _, g1, hstop _ j s h1 _ _ hfr2 g2⟩
    · -- a round
      rintro i v i' hi xs w3 hxs hk3 hfoot
      obtain ⟨⟨s, h1, hpwS, hMS, h2, rfl⟩, h3⟩ := hfoot w3 fun _ _ => rfl
      have hargs : v.toArray.size = r.params.size := by rw [hr]; simpa using hlen i v i' hi
      have hy := run_yield (P := c.P) (args := v.toArray) h3 hargs
      refine ⟨_, _, _, _, hy, ?_⟩
      obtain ⟨c3, hc3⟩ : ∃ c3, yV c (w.heap.size + 1) w3 (QI (LI s)) Lk = c3 := ⟨_, rfl⟩
      have hc3x : c3.xids = [w.heap.size + 1] := by rw [← hc3]; rfl
      have hc3i : c3.ids = QI (LI s) := by rw [← hc3]; rfl
      have hc3w : c3.w1 = w3 := by rw [← hc3]; rfl
      have hmemS : ∀ p ∈ LI s, p.1 ∈ QI (LI s) := fun p hp => List.mem_map_of_mem (f := (·.1)) hp
      have hidS : ∀ {k : Nat}, k ∈ QI (LI s) → k ∈ M ∨ w2.heap.size ≤ k := fun {k} hk => by
        obtain ⟨p, hp, rfl⟩ := List.mem_map.1 hk
        exact hMS p hp
      have hst3 : St c3 (LI s) (WV (w.heap.size + 1) r) w3 := by
        subst hc3
        refine ⟨Keep.refl _ _, fun p hp => ⟨.inl (hmemS p hp), ?_, h2 p hp⟩, hpwS, ?_, ?_, [w.heap.size + 1], fun k hk => ?_, fun w' hw' => (hw' _ (by simp)).trans h3⟩
        simp only [yV, List.mem_singleton]; exact (apart (hMS p hp)).1
        intro p hp
        simp only [yV] at hp ⊢
        rcases List.mem_append.1 hp with hp | hp
        obtain ⟨g1, g2⟩ := hMk p hp
        refine ⟨fun hm => (apart (hidS hm)).2.2 p hp rfl, by simpa using g2, ?_⟩
        have hmem := List.mem_cons_of_mem (w.heap.size + 1, Obj.loop r) (List.mem_cons_of_mem (w.heap.size, Obj.deferred (some [])) (List.mem_append_right (LI s0) hp))
        exact (hk3.block p.1 (Jx (hs2.own _ hmem).2.2) (by simp only [List.mem_cons, not_or]; exact ⟨g2, g1⟩)).trans (hs2.own _ hmem).2.2
        have e3 := hs2.readR hp
        have hlt := Jx (hs2.ext p hp).2.2
        have hsz := hs.keep.size
        have hnq : p.1 ≠ w.heap.size + 1 := fun e => by omega
        refine ⟨fun hm => apartR (hidS hm) p hp rfl, by simpa using hnq, ?_⟩
        exact (hk3.block p.1 (Jx e3) (by simp only [List.mem_cons, not_or]; exact ⟨hnq, fun hm => apartR (.inl hm) p hp rfl⟩)).trans e3
        intro k hk; simp only [yV, List.mem_singleton] at hk; subst hk; exact Jx h3
        simp only [List.mem_singleton] at hk
        subst hk
        exact ⟨.inl (by simp [yV]), Jx h3, fun p hp => (apart (hMS p hp)).1⟩
      have hbusy : ∀ {LL : Jo} {w' : World}, St c3 LL (WV (w.heap.size + 1) r) w' →
          St c3 LL (WV (w.heap.size + 1) { r with state := .busy, pending := none }) (w'.putObj (w.heap.size + 1) (.loop { r with state := .busy, pending := none })) := by
        intro LL w' hst
        have hlt : w.heap.size + 1 < w'.heap.size := Jx hst.recd
        refine ⟨hst.keep.trans ((Keep.putObj _ _).weak fun k hm => by simp at hm; subst hm; rw [hc3x]; simp), fun p hp => ?_, hst.distinct, hst.ext, hst.xlt, [w.heap.size + 1], fun k hk => ?_, fun w'' hw'' => (hw'' _ (by simp)).trans (World.putObj_heap_same hlt)⟩
        obtain ⟨g1, g2, g3⟩ := hst.own p hp
        refine ⟨g1, g2, (World.putObj_heap_other ?_).trans g3⟩
        intro e; exact g2 (by rw [e, hc3x]; simp)
        simp only [List.mem_singleton] at hk
        subst hk
        exact ⟨.inl (by rw [hc3x]; simp), Nat.lt_of_lt_of_le hlt (Keep.putObj _ _).size, fun p hp e => (hst.own p hp).2.1 (by rw [hc3x, e]; simp)⟩
      have hfr3 : Fr c3.n [] (wl pp v l) { tmps := (r.params.zip v.toArray).foldl (fun (t : Array Value) (pv : Nat × Value) => t.setIfInBounds pv.1 pv.2) r.tmps, defers := [] } := by
        have h5 := Je7 (n := c.n) pp v l a.tmps (fun p hp => by have := List.all_eq_true.1 hpp p hp; simpa using this) ⟨hfr.size, rfl, hfr.slots⟩
        rw [hr, ← hc3]
        simp only [List.zip_toArray, List.foldl_toArray']
        exact h5
      have key : ∀ RR : Ending → World → Prop,
          (∀ s' w', I i' s' → St c3 (LI s') (WV (w.heap.size + 1) { r with state := .busy, pending := none }) w' → RR (.returned (.bool true)) (w'.putObj (w.heap.size + 1) (.loop { r with state := .ready, pending := none }))) →
          (∀ j s' w', E j s' → St c3 (LE s') (WV (w.heap.size + 1) { r with state := .busy, pending := none }) w' → RR (.returned (.bool false)) (w'.putObj (w.heap.size + 1) (.loop { r with state := .done, pending := some j }))) →
          (∀ ch LL w', pc ch → St c3 LL (WV (w.heap.size + 1) { r with state := .busy, pending := none }) w' → RR (.panicked ch) w') →
          RoundIn (FW none) 0 c.P (w.heap.size + 1) r.fn ((r.params.zip v.toArray).foldl (fun (t : Array Value) (pv : Nat × Value) => t.setIfInBounds pv.1 pv.2) r.tmps) r.assign r.body w3 RR := by
        intro RR g1 g2 g3
        refine qI (F := FW none) (fn := fd) trivial (by rw [hr]; exact hfd) ?_
        have hround' := hround (w.heap.size + 1) (WV (w.heap.size + 1) r) (WV (w.heap.size + 1) { r with state := .busy, pending := none }) w3 i v i' s hi h1
          (fun a₁ w₁ => ∃ w₂, (Instr.beginRound (w.heap.size + 1)).run c.P w₁ = .ok () w₂ ∧ body.wpIn ((FW none).inRound (w.heap.size + 1)) 0 c.P (jr c.P (w.heap.size + 1) RR) a₁ w₂)
        rw [hc3] at hround'
        have hround'' := hround' (fun l' L' hb a₁ w₁ hf₁ hs₁ => ?_) _ w3 hfr3 hst3
        have e1 : r.assign = assign := by rw [hr]
        have e2 : r.body = body := by rw [hr]
        have e3 : c3.P = c.P := by rw [← hc3]; rfl
        have e4 : c3.ro = some (w.heap.size + 1) := by rw [← hc3]; rfl
        rw [e3, e4] at hround''
        rw [e1, e2]
        exact hround''
        have hx1 : w₁.heap[w.heap.size + 1]? = some (.loop r) := hs₁.recd
        refine ⟨_, run_beginRound hx1 (by rw [hr]), ?_⟩
        have hb2 := hb a₁ _ hf₁ (hbusy hs₁)
        have hb3 : ({ r with state := .busy } : Loop) = { r with state := .busy, pending := none } := by rw [hr]
        rw [hb3]
        have e3 : c3.P = c.P := by rw [← hc3]; rfl
        have e4 : c3.ro = some (w.heap.size + 1) := by rw [← hc3]; rfl
        rw [e3, e4] at hb2
        refine wpIn_mono (show body.wpIn ((FW none).inRound (w.heap.size + 1)) 0 c.P _ a₁ _ from hb2) ?_
        have := Ja4 (c3 := c3) (q := w.heap.size + 1) (r := { r with pending := none }) (R := RR) g1 g2 g3
        rw [e3] at this
        exact this
      have turn : ∀ (st : LoopState) (pe : Option Code) (LL : Jo) (w' : World), St c3 LL (WV (w.heap.size + 1) { r with state := .busy, pending := none }) w' →
          (∀ k ∈ (w.heap.size + 1) :: QI LL, k < (w'.putObj (w.heap.size + 1) (.loop { r with state := st, pending := pe })).heap.size ∧ (k ∈ (w.heap.size + 1) :: QI (LI s) ∨ w3.heap.size ≤ k)) ∧
          Keep ((w.heap.size + 1) :: QI (LI s)) w3 (w'.putObj (w.heap.size + 1) (.loop { r with state := st, pending := pe })) ∧ (∀ p ∈ LL, p.1 ∈ M ∨ w2.heap.size ≤ p.1) ∧ vr LL (w'.putObj (w.heap.size + 1) (.loop { r with state := st, pending := pe })) ∧
          (w'.putObj (w.heap.size + 1) (.loop { r with state := st, pending := pe })).heap[w.heap.size + 1]? = some (.loop { r with state := st, pending := pe }) := by
        intro st pe LL w' hst'
        have hlt : w.heap.size + 1 < w'.heap.size := Jx hst'.recd
        have hk' := hst'.keep
        rw [hc3x, hc3i, hc3w] at hk'
        have hown' : ∀ p ∈ LL, (p.1 ∈ QI (LI s) ∨ w3.heap.size ≤ p.1) ∧ p.1 ≠ w.heap.size + 1 ∧ w'.heap[p.1]? = some p.2 := fun p hp => by
          have := hst'.own p hp
          rw [hc3x, hc3i, hc3w] at this
          simpa using this
        refine ⟨fun k hk => ?_, ?_, fun p hp => ?_, fun p hp => (World.putObj_heap_other (hown' p hp).2.1).trans (hown' p hp).2.2, World.putObj_heap_same hlt⟩
        rcases List.mem_cons.1 hk with rfl | hk
        exact ⟨Nat.lt_of_lt_of_le hlt (Keep.putObj _ _).size, .inl List.mem_cons_self⟩
        obtain ⟨p, hp, rfl⟩ := List.mem_map.1 hk
        obtain ⟨e1, e2, e3⟩ := hown' p hp
        exact ⟨Nat.lt_of_lt_of_le (Jx e3) (Keep.putObj _ _).size, e1.imp (List.mem_cons_of_mem _) id⟩
        refine (hk'.weak fun k hm => ?_).trans ((Keep.putObj _ _).weak fun k hm => by simp at hm; subst hm; exact List.mem_cons_self)
        rcases List.mem_append.1 hm with hm | hm
        exact List.mem_cons_of_mem _ hm
        simp only [List.mem_singleton] at hm; subst hm; exact List.mem_cons_self
        rcases (hown' p hp).1 with g | g
        exact hidS g
        exact .inr (Nat.le_trans hk3.size g)
      refine key _ ?_ ?_ ?_
      intro s' w' hI' hst'
      obtain ⟨t1, t2, t3, t4, t5⟩ := turn .ready none (LI s') w' hst'
      refine .inl ⟨true, _, rfl, t1, t2, ?_⟩
      rw [if_pos rfl]
      exact W3 s' hI' hst'.distinct t3 t4 (by rw [hrr] at t5 ⊢; exact t5)
      · intro j s' w' hE' hst'
        obtain ⟨t1, t2, t3, t4, t5⟩ := turn .done (some j) (LE s') w' hst'
        refine .inl ⟨false, _, rfl, t1, t2, ?_⟩
        rw [if_neg (by simp)]
        exact fun w'' hw'' => ⟨j, W3 s' hE' hst'.distinct t3 t4 t5 w'' hw''⟩
      · intro ch LL w' hpc hst'
        have hk' := hst'.keep
        rw [hc3x, hc3i, hc3w] at hk'
        refine .inr ⟨ch, rfl, hpc, hk'.weak fun k hm => ?_⟩
        rcases List.mem_append.1 hm with hm | hm
        exact List.mem_cons_of_mem _ hm
        · simp only [List.mem_singleton] at hm; subst hm; exact List.mem_cons_self
end
theorem Ja5 {P : Program} {f : FuncId} {fn : Func} {code : Code} {vs : List Value} {w : World} {L : Jo} {X : XP} {R : Ending → World → Prop} (c : Cx) (hf : P.funcs[f]? = some fn) (hb : fn.body = some code) (hc : c.P = P) (hro : c.ro = none) (hn : c.n = fn.ntmps)
    (hlen : Nat.ble vs.length fn.ntmps = true) (hs : St c L X w) (h : HCE c [] (Vm 0 vs) L X code (bodyPostM (FW none) 0 P fn R)) : Calls P f vs.toArray w R := by
  refine callsIn_wide (n := 0) |>.1 (Jwz hf hb trivial ?_)
  have h1 := h _ w (qt (n := c.n) (by rw [hn]; exact Nat.le_of_ble_eq_true hlen)) hs
  rw [hro, hc, hn] at h1
  exact h1
theorem Ja6 {α : Type} {P : Program} {f : FuncId} {fn : Func} {code : Code} {vs : List Value} {ok : Prop} {bad : Value → Prop} {V : α → Value} {Rl : Jo} {LL : α → Jo} (hf : P.funcs[f]? = some fn) (hb : fn.body = some code) (hlen : Nat.ble vs.length fn.ntmps = true)
    (h : ∀ w, HCE (cxX P w Rl fn.ntmps) [] (Vm 0 vs) [] (fun _ _ => True) code (bodyPostM (FW none) 0 P fn (Jow (cxX P w Rl fn.ntmps) ok bad V LL))) : PureX P f vs.toArray ok bad V LL Rl := ⟨fun w hR =>
  (Ja5 (cxX P w Rl fn.ntmps) hf hb rfl rfl rfl hlen (St.startX hR) (h w)).mono fun _ _ h => h.imp
    (fun ⟨ho, x, he, hs⟩ => ⟨ho, x, he, by have := hs.keep; simpa [cxX] using this, fun p hp => by have := (hs.own p hp); simp only [cxX, List.not_mem_nil, false_or] at this; exact ⟨this.1, this.2.2⟩, hs.distinct⟩)
    (fun ⟨v, hv, he, hk⟩ => ⟨v, hv, he, hk⟩)⟩
def dF (g : FuncId) (caps : List Value) : Deferred := { target := .fn (.func g) caps.toArray, args := #[] }
def Jvd (c : Cx) (L' : Jo) (X : XP) : Ending → FrameMode → World → Prop := fun e u' w' => (∃ x, e = .returned x) ∧ settle u' = .returning ∧ St c L' X w'
section
variable {c : Cx} {l : Ko} {L : Jo} {X : XP} {Q : Exit → Act → World → Prop} {K : Act → World → Prop} {d : List Deferred}
variable {ops : Array Oper} {rest : List Oper} {i : Nat} {v : Value} {t : TypeId} {ps : String} {af : Array Edge} {gd : Option (Nat × Bool)} {ty : TypeId}
theorem Jo1 {f : Operand} {at_ : Array TypeId} {g : FuncId} {caps : List Value} {dst : Option Nat} (hro : c.ro = none) (hg : Kk l ops ⟨dst, .defer ⟨.value f, #[], at_⟩, ty, ps, af, gd⟩ = some true) (hf : Kg l f = some (.func (.func g) #[] caps.toArray))
    (h : HL c (dF g caps :: d) l L X ops rest Q) (hdst : dst = none) : HL c d l L X ops (⟨dst, .defer ⟨.value f, #[], at_⟩, ty, ps, af, gd⟩ :: rest) Q := fun a w hfr hs => by
  subst hdst
  unfold wpListIn
  rw [if_pos (JE hfr hg)]
  refine ⟨KU, ?_⟩
  have e0 : (FW c.ro).round = none := by rw [hro]; rfl
  rw [e0, Oper.semAt_none]
  have h4 := hfr.eval hf
  have hrun : (execOp a.eval ⟨none, .defer ⟨.value f, #[], at_⟩, ty, ps, af, gd⟩).run c.P w = .ok (.defer (dF g caps)) w := by
    simp only [execOp, Sem.run_bind]
    simp [resolve, h4, Deferred.ofValue, Result.andThen, dF]
  rw [hrun, Oper.uponIn_defer]
  exact h _ w ⟨hfr.size, by simp [Act.put, hfr.defers], hfr.slots⟩ hs
theorem Jo2 {P : Program} {g : FuncId} (eg : Enters P g) (caps : List Value) (w : World) : (invoke (dF g caps).target (dF g caps).args).run P w = .ok (.enter g caps.toArray) w := by
  have := eg (#[] ++ caps.toArray) w
  have e1 : (#[] ++ caps.toArray : Array Value) = caps.toArray := by simp
  rw [e1] at this
  simpa [invoke, dF] using this
theorem Jw0 {fn : Func} {R : Ending → World → Prop} {P : Program} {g : FuncId} {caps : List Value} {L' : Jo} (eg : Enters P g)
    (hD : ∀ w, St c L X w → CallsDIn (FW none) 0 P g caps.toArray .returning w (Jvd c L' X)) (h : HQ c d l L' X (bodyPostM (FW none) 0 P fn R .ret)) : HQ c (dF g caps :: d) l L X (bodyPostM (FW none) 0 P fn R .ret) := fun a w hf hs => by
  show LeavesInM _ _ _ _ _ _ _ _ _
  rw [hf.defers]
  refine ⟨by simp, .inr ⟨fun hdep => (by cases hdep), _, _, g, caps.toArray, rfl, Jo2 eg caps w, fun _ _ => trivial, ?_⟩⟩
  refine CallsDIn.mono (hD w hs) ?_
  rintro e u' w' ⟨⟨x, rfl⟩, hu, hs'⟩
  have h1 := h { tmps := a.tmps, defers := d } w' ⟨hf.size, rfl, hf.slots⟩ hs'
  simp only [hu]
  exact h1
theorem Jto {fn : Func} {R : Ending → World → Prop} {P : Program} {g : FuncId} {caps : List Value} {L' : Jo} {ch : List PanicEntry} (eg : Enters P g)
    (hD : ∀ w, St c L X w → CallsDIn (FW none) 0 P g caps.toArray (.panicking ch) w (Jvd c L' X)) (h : HQ c d l L' X (bodyPostM (FW none) 0 P fn R .ret)) : HQ c (dF g caps :: d) l L X (bodyPostM (FW none) 0 P fn R (.panic ch)) := fun a w hf hs => by
  show LeavesInM _ _ _ _ _ _ _ _ _
  rw [hf.defers]
  refine ⟨by simp, .inr ⟨fun hdep => (by cases hdep), _, _, g, caps.toArray, rfl, Jo2 eg caps w, fun _ _ => trivial, ?_⟩⟩
  refine CallsDIn.mono (hD w hs) ?_
  rintro e u' w' ⟨⟨x, rfl⟩, hu, hs'⟩
  have h1 := h { tmps := a.tmps, defers := d } w' ⟨hf.size, rfl, hf.slots⟩ hs'
  simp only [hu]
  exact h1
end
def HCS (c : Cx) (d : List Deferred) (l : Ko) (L : Jo) (X : XP) (code : Code) (cs : List Frame) (Q : Exit → Act → List Frame → World → Prop) : Prop :=
  ∀ a w, Fr c.n d l a → St c L X w → code.wpSIn (FW none) 0 c.P Q a cs w
def HS (c : Cx) (d : List Deferred) (l : Ko) (L : Jo) (X : XP) (ops : Array Oper) (rest : List Nat) (cs : List Frame) (Q : Exit → Act → List Frame → World → Prop) : Prop :=
  ∀ a w, Fr c.n d l a → St c L X w → wpOpsSIn (FW none) 0 c.P ops Q rest a cs w
section
variable {c : Cx} {l : Ko} {L : Jo} {X : XP} {Q : Exit → Act → List Frame → World → Prop} {d : List Deferred} {cs : List Frame}
variable {ops : Array Oper} {rest : List Nat} {i k : Nat} {v : Value} {o : Oper}
theorem Jo3 {code : Code} (hro : c.ro = none) (h : HC c d l L X code (fun e a w => Q e a cs w)) : HCS c d l L X code cs Q := fun a w hf hs => by
  have h1 := h a w hf hs
  rw [hro] at h1
  exact wpSIn_of_wpIn rfl h1
theorem Jio {x y : Code} (h : ∀ K, (∀ d l L X cs, HCS c d l L X y cs Q → HQ c d l L X (fun a w => K a cs w)) → HCS c d l L X x cs (Exit.thenS K Q)) : HCS c d l L X (x.seq y) cs Q :=
  fun a w hf hs => wpSIn_seq (h (fun a cs w => y.wpSIn (FW none) 0 c.P Q a cs w) (fun _ _ _ _ _ hy a w hf hs => hy a w hf hs) a w hf hs)
theorem yw {id : Nat} {ops : Array Oper} (h : HS c d l L X ops (List.range ops.size) cs Q) : HCS c d l L X (.region id ops false) cs Q := fun a w hf hs => wpSIn_region (h a w hf hs)
theorem Jo4 (h : HQ c d l L X (fun a w => Q .normal a cs w)) : HS c d l L X ops [] cs Q := h
theorem zg (ho : Wy ops.toList k = some o) (hg : Kk l ops o = some true) (hd : o.dst = some i) (hi : Nat.ble (i + 1) c.n = true) (hr : J5 c d l L X o v) (h : HS c d ((i, v) :: l) L X ops rest cs Q) : HS c d l L X ops (k :: rest) cs Q := fun a w hf hs => by
  have hk : ops[k]? = some o := by rw [← QO ho]
  simp only [wpOpsSIn, hk]
  refine ⟨KU, ?_⟩
  rw [if_pos (JE hf hg), hr a w hf hs]
  rw [hd]
  exact h _ w (hf.put (Nat.le_of_ble_eq_true hi)) hs
def Jkr (cs : List Frame) : Value := match recoverD cs with | some (v, _) => v | none => .nilIface
def Jks (cs : List Frame) : List Frame := match recoverD cs with | some (_, cs') => cs' | none => cs
theorem yx (ho : Wy ops.toList k = some o) (hg : Kk l ops o = some true) (hd : o.dst = some i) (hi : Nat.ble (i + 1) c.n = true) (hr : ∀ a w, Fr c.n d l a → (execOp a.eval o).run c.P w = .ok .recover w) {v : Value} {cs' : List Frame} (hv : Jkr cs = v) (hc : Jks cs = cs') (h : HS c d ((i, v) :: l) L X ops rest cs' Q) : HS c d l L X ops (k :: rest) cs Q := fun a w hf hs => by
  have hk : ops[k]? = some o := by rw [← QO ho]
  simp only [wpOpsSIn, hk]
  refine ⟨KU, ?_⟩
  rw [if_pos (JE hf hg), hr a w hf, hd]
  have h1 := h _ w (hf.put (Nat.le_of_ble_eq_true hi)) hs
  subst hv hc
  unfold Jkr Jks at h1
  cases e : recoverD cs with
  | none => rw [e] at h1; exact h1
  | some q => obtain ⟨u, cs2⟩ := q; rw [e] at h1; exact h1
theorem Jo5 {fn : Func} {R : Ending → FrameMode → World → Prop} {rs : List ResultVar} {vs : List Value} {P : Program} {c₀ : Frame} {cs cs' : List Frame} {u' : FrameMode} (hP : c.P = P) (hcs : cs' = { c₀ with mode := u' } :: cs) (hr : fn.results = rs.toArray) (h : ResAll c l L rs vs) (hR : ∀ w, St c L X w → R (.returned (JN vs)) u' w) :
    HQ c [] l L X (fun a w => bodyPostS P fn c₀ cs R .ret a cs' w) := fun a w hf hs => ⟨hf.defers, u', hcs, _, hP ▸ qS hf hs h hr, hR w hs⟩
theorem xf {fn : Func} {R : Ending → FrameMode → World → Prop} {rs : List ResultVar} {vs : List Value} {P : Program} {c₀ : Frame} {cs cs' : List Frame} {u' : FrameMode} (hP : c.P = P) (hcs : cs' = { c₀ with mode := u' } :: cs) (hr : fn.results = rs.toArray) (h : ResAll c l L rs vs) (hR : ∀ w, St c L X w → R (.returned (JN vs)) u' w) :
    HQ c [] l L X (fun a w => bodyPostS P fn c₀ cs R .normal a cs' w) := Jo5 (R := R) (fn := fn) hP hcs hr h hR
end
theorem qg {P : Program} {f : FuncId} {fn : Func} {code : Code} {vs : List Value} {L : Jo} {X : XP} {u : FrameMode} {w : World} {R : Ending → FrameMode → World → Prop} (c : Cx) (hf : P.funcs[f]? = some fn) (hb : fn.body = some code) (hc : c.P = P) (hn : c.n = fn.ntmps)
    (hlen : Nat.ble vs.length fn.ntmps = true) (hs : St c L X w) (h : ∀ c₀ cs, c₀.mode = u → HCS c [] (Vm 0 vs) L X code (c₀ :: cs) (bodyPostS P fn c₀ cs R)) : CallsDIn (FW none) 0 P f vs.toArray u w R := by
  refine callsDIn_of_wpSIn hf hb trivial fun c₀ cs hu => ?_
  have h1 := h c₀ cs hu _ w (qt (n := c.n) (by rw [hn]; exact Nat.le_of_ble_eq_true hlen)) hs
  rw [hc, hn] at h1
  exact h1
theorem Jo6 {c₀ : Frame} {cs : List Frame} {v : Value} (h : c₀.mode = .panicking (yv v)) : Jkr (c₀ :: cs) = v ∧ Jks (c₀ :: cs) = { c₀ with mode := .panicking [{ v, recovered := true }] } :: cs := by
  have e : recoverD (c₀ :: cs) = some (v, { c₀ with mode := .panicking [{ v, recovered := true }] } :: cs) := by simp only [recoverD, h, yv]
  unfold Jkr Jks
  rw [e]
  exact ⟨rfl, rfl⟩
theorem Jo7 {c₀ : Frame} {cs : List Frame} (h : c₀.mode = .returning) : Jkr (c₀ :: cs) = .nilIface ∧ Jks (c₀ :: cs) = { c₀ with mode := .returning } :: cs := by
  have e : recoverD (c₀ :: cs) = none := by simp only [recoverD, h]
  unfold Jkr Jks
  rw [e]
  refine ⟨rfl, ?_⟩
  cases c₀
  simp only at h
  rw [h]
def Ja7 : Ko → Nat → Option Value
  | [], _ => none
  | (j, v) :: l, i => match Nat.beq i j with | true => some v | false => Ja7 l i
def Zp (ops : List Oper) (j : Nat) : Option Nat := match Wy ops j with | some o => o.dst | none => none
def yy (ops : List Oper) (tv : Ko) : List Edge → Ko
  | [] => []
  | e :: es => match Zp ops e.on, Ja7 tv e.on with | some i, some v => (i, v) :: yy ops tv es | _, _ => yy ops tv es
def Jeb (ops : List Oper) (tv : Ko) (j : Nat) : Ko := match Wy ops j with | some o => yy ops tv (o.after.toList.filter fun e => Region.binds .any e) | none => []
def Jve (ops : List Oper) (P : List Nat) (k : Nat) : Bool :=
  (P.all fun j => Nat.blt j ops.length) && Nat.blt k ops.length && !P.contains k && Nat.blt P.length ops.length &&
  ((k :: P).all fun j => match Wy ops j with | some o => Kp o.op && o.guard.isNone && (o.after.all fun e => !Region.binds .any e || (P.contains e.on && Nat.blt e.on j)) | none => false) &&
  ((List.range ops.length).all fun j => P.contains j || Nat.beq j k || (match Wy ops j with | some o => o.after.any fun e => Region.binds .any e && !P.contains e.on | none => false))
def Zq (n : Nat) (l : Ko) (ops : List Oper) : List Nat → Bool
  | [] => true
  | j :: r => (match Zp ops j with | some i => Nat.blt i n && (match Vz l i with | some _ => false | none => true) && (r.all fun j' => match Zp ops j' with | some i' => !Nat.beq i i' | none => false) | none => false) && Zq n l ops r
inductive BoomOk (c : Cx) (d : List Deferred) (l : Ko) (L : Jo) (X : XP) (ops : List Oper) (tv : Ko) : Ko → Prop
  | nil : BoomOk c d l L X ops tv []
  | cons {j : Nat} {v : Value} {o : Oper} {ds rest : Ko} (h1 : Wy ops j = some o) (h2 : Jeb ops tv j = ds) (h3 : J5 c d (ds ++ l) L X o v) (h : BoomOk c d l L X ops tv rest) : BoomOk c d l L X ops tv ((j, v) :: rest)
theorem BoomOk.get {c : Cx} {d : List Deferred} {l : Ko} {L : Jo} {X : XP} {ops : List Oper} {tv : Ko} : ∀ {tw : Ko}, BoomOk c d l L X ops tv tw → ∀ p ∈ tw, ∃ o, Wy ops p.1 = some o ∧ J5 c d (Jeb ops tv p.1 ++ l) L X o p.2
  | _, .nil, p, h => by cases h
  | _, .cons h1 h2 h3 h, p, hp => by
    rcases List.mem_cons.1 hp with rfl | hp
    · exact ⟨_, h1, h2 ▸ h3⟩
    · exact h.get p hp
theorem yz : ∀ {tv : Ko} {i : Nat} {v : Value}, Ja7 tv i = some v → (i, v) ∈ tv
  | [], _, _, h => by cases h
  | (j, u) :: l, i, v, h => by
    rw [Ja7] at h
    split at h
    · rename_i e
      obtain rfl := Nat.eq_of_beq_eq_true e
      cases h; exact List.mem_cons_self
    · exact List.mem_cons_of_mem _ (yz h)
theorem Jo8 {d l : Ko} {i : Nat} {v : Value} (h : Vz (d ++ l) i = some v) : (i, v) ∈ d ∨ Vz l i = some v := by
  induction d with
  | nil => exact .inr h
  | cons x xs ih =>
    obtain ⟨j, u⟩ := x
    rw [List.cons_append, Vz] at h
    split at h
    · rename_i e
      obtain rfl := Nat.eq_of_beq_eq_true e
      cases h; exact .inl List.mem_cons_self
    · exact (ih h).imp (List.mem_cons_of_mem _) id
theorem jt {ops : List Oper} {tv : Ko} : ∀ {es : List Edge} {i : Nat} {v : Value}, (i, v) ∈ yy ops tv es → ∃ e ∈ es, Zp ops e.on = some i ∧ (e.on, v) ∈ tv
  | [], _, _, h => by cases h
  | e :: es, i, v, h => by
    rw [yy] at h
    split at h
    · rename_i i' v' h1 h2
      rcases List.mem_cons.1 h with e1 | h
      · cases e1; exact ⟨e, List.mem_cons_self, h1, yz h2⟩
      · obtain ⟨e', h3, h4⟩ := jt h; exact ⟨e', List.mem_cons_of_mem _ h3, h4⟩
    · obtain ⟨e', h3, h4⟩ := jt h; exact ⟨e', List.mem_cons_of_mem _ h3, h4⟩
theorem yA {n : Nat} {l : Ko} {ops : List Oper} : ∀ {P : List Nat}, Zq n l ops P = true → ∀ j ∈ P, ∃ i, Zp ops j = some i ∧ i < n ∧ Vz l i = none
  | [], _, j, h => by cases h
  | k :: r, h, j, hj => by
    rw [Zq, Bool.and_eq_true] at h
    rcases List.mem_cons.1 hj with rfl | hj
    · have h1 := h.1
      split at h1
      · rename_i i hi
        simp only [Bool.and_eq_true] at h1
        have h2 := h1.1.2
        split at h2
        · cases h2
        · rename_i h3
          exact ⟨i, hi, by have := h1.1.1; simpa using this, h3⟩
      · cases h1
    · exact yA h.2 j hj
theorem xg {n : Nat} {l : Ko} {ops : List Oper} : ∀ {P : List Nat}, Zq n l ops P = true → ∀ j ∈ P, ∀ j' ∈ P, j ≠ j' → ∀ i i', Zp ops j = some i → Zp ops j' = some i' → i ≠ i'
  | [], _, j, h, _, _, _, _, _, _, _ => by cases h
  | k :: r, h, j, hj, j', hj', hne, i, i', hi, hi' => by
    rw [Zq, Bool.and_eq_true] at h
    have key : ∀ x ∈ r, ∀ i i', Zp ops k = some i → Zp ops x = some i' → i ≠ i' := fun x hx i i' hi hi' => by
      have h1 := h.1
      rw [hi] at h1
      simp only [Bool.and_eq_true] at h1
      have h2 := List.all_eq_true.1 h1.2 x hx
      rw [hi'] at h2
      simp only [Bool.not_eq_true'] at h2
      intro e
      rw [e, Nat.beq_refl] at h2
      cases h2
    rcases List.mem_cons.1 hj with rfl | hjr
    · rcases List.mem_cons.1 hj' with rfl | hjs
      · exact absurd rfl hne
      · exact key j' hjs i i' hi hi'
    · rcases List.mem_cons.1 hj' with rfl | hjs
      · exact fun e => key j hjr i' i hi' hi e.symm
      · exact xg h.2 j hjr j' hjs hne i i' hi hi'
theorem qh {n : Nat} {l : Ko} {ops : List Oper} : ∀ {P : List Nat}, Zq n l ops P = true → P.Nodup
  | [], _ => List.nodup_nil
  | k :: r, h => by
    rw [Zq, Bool.and_eq_true] at h
    refine List.nodup_cons.2 ⟨fun hm => ?_, qh h.2⟩
    have h1 := h.1
    split at h1
    · rename_i i hi
      simp only [Bool.and_eq_true] at h1
      have h2 := List.all_eq_true.1 h1.2 k hm
      rw [hi] at h2
      simp at h2
    · cases h1
theorem Jo9 {tv : Ko} (h : (tv.map (·.1)).Nodup) {p q : Nat × Value} (hp : p ∈ tv) (hq : q ∈ tv) (e : q.1 = p.1) : q.2 = p.2 := by
  induction tv with
  | nil => cases hp
  | cons x xs ih =>
    rw [List.map_cons, List.nodup_cons] at h
    rcases List.mem_cons.1 hp with rfl | hpr
    · rcases List.mem_cons.1 hq with rfl | hqr
      · rfl
      · exact absurd (List.mem_map.2 ⟨q, hqr, e⟩) h.1
    · rcases List.mem_cons.1 hq with rfl | hqr
      · exact absurd (List.mem_map.2 ⟨p, hpr, e.symm⟩) h.1
      · exact ih h.2 hpr hqr
theorem yB {f g : Nat → Bool} (hfg : ∀ j, g j = true → f j = true) : ∀ P : List Nat, (P.filter g).length ≤ (P.filter f).length
  | [] => Nat.le_refl _
  | x :: xs => by
    have := yB hfg xs
    by_cases hg : g x = true
    · rw [List.filter_cons_of_pos hg, List.filter_cons_of_pos (hfg x hg)]; simpa using this
    · rw [List.filter_cons_of_neg hg]
      by_cases hf : f x = true
      · rw [List.filter_cons_of_pos hf]; simp; omega
      · rw [List.filter_cons_of_neg hf]; exact this
theorem yC {f g : Nat → Bool} (hfg : ∀ j, g j = true → f j = true) {i : Nat} (h1 : f i = true) (h2 : g i = false) : ∀ {P : List Nat}, i ∈ P → (P.filter g).length < (P.filter f).length
  | [], h => by cases h
  | x :: xs, h => by
    by_cases hx : x = i
    · subst hx
      rw [List.filter_cons_of_neg (by rw [h2]; simp), List.filter_cons_of_pos h1]
      have := yB hfg xs
      simp; omega
    · have ih := yC hfg h1 h2 (P := xs) (by rcases List.mem_cons.1 h with e | h; exact absurd e.symm hx; exact h)
      by_cases hg : g x = true
      · rw [List.filter_cons_of_pos hg, List.filter_cons_of_pos (hfg x hg)]; simpa using ih
      · rw [List.filter_cons_of_neg hg]
        by_cases hf : f x = true
        · rw [List.filter_cons_of_pos hf]; simp; omega
        · rw [List.filter_cons_of_neg hf]; exact ih
theorem Jip {c : Cx} {d : List Deferred} {l : Ko} {L : Jo} {X : XP} {Q : Exit → Act → World → Prop} {id : Nat} {ops : List Oper} (tv : Ko) (k : Nat) {ok : Oper} {P : List Nat} {dk : Ko} (hm : c.P.follows .mixedOrders = true) (hP : tv.map (·.1) = P) (hB : Jve ops P k = true)
    (hf : Zq c.n l ops P = true) (hr : BoomOk c d l L X ops tv tv) (hk : Wy ops k = some ok) (hdk : Jeb ops tv k = dk)
    (hp : ∀ (next : Act → World → Prop) a w, Fr c.n d (dk ++ l) a → St c L X w → ok.uponIn (FW c.ro) 0 c.P a next Q ((execOp a.eval ok).run c.P w)) : HC c d l L X (.region id ops.toArray true) Q := fun a w hfr hs => by
  subst hdk
  simp only [Jve, Bool.and_eq_true] at hB
  obtain ⟨⟨⟨⟨⟨b1, b2⟩, b3⟩, b4⟩, b5⟩, b6⟩ := hB
  have b2' : k < ops.length := by simpa using b2
  have b3' : k ∉ P := by simpa using b3
  have b4' : P.length < ops.length := by simpa using b4
  have toArr : ∀ {j : Nat} {o : Oper}, Wy ops j = some o → ops.toArray[j]? = some o := fun {j o} h => by rw [Vk] at h; simpa using h
  have op5 : ∀ j, j = k ∨ j ∈ P → ∃ o, Wy ops j = some o ∧ Kp o.op = true ∧ o.guard = none ∧ ∀ e ∈ o.after, Region.binds .any e = true → e.on ∈ P ∧ e.on < j := fun j hj => by
    have h1 := List.all_eq_true.1 b5 j (by rcases hj with rfl | hj; exact List.mem_cons_self; exact List.mem_cons_of_mem _ hj)
    split at h1
    rename_i o ho
    simp only [Bool.and_eq_true] at h1
    refine ⟨o, ho, h1.1.1, by simpa using h1.1.2, fun e he hb => ?_⟩
    have h2 := h1.2
    rw [Array.all_eq_true_iff_forall_mem] at h2
    have h3 := h2 e he
    rw [hb] at h3
    simpa using h3
    cases h1
  have op6 : ∀ j o, Wy ops j = some o → j ∉ P → j ≠ k → ∃ e ∈ o.after, Region.binds .any e = true ∧ e.on ∉ P := fun j o ho hj hjk => by
    have hjl : j < ops.length := by rw [Vk] at ho; exact (List.getElem?_eq_some_iff.1 ho).1
    have h1 := List.all_eq_true.1 b6 j (List.mem_range.2 hjl)
    rw [ho] at h1
    have e1 : P.contains j = false := by simpa using hj
    have e2 : Nat.beq j k = false := by rw [Bool.eq_false_iff]; exact fun h => hjk (Nat.eq_of_beq_eq_true h)
    rw [e1, e2] at h1
    simp only [Bool.false_or] at h1
    obtain ⟨q, hq, h2⟩ := Array.any_eq_true.1 h1
    have he := Array.getElem_mem hq
    generalize o.after[q] = e at he h2
    simp only [Bool.and_eq_true, Bool.not_eq_true'] at h2
    exact ⟨e, he, h2.1, by simpa using h2.2⟩
  -- what holds on the way
  let Inv : Array Bool → Act → Prop := fun listed a => listed.size = ops.length ∧ (∀ j, listed.getD j false = true → j ∈ P) ∧ Fr c.n d l a ∧ ∀ p ∈ tv, listed.getD p.1 false = true → ∀ i, Zp ops p.1 = some i → a.tmps[i]? = some p.2
  have both : ∀ {listed : Array Bool} {j : Nat}, listed.size = ops.length → j < ops.length → listed.getD j true = listed.getD j false := fun {listed j} h1 h2 => by
    simp [Array.getD, h1, h2]
  have rdy : ∀ {listed : Array Bool} {a : Act}, Inv listed a → ∀ N j, j ≤ N → (j = k ∨ j ∈ P) → listed.getD j false = false → ∃ i, i ∈ Region.ready .any ops.toArray listed := fun {listed a} hi N => by
    induction N with
    | zero =>
      intro j hj hjP hun
      obtain ⟨o, ho, _, _, hdep⟩ := op5 j hjP
      have hjl : j < ops.length := by rw [Vk] at ho; exact (List.getElem?_eq_some_iff.1 ho).1
      exact ⟨j, mem_ready.2 ⟨by rw [both hi.1 hjl]; exact hun, o, toArr ho, fun e he hb => by have := (hdep e he hb).2; omega⟩⟩
    | succ N ih =>
      intro j hj hjP hun
      obtain ⟨o, ho, _, _, hdep⟩ := op5 j hjP
      have hjl : j < ops.length := by rw [Vk] at ho; exact (List.getElem?_eq_some_iff.1 ho).1
      by_cases hall : ∀ e ∈ o.after, Region.binds .any e = true → listed.getD e.on false = true
      exact ⟨j, mem_ready.2 ⟨by rw [both hi.1 hjl]; exact hun, o, toArr ho, hall⟩⟩
      obtain ⟨e, he⟩ := Classical.not_forall.1 hall
      obtain ⟨he, h2⟩ := Classical.not_imp.1 he
      obtain ⟨hb, h3⟩ := Classical.not_imp.1 h2
      obtain ⟨h4, h5⟩ := hdep e he hb
      exact ih e.on (by omega) (.inr h4) (by simpa using h3)
  have frd : ∀ {listed : Array Bool} {a : Act} {j : Nat} {o : Oper}, Inv listed a → Wy ops j = some o → (∀ e ∈ o.after, Region.binds .any e = true → listed.getD e.on false = true) → Fr c.n d (Jeb ops tv j ++ l) a := fun {listed a j o} hi ho hall => by
    refine ⟨hi.2.2.1.size, hi.2.2.1.defers, fun i v hv => ?_⟩
    rcases Jo8 hv with h | h
    unfold Jeb at h
    rw [ho] at h
    obtain ⟨e, he, h1, h2⟩ := jt h
    rw [List.mem_filter] at he
    exact hi.2.2.2 (e.on, v) h2 (hall e (by simpa using he.1) he.2) i h1
    exact hi.2.2.1.slots i v h
  have main : ∀ (f : Nat) (listed : Array Bool) (a : Act) (w : World), Inv listed a → St c L X w → (P.filter fun j => !listed.getD j false).length ≤ f → wpAnyIn (FW c.ro) 0 c.P .any ops.toArray Q (f + 1) listed a w := by
    intro f
    induction f with
    | zero =>
      intro listed a w hi hs hcnt
      have hku : listed.getD k false = false := by
        cases h : listed.getD k false with
        | false => rfl
        | true => exact absurd (hi.2.1 k h) b3'
      refine ⟨fun h0 => ?_, fun i hir => ?_⟩
      obtain ⟨i, hir⟩ := rdy hi k k (Nat.le_refl _) (.inl rfl) hku
      rw [h0] at hir; cases hir
      obtain ⟨hun, o, ho, hall⟩ := mem_ready.1 hir
      have hil : i < ops.length := by have := (Array.getElem?_eq_some_iff.1 ho).1; simpa using this
      have ho' : Wy ops i = some o := by rw [Vk]; simpa using ho
      by_cases hik : i = k
      subst hik
      rw [hk] at ho'
      cases ho'
      obtain ⟨o2, g1, g2, g3, _⟩ := op5 i (.inl rfl)
      rw [hk] at g1; cases g1
      unfold wpOpIn
      simp only [ho]
      rw [if_pos (by unfold Region.wanted; rw [g3])]
      refine ⟨KU, ?_⟩
      rw [Oper.semAt_eq _ _ _ (W0 g2)]
      exact hp _ a w (frd hi hk hall) hs
      by_cases hiP : i ∈ P
      have h1 : listed.getD i false = false := by rw [← both hi.1 hil]; exact hun
      have : i ∈ P.filter fun j => !listed.getD j false := List.mem_filter.2 ⟨hiP, by rw [h1]; rfl⟩
      rw [List.length_eq_zero_iff.1 (Nat.le_zero.1 hcnt)] at this
      cases this
      obtain ⟨e, he, hb, hno⟩ := op6 i o ho' hiP hik
      exact absurd (hi.2.1 _ (hall e he hb)) hno
    | succ f ih =>
      intro listed a w hi hs hcnt
      have hku : listed.getD k false = false := by
        cases h : listed.getD k false with
        | false => rfl
        | true => exact absurd (hi.2.1 k h) b3'
      refine ⟨fun h0 => ?_, fun i hir => ?_⟩
      obtain ⟨i, hir⟩ := rdy hi k k (Nat.le_refl _) (.inl rfl) hku
      rw [h0] at hir; cases hir
      · obtain ⟨hun, o, ho, hall⟩ := mem_ready.1 hir
        have hil : i < ops.length := by have := (Array.getElem?_eq_some_iff.1 ho).1; simpa using this
        have ho' : Wy ops i = some o := by rw [Vk]; simpa using ho
        by_cases hik : i = k
        subst hik
        rw [hk] at ho'
        cases ho'
        obtain ⟨o2, g1, g2, g3, _⟩ := op5 i (.inl rfl)
        rw [hk] at g1; cases g1
        unfold wpOpIn
        simp only [ho]
        rw [if_pos (by unfold Region.wanted; rw [g3])]
        refine ⟨KU, ?_⟩
        rw [Oper.semAt_eq _ _ _ (W0 g2)]
        exact hp _ a w (frd hi hk hall) hs
        · by_cases hiP : i ∈ P
          · have h1 : listed.getD i false = false := by rw [← both hi.1 hil]; exact hun
            rw [← hP] at hiP
            obtain ⟨p, hpm, rfl⟩ := List.mem_map.1 hiP
            rw [hP] at hiP
            obtain ⟨o2, g1, hrun⟩ := hr.get p hpm
            rw [ho'] at g1; cases g1
            obtain ⟨o3, g2, g3, g4, _⟩ := op5 p.1 (.inr hiP)
            rw [ho'] at g2; cases g2
            obtain ⟨dst, f1, f2, f3⟩ := yA hf p.1 hiP
            have f1' : o.dst = some dst := by unfold Zp at f1; rw [ho'] at f1; exact f1
            unfold wpOpIn
            simp only [ho]
            rw [if_pos (by unfold Region.wanted; rw [g4])]
            refine ⟨KU, ?_⟩
            rw [Oper.semAt_eq _ _ _ (W0 g3), hrun a w (frd hi ho' hall) hs, Oper.uponIn_value, f1']
            refine ih _ _ w ⟨by simp [hi.1], fun j hj => ?_, ?_, fun q hq hlq i' hi' => ?_⟩ hs ?_
            by_cases hjp : j = p.1
            rw [hjp]; exact hiP
            refine hi.2.1 j ?_
            have e1 : (listed.setIfInBounds p.1 true).getD j false = listed.getD j false := getD_set_ne false (fun e => hjp e.symm)
            rw [← e1]; exact hj
            refine ⟨by simp [Act.put, hi.2.2.1.size], by simp [Act.put, hi.2.2.1.defers], fun i2 v2 hv2 => ?_⟩
            have hne : dst ≠ i2 := fun e => by rw [e, hv2] at f3; cases f3
            simp only [Act.put, Array.getElem?_setIfInBounds, if_neg hne]
            exact hi.2.2.1.slots i2 v2 hv2
            · by_cases hqp : q.1 = p.1
              have e1 : i' = dst := by rw [hqp, f1] at hi'; exact (Option.some.inj hi').symm
              subst e1
              have e2 : q.2 = p.2 := by
                exact Jo9 (by rw [hP]; exact qh hf) hpm hq hqp
              simp only [Act.put, Array.getElem?_setIfInBounds, if_true, hi.2.2.1.size, f2, e2]
              · have e1 : (listed.setIfInBounds p.1 true).getD q.1 false = listed.getD q.1 false := getD_set_ne false (fun e => hqp e.symm)
                rw [e1] at hlq
                have hne : dst ≠ i' := xg hf p.1 hiP q.1 (by rw [← hP]; exact List.mem_map_of_mem (f := (·.1)) hq) (fun e => hqp e.symm) _ _ f1 hi'
                simp only [Act.put, Array.getElem?_setIfInBounds, if_neg hne]
                exact hi.2.2.2 q hq hlq i' hi'
            have hlt := yC (f := fun j => !listed.getD j false) (g := fun j => !(listed.setIfInBounds p.1 true).getD j false) (fun j hj => by
              by_cases hjp : j = p.1
              subst hjp
              simp [Array.getD, hi.1, hil] at hj
              rw [getD_set_ne false (fun e => hjp e.symm)] at hj; exact hj) (i := p.1) (by rw [h1]; rfl) (by simp [Array.getD, hi.1, hil]) hiP
            omega
          obtain ⟨e, he, hb, hno⟩ := op6 i o ho' hiP hik
          exact absurd (hi.2.1 _ (hall e he hb)) hno
  refine wpIn_region_any hm ?_
  have hsz : ops.toArray.size = (ops.length - 1) + 1 := by simp; omega
  rw [hsz]
  refine main _ _ a _ ⟨by simp; omega, fun j hj => ?_, hfr, fun p _ hlp => ?_⟩ (show St c L X w.drew from hs.drew) ?_
  rw [getD_replicate_false] at hj; cases hj
  rw [getD_replicate_false] at hlp; cases hlp
  · have := List.length_filter_le (fun j => !(Array.replicate ((ops.length - 1) + 1) false).getD j false) P
    omega
end Go.SL
namespace Go.Proofs.YteceenlfegnigaaGreatDoor
set_option linter.all false
open Go.SL Go.RowKit Go.Shelf
abbrev xh (e : Int) : Value := .iface 113 (.agg #[.int .i64 e])
theorem VL (b : Bool) (e : Int) : PureX (α := Unit) Tryz.prog 94 [.bool b, .int .i64 e].toArray (b = true) (fun v => b = false ∧ v = xh e) (fun _ => .tuple #[]) (fun _ => []) [] := by
  refine XS Tryz.func94 rfl rfl fun w => ?_; refine sR fun _ hK1 => LS 2 [] rfl rfl (nK hK1 ?_); refine Jc rfl (fun h2 => ?_) (fun h2 => ?_)
  try simp only [ZZ] at h2
  refine Ja (Ji rfl (LR rfl (JK (r := [_]) rfl rfl) ?_)); refine JY rfl (Jox rfl rfl ?_); exact Qo rfl rfl ⟨by assumption, rfl⟩
  · try simp only [ZZ] at h2
    refine Jg ?_; refine QA rfl rfl .nil (fun w1 hs1 => ?_); exact .inl ⟨by assumption, (), rfl, hs1.weakL (List.nil_sublist _)⟩
theorem Jvf {s : BS} (h : 4 ≤ s.length) : wF (s.take 4) = (Wq (s.take 4), 0) ∧ Wq (s.take 4) < 4294967296 := by
  have hl : (s.take 4).length = 4 := by rw [List.length_take]; omega
  have h2 := Jfe (s.take 4)
  rw [hl] at h2; refine ⟨?_, h2⟩
  unfold wF
  rw [if_neg (by omega)]
theorem Jpa {s : BS} (h : 4 ≤ s.length) : Pure Tryz.prog 186 [J3 s].toArray (.int .i64 ((Wq (s.take 4) : Nat) : Int)) := by
  obtain ⟨h1, h2⟩ := Jvf h
  refine JG Tryz.func186 rfl rfl fun w => ?_; refine sR fun _ hK1 => Ji rfl (nK hK1 ?_); refine sR fun _ hK2 => ?_; refine Ji rfl (LR rfl (VE (kl := none) (kh := some (.i64, 4)) (m := 0) (n := 4) rfl rfl rfl rfl rfl rfl (by omega) (by omega) (show _ = s.take 4 from by rw [List.drop_zero])) (JF rfl rfl rfl (enters_of Tryz.func246 (by kernel_rfl) rfl) (Jfs (s.take 4)) ?_)); refine Jy (congrArg Jyo h1) ?_; refine LS 5 [] rfl rfl (nK hK2 ?_); refine sR fun _ hK3 => LS 2 [] rfl rfl ?_; refine Jy (show _ = Value.int .i64 ((Wq (s.take 4) : Nat)) from congrArg (Value.int .i64) (wrap_i64 (by omega) (by omega))) ?_; refine Ji rfl (nK hK3 ?_); refine Jb (pT rfl rfl rfl fun w1 hs1 => ?_); exact ⟨rfl, hs1.keep⟩
theorem Ja8 (s : BS) : ∃ a b c d, Xi s = [a, b, c, d] := by
  have := (Jag s).1
  match hq : Xi s, this with
  | [a, b, c, d], _ => exact ⟨a, b, c, d, rfl⟩
theorem Jtp {s : BS} (h : s.length ≤ 32) : vv (Y8 s).reverse = (Xi s, 0) := by
  unfold vv Xi
  rw [if_pos (by rw [List.length_reverse, WO h])]
theorem xj {s : BS} (h : s.length ≤ 32) : Pure Tryz.prog 144 [J3 s].toArray (Go.SL.wV (Xi s)) := by
  have hu := Jtp h
  have hp := WO h
  obtain ⟨a, b, c, d, hn⟩ := Ja8 s
  rw [hn] at hu ⊢; refine JG Tryz.func144 rfl rfl fun w => ?_; refine sR fun _ hK1 => ?_; refine LN rfl fun r1 => ?_; refine nK hK1 (sR fun _ hK2 => ?_); refine LS 2 [] rfl rfl ?_; refine LR rfl (Ke rfl rfl) ?_; refine JY rfl ?_; refine Jy (show _ = Value.int .i64 ((32 - s.length : Nat)) from congrArg (Value.int .i64) (by rw [wrap_i64 (by omega) (by omega)]; omega)) ?_; refine JF rfl rfl rfl Jv8 (q6 (n := 32 - s.length) (by omega)) ?_; rw [jk]; refine LR rfl (V7 (a := s) (b := List.replicate (32 - s.length) 0) rfl rfl (by rw [List.length_replicate]; omega)) ?_; refine JF rfl rfl rfl Jmm (Jdz (s := Y8 s) (by omega)) ?_; refine JF rfl rfl rfl (enters_of Tryz.func184 (by kernel_rfl) rfl) (wx (Y8 s).reverse) ?_; refine Jy (congrArg Jrn hu) ?_; refine LS 3 [] rfl rfl ?_; refine LN rfl fun r2 => ?_
  refine LT 0 rfl rfl (Ji rfl ?_); refine nK hK2 (sR fun _ hK3 => ?_); refine LR rfl (Jw (vs := [_, _, _, _]) rfl (kn 0 rfl) rfl rfl rfl rfl) ?_
  refine LT 1 rfl rfl (nK hK3 ?_); refine Jb ?_; refine Jt rfl rfl (.cons (J9 (vs := [_, _, _, _]) rfl (kn 1 rfl) rfl rfl) .nil) (fun w1 hs1 => ?_); exact ⟨rfl, hs1.keep⟩
theorem Jtq (s : BS) (i : Nat) : QD (JH s (i + 1)) = QD (JH s i) ++ [Value.bool (Qw s i)] := by
  unfold QD JH
  rw [List.range_succ, List.map_append, List.map_append]; rfl
theorem Jyy {b : UInt8} {i : Nat} : (b.toNat / 2 ^ i) &&& 1 = if b.toNat.testBit i then 1 else 0 := by
  rw [Nat.and_one_is_mod, Nat.testBit_eq_decide_div_mod_eq]
  by_cases h : b.toNat / 2 ^ i % 2 = 1
  · rw [h]; simp
  · rw [if_neg (by simpa using h)]; omega
theorem Jpb {s : BS} {n : Nat} (hn : n ≤ 8 * s.length) (hl : s.length ≤ 100000) : PureT (α := { row : V5 // rowOk 1 n (QD (JH s n)) row }) Tryz.prog 145 [J3 s, .int .i64 (n : Int)].toArray (fun x => JD n x.1) [] (fun x => JV 4 (QD (JH s n)) x.1) [] := by
  refine JI Tryz.func145 rfl rfl fun w => ?_; refine sR fun _ hK1 => Ji rfl (nK hK1 ?_); refine sR fun _ hK2 => Ji rfl (nK hK2 ?_); refine sQ fun _ hK3 => sR fun _ hK4 => ?_; refine LS 2 [] rfl rfl (nK hK4 ?_); refine Js (JL (σ := Nat × V5) (fun q => q.1 ≤ n ∧ rowOk 1 q.1 (QD (JH s q.1)) q.2) (fun q => [(0, J3 s), (5, JD q.1 q.2), (7, .int .i64 (n : Int)), (8, .int .i64 (q.1 : Int))]) (fun q => JV 4 (QD (JH s q.1)) q.2) (fun _ _ _ => True) (fun q => n - q.1) (0, none) ⟨Nat.zero_le _, rfl, rfl⟩ (.cons rfl (.cons rfl (.cons rfl (.cons rfl .nil)))) (List.Sublist.refl _) (fun _ _ h => h) ?_); rintro ⟨i, row⟩ ⟨hi1, hrow⟩; simp only at hi1 hrow; refine sR fun _ hK5 => JY rfl (nK hK5 ?_); refine sQ fun _ hK6 => ?_; refine Jc rfl (fun h7 => ?_) (fun h7 => ?_)
  · try simp only [ZZ] at h7
    refine Jg (hK6 ?_); refine sB fun _ hK8 => sR fun _ hK9 => ?_; refine LS 2 [] rfl rfl (nK hK9 ?_); refine Ja (LS 4 [] rfl rfl (Jy (show _ = Value.int .i64 ((i / 8 : Nat)) from congrArg (Value.int .i64) (QR (by omega) (by decide) (by omega))) ?_)); refine LR rfl (W6 (j := i / 8) rfl rfl rfl rfl (by omega) rfl) ?_; refine LS 2 [] rfl rfl ?_; refine Jy (show _ = Value.int .i64 ((i % 8 : Nat)) from congrArg (Value.int .i64) (WE _ _)) ?_; refine LR rfl (wo (n := i % 8) (b := (((s.getD (i / 8) 0).toNat / 2 ^ (i % 8) : Nat) : Int)) rfl rfl rfl (show _ ≤ 8 from by omega) (by omega) (by rw [Int.natCast_ediv])) ?_; refine LR rfl (vM (op := .and) (m := (s.getD (i / 8) 0).toNat / 2 ^ (i % 8)) (n := 1) rfl rfl rfl (Nat.lt_of_le_of_lt (Nat.div_le_self _ _) (Vg _)) (by decide) (congrArg Int.ofNat Jyy)) ?_
    refine JY rfl ?_; refine Jy (show _ = Value.bool (Qw s i) from by unfold Qw; cases (s.getD (i / 8) 0).toNat.testBit (i % 8) <;> rfl) ?_; refine Ki (vs := [_]) (zs := [_]) (r := [_]) rfl rfl rfl rfl rfl rfl rfl rfl rfl (by show (madeCells #[_] _).toList = _; rw [VP]; exact rfl) rfl fun r1 => ?_; refine Km (L0 := [_]) (xs := QD (JH s i)) (row := row) (n := i) (sz := 1) (b := 1) (news := [Value.bool (Qw s i)]) (List.perm_append_comm (l₁ := [_])) rfl rfl rfl rfl (kn 0 rfl) rfl rfl rfl rfl rfl (by decide) rfl rfl rfl (by decide) hrow (by omega) (by omega) fun ra cap sp hra => ?_; refine Ji rfl (Jf ?_); refine Jj (hK8 ?_); refine Ja ?_
    refine JY rfl ?_; refine Jy (show _ = Value.int .i64 ((i + 1 : Nat) : Int) from by rw [wrap_i64 (by omega) (by omega)]; congr 1 <;> omega) ?_; refine Ji rfl (Jf (J8 ?_)); refine jT (L' := JV 4 (QD (JH s i) ++ [Value.bool (Qw s i)]) (some (ra, cap, sp))) (List.sublist_append_left (JV 4 (QD (JH s i) ++ [Value.bool (Qw s i)]) (some (ra, cap, sp))) _) ?_; rw [show QD (JH s i) ++ [Value.bool (Qw s i)] = QD (JH s (i + 1)) from (Jtq s i).symm] at hra ⊢; exact J2 (i + 1, some (ra, cap, sp)) ⟨by simp only; omega, hra⟩ (by simp only; omega) (.cons rfl (.cons rfl (.cons rfl (.cons rfl .nil)))) (List.Sublist.refl _) (fun _ _ h => h)
  · try simp only [ZZ] at h7
    refine JJ (Jm ?_); refine Jm (J0 (hK3 ?_)); refine sQ fun _ hK10 => ?_
    obtain rfl : i = n := by omega
    refine Ja (LS 2 [] rfl rfl ?_); refine nK hK10 (Jb ?_); refine pT rfl rfl rfl fun w1 hs1 => ?_; exact ⟨⟨row, hrow⟩, rfl, hs1⟩
section
variable {c : Cx} {l : Ko} {L : Jo} {X : XP} {d : List Deferred} {i : Nat} {t t2 : TypeId} {ps : String} {af : Array Edge} {gd : Option (Nat × Bool)} {ty : TypeId}
theorem Jpc {x y : Operand} {a b : Nat} (hx : Kg l x = some (.int .i64 (a : Int))) (hy : Kg l y = some (.int .i64 (b : Int))) (h0 : 0 < b) : J5 c d l L X ⟨some i, .binOp .rem t x y t2, ty, ps, af, gd⟩ (.int .i64 ((a % b : Nat) : Int)) := fun a' w hf _ => by
  simp only [execOp]; rw [hf.eval hx, hf.eval hy]
  have e1 : ¬ ((b : Int) = 0) := by omega
  simp only [binOp, eqGuard, Op.intDiv, if_neg e1, Sem.run_bind]
  rfl
theorem Ja9 {x y : Operand} {a b : Nat} (hx : Kg l x = some (.int .i64 (a : Int))) (hy : Kg l y = some (.int .i64 (b : Int))) (h0 : 0 < b) (ha : a ≤ 9223372036854775807) : J5 c d l L X ⟨some i, .binOp .quo t x y t2, ty, ps, af, gd⟩ (.int .i64 ((a / b : Nat) : Int)) := fun a' w hf _ => by
  simp only [execOp]; rw [hf.eval hx, hf.eval hy]
  have e1 : ¬ ((b : Int) = 0) := by omega
  have e2 := QR (a := (a : Int)) (b := (b : Int)) (by omega) (by omega) (by omega)
  simp only [binOp, eqGuard, Op.intDiv, if_neg e1, Sem.run_bind, e2]
  rfl
end
structure VR (v : Vl) : Type where
  x : Vl
  L : Jo
  ok : x.In L
  er : VH x = v
def blT (n : Int) (s : List UInt8) : Vl × Int := if s.getLast? = none ∨ s.getLast? = some 0 then (v0L, 2) else if n < (Wo s (8 * s.length) : Int) then (v0L, 5) else (Zo (JH s (Wo s (8 * s.length))), 0)
theorem Jec {s : BS} (h : s ≠ []) : s.getLast? = some (s.getD (s.length - 1) 0) := by
  have hp : 0 < s.length := List.length_pos_iff.2 h
  rw [List.getLast?_eq_getElem?, List.getD_eq_getElem?_getD, List.getElem?_eq_getElem (by omega)]; rfl
theorem Jiq {n : Int} {s : BS} (h : s = []) : blT n s = (v0L, 2) := by unfold blT; rw [if_pos (.inl (by rw [h]; rfl))]
theorem Jyz {n : Int} {s : BS} (h : s.getD (s.length - 1) 0 = 0) : blT n s = (v0L, 2) := by
  by_cases h0 : s = []
  · exact Jiq h0
  · unfold blT; rw [if_pos (.inr (by rw [Jec h0, h]))]
theorem Jw1 {s : BS} (h0 : s ≠ []) (h : s.getD (s.length - 1) 0 ≠ 0) : ¬ (s.getLast? = none ∨ s.getLast? = some 0) := by
  rw [Jec h0]
  rintro (h1 | h1)
  · cases h1
  · exact h (Option.some.inj h1)
theorem Jtr {x : UInt8} : (((x.toNat : Int) != 0) = false) ↔ x = 0 := by
  rw [Z6, ← UInt8.toNat_inj]; exact Int.natCast_eq_zero
theorem Jed (s : BS) {m n : Nat} (h : m ≤ n) : (QD (JH s n)).take m = QD (JH s m) := by
  unfold QD JH
  rw [← List.map_take, ← List.map_take, List.take_range, Nat.min_eq_left h]
theorem qJ (s : BS) (n : Nat) : (QD (JH s n)).length = n := by unfold QD; rw [List.length_map, JZ]
theorem Jir (s : BS) {i n : Nat} (h : i < n) (sp : List Value) : Wy (QD (JH s n) ++ sp) i = some (.bool (Qw s i)) := by
  rw [Vk, List.getElem?_append_left (by rw [qJ]; exact h)]
  unfold QD
  rw [List.getElem?_map, Qr s h]; rfl
theorem u0 : XD 0 := by unfold XD; omega
theorem i0 : jx 0 := by unfold jx; omega
theorem yD {s : BS} {r cap m n e : Nat} {sp : List Value} (h : m ≤ n) (hc : n ≤ cap) (h0 : n ≤ 800000) : Vl.In [(r, .cells (QD (JH s n) ++ sp).toArray e (0, 0))] (.mk 0 0 0 0 (JH s m) (some (⟨r, 0, none⟩, cap)) [] none 0) := by
  refine .mk u0 u0 u0 u0 (by rw [JZ]; omega) ?_ (by decide) rfl i0 (fun x hx => nomatch hx); refine ⟨by rw [JZ]; omega, fun _ => ⟨rfl, _, e, (0, 0), List.mem_singleton_self _, ?_⟩⟩; simp only [List.toList_toArray, List.drop_zero]; rw [qJ, List.take_append_of_le_length (by rw [qJ]; exact h), Jed s h]
theorem Jis (s : BS) (m r cap : Nat) : Vl.val (.mk 0 0 0 0 (JH s m) (some (⟨r, 0, none⟩, cap)) [] none 0) = .agg #[.int .u64 0, .int .u64 0, .int .u64 0, .int .u64 0, .slice (some ⟨r, 0, none⟩) m cap, .slice none 0 0, .int .i64 0] := by
  show Value.agg #[uV 0, uV 0, uV 0, uV 0, Value.slice (some ⟨r, 0, none⟩) (JH s m).length cap, Value.slice none 0 0, Value.int .i64 0] = _
  rw [JZ]; rfl
theorem Jw2 {n : Int} {s : BS} {v : Value} (hno : ¬ (s.getLast? = none ∨ s.getLast? = some 0)) (hv : decide ((Wo s (8 * s.length) : Int) ≤ n) = false ∧ v = xh 5) : (blT n s).2 ≠ 0 ∧ v = xh (blT n s).2 := by
  have h : n < (Wo s (8 * s.length) : Int) := by have := hv.1; rw [Z2] at this; omega
  have e : (blT n s).2 = 5 := by unfold blT; rw [if_neg hno, if_pos h]
  rw [e]; exact ⟨by decide, hv.2⟩
theorem Jy0 {n : Int} {s : BS} (hno : ¬ (s.getLast? = none ∨ s.getLast? = some 0)) (h : decide ((Wo s (8 * s.length) : Int) ≤ n) = true) : blT n s = (Zo (JH s (Wo s (8 * s.length))), 0) := by
  have h : ¬ n < (Wo s (8 * s.length) : Int) := by rw [Z1] at h; omega
  unfold blT; rw [if_neg hno, if_neg h]
theorem Jkt {k n : Int} {p : Pl} {ins : List Ty} {s : BS} (hl : s.length ≤ 100000) (hn : jx n) : PureX (α := VR (blT n s).1) Tryz.prog 146 [Ty.val (.mk k n p ins), J3 s].toArray ((blT n s).2 = 0) (fun v => (blT n s).2 ≠ 0 ∧ v = xh (blT n s).2) (fun y => y.x.val) (fun y => y.L) [] := by
  have bad2 : s = [] ∨ s.getD (s.length - 1) 0 = 0 → (blT n s).2 = 2 := fun h => h.elim (fun h => by rw [Jiq h]) (fun h => by rw [Jyz h])
  have hbad2 : ∀ {v : Value} {b : Bool}, s = [] ∨ s.getD (s.length - 1) 0 = 0 → b = false ∧ v = xh 2 → (blT n s).2 ≠ 0 ∧ v = xh (blT n s).2 := fun h hv => by rw [bad2 h]; exact ⟨by decide, hv.2⟩
  have hT := Jpb (s := s) (n := 8 * s.length) (Nat.le_refl _) hl
  refine XS Tryz.func146 rfl rfl fun w => ?_; refine sR fun _ hK1 => ?_; refine LN rfl fun r1 => ?_; refine LN rfl fun r2 => ?_; refine nK hK1 (sR fun _ hK2 => ?_); refine Ji rfl (LR rfl (Y2 rfl rfl) (Ji rfl ?_))
  refine J6 9 rfl (fun hb3 => ?_) (fun hb3 => ?_) <;> (try simp only [ZZ] at hb3) <;> first | (refine Ji rfl ?_) | (refine LK rfl ?_)
  all_goals refine LW 1 [] rfl rfl ?_
  all_goals first
    | (refine LR rfl (Ke rfl rfl) ?_)
    | (refine LK rfl ?_)
  all_goals first
    | (have hpos : 0 < s.length := List.length_pos_iff.2 ‹s ≠ []›; refine JY rfl ?_; refine Jy (show _ = Value.int .i64 ((s.length - 1 : Nat)) from congrArg (Value.int .i64) (by rw [wrap_i64 (by omega) (by omega)]; omega)) ?_)
    | (refine LK rfl ?_)
  all_goals first
    | (refine LR rfl (W6 (j := s.length - 1) rfl rfl rfl rfl (by omega) rfl) ?_)
    | (refine LK rfl ?_)
  all_goals refine LW 2 [] rfl rfl ?_
  all_goals refine KS rfl rfl rfl ZW (VL (_) 2) (fun q hq => nomatch hq) (fun hok _ => ?_) (fun v hv => Qo rfl rfl (hbad2 (by first | exact .inl ‹_› | exact .inr (Jtr.1 hv.1)) hv))
  all_goals try exact Bool.noConfusion hok
  refine nK hK2 (sQ fun _ hK9 => ?_)
  have hne : s ≠ [] := ‹s ≠ []›
  have hpos : 0 < s.length := List.length_pos_iff.2 hne
  have hno := Jw1 hne (fun e => by rw [e] at hok; cases hok)
  obtain ⟨q1, q2, q3⟩ := Ja3 hno
  refine Ja (LS 2 [] rfl rfl (LR rfl (Ke rfl rfl) ?_)); refine JY rfl ?_; refine Jy (show _ = Value.int .i64 ((8 * s.length : Nat)) from congrArg (Value.int .i64) (by rw [wrap_i64 (by omega) (by omega)]; omega)) ?_; refine Qd rfl rfl rfl (enters_of Tryz.func145 (by kernel_rfl) rfl) hT (fun q hq => nomatch hq) fun x => ?_
  obtain ⟨row, hrow⟩ := x
  match row, hrow with | none, hrow => ?_ | some (ra, cap, sp), hrow => ?_
  all_goals first | exact absurd hrow.1 (by omega) | skip
  refine Ji rfl (nK hK9 ?_); refine sR fun _ hK10 => Ji rfl (LR rfl (KM rfl rfl) (JY rfl ?_)); refine Jy (show _ = Value.int .i64 ((8 * s.length - 1 : Nat)) from congrArg (Value.int .i64) (by rw [wrap_i64 (by omega) (by omega)]; omega)) ?_; refine Ji rfl (nK hK10 ?_); refine sB fun _ hK11 => ?_; refine JL (σ := Nat) (fun i => Wo s (8 * s.length) ≤ i ∧ i < 8 * s.length) (fun i => [(2, VG r1), (4, VG r2), (5, .slice (some ⟨ra, 0, none⟩) (8 * s.length) cap), (6, .int .i64 (i : Int))]) (fun i => [(ra, .cells (QD (JH s (8 * s.length)) ++ sp).toArray 4 (0, 0)), WW r2 v0L, VQ r1 (.mk k n p ins)]) (fun _ _ _ => True) (fun i => i) (8 * s.length - 1) ⟨by omega, by omega⟩ (.cons rfl (.cons rfl (.cons rfl (.cons rfl .nil)))) (List.Sublist.refl _) (fun _ _ h => h) ?_; rintro i ⟨hi1, hi2⟩; change HC _ _ _ ((ra, _) :: (r2, _) :: (r1, _) :: []) _ _ _; refine sQ fun _ hK12 => sR fun _ hK13 => ?_; refine LS 2 [] rfl rfl ?_; refine LR rfl (Kj (j := i) (m := 1) (off' := i) rfl rfl rfl rfl (by omega) (by omega) (by omega)) ?_; refine LR rfl (Jk rfl (kn 0 rfl) rfl (Jir s (i := i) (by omega) sp)) ?_; refine JY rfl (nK hK13 ?_); refine Jc rfl (fun h14 => ?_) (fun h14 => ?_)
  try simp only [ZZ] at h14
  refine Jg (hK12 ?_); refine Js ?_
  have hlt : Wo s (8 * s.length) ≠ i := fun e => by rw [e] at q2; rw [q2] at h14; cases h14
  refine Ja (LS 2 [] rfl rfl ?_); refine Jy (show _ = Value.int .i64 ((i - 1 : Nat)) from congrArg (Value.int .i64) (by rw [wrap_i64 (by omega) (by omega)]; omega)) ?_; refine Ji rfl (Jf ?_); refine Jj (J8 ?_); exact J2 (i - 1) ⟨by omega, by omega⟩ (by omega) (.cons rfl (.cons rfl (.cons rfl (.cons rfl .nil)))) (List.Sublist.refl _) (fun _ _ h => h)
  · try simp only [ZZ] at h14
    refine JJ (Jm ?_); refine Jm (J0 (hK11 ?_)); refine sQ fun _ hK15 => ?_
    have hcap : 8 * s.length ≤ cap := by have := hrow.2; omega
    have hL : i = Wo s (8 * s.length) := Decidable.byContradiction fun hne => by have := q3 i (by omega) hi2; rw [this] at h14; cases h14
    subst hL; refine Ja (Ji rfl ?_)
    refine LS 3 [2] rfl rfl ?_; refine KS rfl rfl rfl ZW (VL (_) 5) (fun q hq => nomatch hq) (fun hok _ => ?_) (fun v hv => Qo rfl rfl (Jw2 hno hv)); refine nK hK15 (sR fun _ hK16 => ?_); refine LS 2 [] rfl rfl ?_
    refine LR rfl (JR (kl := none) (kh := some (Wo s (8 * s.length))) (km := none) (m := 0) (q := Wo s (8 * s.length)) (z := cap) (off' := 0) (sz := 1) rfl rfl rfl trivial ⟨_, rfl⟩ trivial rfl rfl rfl (by omega) (by omega) (Nat.le_refl _) (fun e => nomatch e) (by split <;> omega)) ?_; refine LR rfl (JK (r := [_, _, _, _, _, _, _]) rfl rfl) ?_
    refine LT 1 rfl rfl (nK hK16 ?_); refine Jb ?_; refine Jt rfl rfl (.cons (J9 (vs := [_, _, _, _, _, _, _]) rfl (kn 1 rfl) rfl rfl) .nil) (fun w1 hs1 => ?_)
    have hbo := Jy0 hno hok
    refine .inl ⟨by rw [hbo], ⟨.mk 0 0 0 0 (JH s (Wo s (8 * s.length))) (some (⟨ra, 0, none⟩, cap)) [] none 0, [(ra, .cells (QD (JH s (8 * s.length)) ++ sp).toArray 4 (0, 0))], yD (by omega) (by omega) (by omega), by rw [hbo, KE, Xe]; rfl⟩, congrArg Ending.returned (Jis s _ ra cap).symm, hs1.weakL ((List.cons_sublist_cons).2 (List.nil_sublist _))⟩
theorem Jpd {k n : Int} {ins : List Ty} {s : BS} {B y : Nat} (h7 : k ≠ 7) (h3 : k ≠ 3) (hs : s ≠ []) (hF : JB (JC k 0 ins 0) = true → B = s.length ∧ y = (JQ (JC k 0 ins 0)).toNat) (hV : JB (JC k 0 ins 0) = false → 4 ≤ s.length ∧ Wq (s.take 4) ≠ 0 ∧ B = Wq (s.take 4) ∧ y = 4) :
    JT k n ins s = if B % y ≠ 0 then (0, 2) else if n < ((B / y : Nat) : Int) then (0, 5) else (B / y, 0) := by
  unfold JT
  rw [if_neg h7, if_neg h3, if_neg hs]
  cases h : JB (JC k 0 ins 0) with
  | true => obtain ⟨rfl, rfl⟩ := hF h; rw [if_pos rfl]
  | false =>
    obtain ⟨e1, e2, rfl, rfl⟩ := hV h
    rw [if_neg (by simp)]
    by_cases h4 : Wq (s.take 4) % 4 ≠ 0
    · rw [if_pos (.inr (.inl h4)), if_pos h4]
    · rw [if_neg (by rintro (h | h | h); omega; exact h4 h; exact e2 h), if_neg h4]
theorem Jw3 {k n : Int} {ins : List Ty} {s : BS} (h7 : k ≠ 7) (h3 : k ≠ 3) (hs : s ≠ []) (hF : JB (JC k 0 ins 0) = false) (h : s.length < 4 ∨ Wq (s.take 4) = 0) : (JT k n ins s).2 = 2 := by
  unfold JT
  rw [if_neg h7, if_neg h3, if_neg hs, hF, if_neg (by simp), if_pos (by rcases h with h | h; exact .inl h; exact .inr (.inr h))]
theorem Jpe {k n : Int} {ins : List Ty} {s : BS} (h7 : k = 7) : JT k n ins s = (ins.length, 0) := by unfold JT; rw [if_pos h7]
theorem Jpf {k n : Int} {ins : List Ty} {s : BS} (h7 : k ≠ 7) (h3 : k = 3) : JT k n ins s = (n.toNat, 0) := by unfold JT; rw [if_neg h7, if_pos h3]
theorem Jpg {k n : Int} {ins : List Ty} {s : BS} (h7 : k ≠ 7) (h3 : k ≠ 3) (hs : s = []) : JT k n ins s = (0, 0) := by unfold JT; rw [if_neg h7, if_neg h3, if_pos hs]
theorem WB {r : Int} {v : Value} {e : Int} {b : Bool} (h : r = e) (he : e ≠ 0) (hv : b = false ∧ v = xh e) : r ≠ 0 ∧ v = xh r := by rw [h]; exact ⟨he, hv.2⟩
theorem Jw4 {R : Jo} {k n : Int} {p : Pl} {ins : List Ty} {s : BS} (ht : Ty.In R (.mk k n p ins)) (hc : V0 (.mk k n p ins) 0 = 0) (hk3 : k = 3 ∨ k = 4 ∨ k = 7) (hl : s.length ≤ 100000) :
    PureX (α := Unit) Tryz.prog 185 [Ty.val (.mk k n p ins), J3 s].toArray ((JT k n ins s).2 = 0) (fun v => (JT k n ins s).2 ≠ 0 ∧ v = xh (JT k n ins s).2) (fun _ => .int .i64 ((JT k n ins s).1 : Int)) (fun _ => []) R := by
  obtain ⟨hk8, ho, _, _⟩ := Qy hc
  have hsg : Seg R ins.length (xP ins) p := by cases ht; assumption
  have hin0 : VX k 0 0 < ins.length := by
    unfold Kf at ho
    unfold VX
    rcases hk3 with rfl | rfl | rfl <;> simp at ho ⊢ <;> omega
  obtain ⟨hx0, hxm⟩ := Qi hin0
  have hsz := vW (ht.sub _ hxm)
  have hfx := qc (t := JC k 0 ins 0)
  have hbl := jY (JC k 0 ins 0)
  have hbe := Jay (JC k 0 ins 0)
  obtain ⟨y, hy⟩ : ∃ y : Nat, V1 (JC k 0 ins 0) = (y : Int) := ⟨_, (Int.toNat_of_nonneg (by omega)).symm⟩
  rw [hy] at hsz hbl hbe
  have hnk : k = 3 → 0 ≤ n := fun e => by subst e; unfold Kf at ho; simp at ho; omega
  refine XS Tryz.func185 rfl rfl fun w => ?_; refine sR fun _ hK1 => ?_; refine LN rfl fun r1 => ?_; refine Ji rfl (nK hK1 ?_); refine sB fun _ hK2 => sR fun _ hK3 => ?_
  refine LS 4 [0] rfl rfl (nK hK3 ?_); refine Jc rfl (fun h4 => ?_) (fun h4 => ?_)
  try simp only [ZZ] at h4
  refine sR fun _ hK5 => ?_
  refine LS 2 [0] rfl rfl ?_; refine LR rfl (J4 rfl hsg rfl) ?_; refine Ji rfl (nK hK5 ?_); refine Jb (Jn (Jd ?_)); refine pT rfl rfl rfl fun w1 hs1 => ?_; exact .inl ⟨by rw [Jpe ‹k = 7›], (), by rw [Jpe ‹k = 7›]; rfl, hs1.weakL (List.nil_sublist _)⟩
  · try simp only [ZZ] at h4
    refine sR fun _ hK6 => ?_
    refine LS 4 [0] rfl rfl (nK hK6 ?_); refine Jc rfl (fun h7 => ?_) (fun h7 => ?_)
    try simp only [ZZ] at h7
    refine sR fun _ hK8 => ?_
    refine LS 2 [0] rfl rfl ?_; refine Jy (show _ = Value.int .i64 ((n.toNat : Nat) : Int) from congrArg (Value.int .i64) (by have := hnk ‹_›; omega)) ?_; refine Ji rfl (nK hK8 ?_); refine Jb (Jn (Jd ?_)); refine pT rfl rfl rfl fun w1 hs1 => ?_; exact .inl ⟨by rw [Jpf ‹k ≠ 7› ‹k = 3›], (), by rw [Jpf ‹k ≠ 7› ‹k = 3›]; rfl, hs1.weakL (List.nil_sublist _)⟩
    · try simp only [ZZ] at h7
      refine sR fun _ hK9 => Ji rfl (LR rfl (VD rfl rfl) (Ji rfl ?_)); refine nK hK9 ?_; refine Jc rfl (fun h10 => ?_) (fun h10 => ?_)
      try simp only [ZZ] at h10
      refine sR fun _ hK11 => Ji rfl (nK hK11 ?_); refine Jb (Jn (Jd ?_)); refine pT rfl rfl rfl fun w1 hs1 => ?_; exact .inl ⟨by rw [Jpg ‹k ≠ 7› ‹k ≠ 3› ‹s = []›], (), by rw [Jpg ‹k ≠ 7› ‹k ≠ 3› ‹s = []›]; rfl, hs1.weakL (List.nil_sublist _)⟩
      · try simp only [ZZ] at h10
        refine Jg (Jj (hK2 ?_)); refine sQ fun _ hK12 => ?_
        have h7 : k ≠ 7 := ‹_›
        have h3 : k ≠ 3 := ‹_›
        have hne : s ≠ [] := ‹_›
        have hx00 : ins[0]? = some (JC k 0 ins 0) := by have := hx0; unfold VX at this; rw [if_neg h7] at this; split at this <;> exact this
        refine Ja (LS 2 [0] rfl rfl ?_)
        refine LR rfl (Jr (j := 0) rfl hsg rfl rfl rfl (by first | rfl | omega) (by omega)) ?_; refine LR rfl (KX (fun q hq => Or.inr hq) rfl hsg hx00 rfl rfl) ?_; refine Jh rfl rfl rfl Jhb hsz (fun q hq => Or.inr hq) ?_; refine LS 5 [] rfl rfl (nK hK12 ?_); refine sR fun _ hK13 => Ji rfl (LR rfl (Ke rfl rfl) (Ji rfl ?_)); refine nK hK13 (sQ fun _ hK14 => ?_); refine sR fun _ hK15 => LS 2 [] rfl rfl (nK hK15 ?_); refine Jc rfl (fun h16 => ?_) (fun h16 => ?_)
        · try simp only [ZZ] at h16
          refine sR fun _ hK17 => Ji rfl (LR rfl (Ke rfl rfl) (LS 2 [] rfl rfl ?_))
          refine J6 39 rfl (fun hb18 => ?_) (fun hb18 => ?_) <;> (try simp only [ZZ] at hb18) <;> first | (refine Ji rfl ?_) | (refine LK rfl ?_)
          all_goals first
            | (refine JF rfl rfl rfl Jms (Jpa (s := s) (by omega)) ?_)
            | (refine LK rfl ?_)
          all_goals refine LW 2 [] rfl rfl ?_
          all_goals refine KS rfl rfl rfl ZW (VL (_) 2) (fun q hq => nomatch hq) (fun hok _ => ?_) (fun v hv => Qo rfl rfl (WB (Jw3 ‹k ≠ 7› ‹k ≠ 3› hne ‹JB (JC k 0 ins 0) = false› (by first | exact .inl (by omega) | exact .inr (Int.natCast_eq_zero.1 (Z6.1 hv.1)))) (by decide) hv))
          all_goals try exact Bool.noConfusion hok
          have hl0 := fun e => Z5.1 hok (Int.natCast_eq_zero.2 e)
          refine nK hK17 ?_; refine Ja (Ji rfl (JF rfl rfl rfl Jms (Jpa (s := s) (by omega)) ?_)); refine Ji rfl (nK hK14 ?_); refine sQ fun _ hK21 => ?_
          (have hif : JB (JC k 0 ins 0) = false := ‹_›
           rw [hif, if_neg (by decide)] at hbe
           have hlt := (Jvf (s := s) (by omega)).2
           have hmq := Jpd (n := n) (ins := ins) (B := Wq (s.take 4)) (y := y) h7 h3 hne (fun e => by rw [hif] at e; cases e) (fun _ => ⟨by omega, hl0, rfl, by omega⟩)
           obtain ⟨B, hB⟩ : ∃ B, B = Wq (s.take 4) := ⟨_, rfl⟩
           have hBl : B ≤ 4294967295 := by omega
           rw [← hB] at hmq ⊢)
          refine Ja (LS 2 [] rfl rfl (LR rfl (Jpc (a := B) (b := y) rfl rfl (by omega)) ?_)); refine JY rfl ?_; refine KS rfl rfl rfl ZW (VL (_) 2) (fun q hq => nomatch hq) (fun hok _ => ?_) (fun v hv => Qo rfl rfl (WB (by rw [hmq, if_pos (fun e => absurd hv.1 (by rw [e]; decide))]) (by decide) hv))
          have hmod : ¬ B % y ≠ 0 := fun e => e (Int.natCast_eq_zero.1 (Z3.1 hok))
          refine nK hK21 (sQ fun _ hK22 => ?_)
          refine JS [] [(0, .pure), (1, .pure), (2, .pure), (3, .pure), (5, .pure)] 6 [0, 1, 2, 3, 4, 5] (by kernel_rfl) (by kernel_rfl) (by first | exact (fun _ h => absurd h List.not_mem_nil) | simp [SubS] | (intro p hp; simp [hp])) ?_; refine Jv (k := 0) rfl rfl rfl rfl rfl (fun _ hS => (Jp rfl)) ?_; refine Jv (k := 1) rfl rfl rfl rfl rfl (fun _ hS => (Jp rfl)) ?_; refine Jv (k := 2) rfl rfl rfl rfl rfl (fun _ _ => Ja9 (a := B) (b := y) rfl rfl (by omega) (by omega)) ?_
          refine Jv (k := 3) rfl rfl rfl rfl rfl (fun _ hS => (JM rfl rfl rfl)) ?_; refine KZ (k := 4) rfl rfl rfl rfl rfl (Jk rfl (kn 0 rfl) rfl rfl) ?_; refine Jv (k := 5) rfl rfl rfl rfl rfl (fun _ hS => (JA rfl rfl rfl)) ?_; refine KD ?_; refine KS rfl rfl rfl ZW (VL (_) 5) (fun q hq => nomatch hq) (fun hok _ => ?_) (fun v hv => Qo rfl rfl (WB (by rw [hmq, if_neg hmod, if_pos (by have := Z2.1 hv.1; omega)]) (by decide) hv)); rw [if_neg hmod, if_neg (by have := Z1.mp hok; omega)] at hmq; refine nK hK22 (sR fun _ hK23 => ?_); refine LS 2 [] rfl rfl ?_; refine LR rfl (Ja9 (a := B) (b := y) rfl rfl (by omega) (by omega)) ?_; refine Ji rfl (nK hK23 ?_); refine Jb (pT rfl rfl rfl fun w1 hs1 => ?_); exact .inl ⟨by rw [hmq], (), by rw [hmq]; rfl, hs1.weakL (List.nil_sublist _)⟩
        · try simp only [ZZ] at h16
          refine Jg (hK14 ?_); refine sQ fun _ hK24 => ?_
          (have hif : JB (JC k 0 ins 0) = true := ‹_›
           rw [if_pos hif] at hbe
           have hmq := Jpd (n := n) (ins := ins) (B := s.length) (y := y) h7 h3 hne (fun _ => ⟨rfl, by omega⟩) (fun e => by rw [hif] at e; cases e)
           obtain ⟨B, hB⟩ : ∃ B, B = s.length := ⟨_, rfl⟩
           have hBl : B ≤ 4294967295 := by omega
           rw [← hB] at hmq ⊢)
          refine Ja (LS 2 [] rfl rfl (LR rfl (Jpc (a := B) (b := y) rfl rfl (by omega)) ?_)); refine JY rfl ?_; refine KS rfl rfl rfl ZW (VL (_) 2) (fun q hq => nomatch hq) (fun hok _ => ?_) (fun v hv => Qo rfl rfl (WB (by rw [hmq, if_pos (fun e => absurd hv.1 (by rw [e]; decide))]) (by decide) hv))
          have hmod : ¬ B % y ≠ 0 := fun e => e (Int.natCast_eq_zero.1 (Z3.1 hok))
          refine nK hK24 (sQ fun _ hK25 => ?_)
          refine JS [] [(0, .pure), (1, .pure), (2, .pure), (3, .pure), (5, .pure)] 6 [0, 1, 2, 3, 4, 5] (by kernel_rfl) (by kernel_rfl) (by first | exact (fun _ h => absurd h List.not_mem_nil) | simp [SubS] | (intro p hp; simp [hp])) ?_; refine Jv (k := 0) rfl rfl rfl rfl rfl (fun _ hS => (Jp rfl)) ?_; refine Jv (k := 1) rfl rfl rfl rfl rfl (fun _ hS => (Jp rfl)) ?_; refine Jv (k := 2) rfl rfl rfl rfl rfl (fun _ _ => Ja9 (a := B) (b := y) rfl rfl (by omega) (by omega)) ?_
          refine Jv (k := 3) rfl rfl rfl rfl rfl (fun _ hS => (JM rfl rfl rfl)) ?_; refine KZ (k := 4) rfl rfl rfl rfl rfl (Jk rfl (kn 0 rfl) rfl rfl) ?_; refine Jv (k := 5) rfl rfl rfl rfl rfl (fun _ hS => (JA rfl rfl rfl)) ?_; refine KD ?_; refine KS rfl rfl rfl ZW (VL (_) 5) (fun q hq => nomatch hq) (fun hok _ => ?_) (fun v hv => Qo rfl rfl (WB (by rw [hmq, if_neg hmod, if_pos (by have := Z2.1 hv.1; omega)]) (by decide) hv)); rw [if_neg hmod, if_neg (by have := Z1.mp hok; omega)] at hmq; refine nK hK25 (sR fun _ hK26 => ?_); refine LS 2 [] rfl rfl ?_; refine LR rfl (Ja9 (a := B) (b := y) rfl rfl (by omega) (by omega)) ?_; refine Ji rfl (nK hK26 ?_); refine Jb (pT rfl rfl rfl fun w1 hs1 => ?_); exact .inl ⟨by rw [hmq], (), by rw [hmq]; rfl, hs1.weakL (List.nil_sublist _)⟩
end Go.Proofs.YteceenlfegnigaaGreatDoor
