import Derived.Test.YtfaagelglpgpkaaGreatDoorZtLaterc
set_option maxRecDepth 100000
namespace Go.Proofs.YtfaagelglpgpkaaGreatDoor
set_option linter.all false
open Go.SL Go.RowKit Go.Shelf
theorem Jpy {k m : Nat} : 2 ^ k < m ↔ k < lg m := by
 constructor
 ·intro h
  rcases Nat.lt_or_ge k (lg m) with h1 | h1
  ·exact h1
  ·have h2 := Jid m
   have h3 : 2 ^ lg m ≤ 2 ^ k := Nat.pow_le_pow_right (by decide) h1
   omega
 ·exact Jxb
theorem zB (l : List BS) : ∀ {i : Nat}, 2 * i + 1 < l.length → (SL.pairUp l).take (i + 1) = (SL.pairUp l).take i ++ [W5 (l.getD (2 * i) [] ++ l.getD (2 * i + 1) [])] := by
 induction l using SL.pairUp.induct with
 | case1 a b l ih =>
  intro i hi
  cases i with
  | zero => rw [SL.pairUp]; rfl
  | succ i =>
   rw [SL.pairUp, List.take_succ_cons, List.take_succ_cons, ih (by simp only [List.length_cons] at hi; omega), show 2 * (i + 1) = 2 * i + 1 + 1 by omega, show 2 * i + 1 + 1 + 1 = 2 * i + 1 + 1 + 1 by rfl]
   rfl
 | case2 l h =>
  intro i hi
  match l, h with
  | [], _ => simp at hi
  | [a], _ => simp at hi
  | a :: b :: l, h => exact absurd rfl (h a b l)
theorem qJ (l : List BS) (z : BS) : (Qo l z).length % 2 = 0 := by rw [Xq]; omega
theorem wD {l : List BS} {z : BS} (h : ∀ x ∈ l, x.length = 32) (hz : z.length = 32) : ∀ x ∈ Qo l z, x.length = 32 := by
 intro x hx
 unfold Qo at hx
 split at hx
 ·rcases List.mem_append.1 hx with hx | hx
  ·exact h x hx
  ·rw [List.mem_singleton.1 hx]; exact hz
 ·exact h x hx
theorem jH {l : List BS} (h : ∀ x ∈ l, x.length = 32) {i : Nat} (hi : i < l.length) : (l.getD i []).length = 32 := h _ (List.mem_of_getElem? (wC hi))
theorem Jd1 {n : Nat} (h : n ≤ 65536) : IntKind.i64.wrap ((n : Int) * 2) = ((n * 2 : Nat) : Int) := by
 rw [wrap_i64 (by omega) (by omega)]; omega
structure TreeI (l0 : List BS) (m : Nat) (k : Nat) (ls : List BS) (row : QV) (z : BS) : Prop where
  le : k ≤ lg m
  ok : rowOk 1 ls.length (Wl ls) row
  eq : V4 (lg m - k) ls z = Ve l0 m
  len : ls.length ≤ 2 ^ (lg m - k)
  mem : ∀ x ∈ ls, x.length = 32
  zl : z.length = 32
set_option maxHeartbeats 1000000 in
theorem vw {R : Jm} {l : List BS} {p : Pl} {m : Nat} (hl : l.length ≤ m) (hm2 : m ≤ 65536) (hs : Seg R l.length (Wl l) p) (h32 : ∀ s ∈ l, s.length = 32) :
  PureR Tryz.prog 168 [KP l.length p, .int .i64 (m : Int)].toArray (J5 (Ve l m)) R := by
 have hlg : lg m ≤ 16 := J0v (by simpa using hm2)
 have h0 := jB hl
 refine Ja Tryz.func168 rfl rfl fun w => ?_; refine J8 ?_; refine Jo 8 rfl ?_; refine Ke rfl rfl rfl (enters_of Tryz.func223 (by kernel_rfl) rfl) (Jpx (by omega) hs) oR fun x => ?_
 obtain ⟨row, hrow⟩ := x
 refine JY (List.perm_append_comm (l₂ := [])) ?_; change HL _ _ ((11, JE l.length row) :: _) (JR 9 (Wl l) row) _ _ _ _; refine JC 5 rfl ?_; refine Jl rfl rfl rfl Jo9 (Jgg (s := []) (by decide)) ?_; refine J2 (show _ = J5 z32 from rfl) ?_; refine JI 10 rfl ?_; refine Jou (σ := Nat × List BS × QV × BS × List Nat) (fun q => q.2.2.2.2.map VV ++ []) (fun q => TreeI l m q.1 q.2.1 q.2.2.1 q.2.2.2.1) (fun q => [(0, JE q.2.1.length q.2.2.1), (1, .int .i64 (m : Int)), (5, J5 q.2.2.2.1), (6, .int .i64 ((2 ^ q.1 : Nat) : Int))]) (fun q => WB q.2.2.2.2 ++ JR 9 (Wl q.2.1) q.2.2.1) (fun _ _ _ => True) (fun q => lg m - q.1) (0, l, row, z32, []) rfl ⟨Nat.zero_le _, hrow, h0, Nat.le_trans hl (Jid m), h32, rfl⟩ (lK rfl) (List.Sublist.refl _) (fun _ _ h => h) ?_; rintro ⟨k, ls, row, z, Ds⟩ hi; refine inK ?_; simp only at hi; change HC _ (Ds.map VV ++ []) [(0, JE ls.length row), (1, _), (5, J5 z), (6, .int .i64 ((2 ^ k : Nat) : Int))] (WB Ds ++ JR _ (Wl ls) row) _ _ _; refine JP 8 rfl ?_; refine cD (fun g => ?_) fun g => ?_
 ·refine JP 6 rfl ?_
  have hk : k < lg m := Jpy.1 (by omega)
  obtain ⟨K, hK⟩ : ∃ K, lg m - k = K + 1 := ⟨lg m - k - 1, by omega⟩
  have heq := hi.eq
  have hlen := hi.len
  rw [hK, V4] at heq; rw [hK, Nat.pow_succ] at hlen
  have hK16 : 2 ^ K ≤ 65536 := by have := Nat.pow_le_pow_right (n := 2) (i := K) (j := 16) (by decide) (by omega); simpa using this
  have hzl := hi.zl
  have hk16 : 2 ^ k ≤ 65536 := by have := Nat.pow_le_pow_right (n := 2) (i := k) (j := 16) (by decide) (by omega); simpa using this
  refine Jo 2 rfl ?_; refine LR rfl (Xi rfl hi.ok.zero rfl) ?_; refine Wo rfl (J2 (show _ = Value.int .i64 ((ls.length % 2 : Nat) : Int) from congrArg (Value.int .i64) (WO _ 2)) (JI 3 rfl ?_)); refine cD (fun g => ?_) fun g => ?_
  ·refine Jo 3 rfl ?_; refine JN (vs := [_]) (zs := [_]) (r := [_]) rfl rfl rfl rfl rfl rfl rfl rfl rfl (by show (madeCells #[_] _).toList = _; rw [QX]; exact rfl) rfl fun r1 => ?_; refine KL (L0 := _ :: WB Ds) (xs := Wl ls) (row := row) (n := ls.length) (sz := 1) (b := 16) (news := [_]) (List.perm_append_comm (l₁ := _ :: WB Ds)) rfl rfl rfl rfl (kn 0 rfl) rfl rfl rfl rfl rfl (by decide) rfl rfl rfl (by decide) hi.ok (by omega) (by omega) fun ra cap sp hra => ?_; refine JI 4 rfl ?_
   (have e : Qo ls z = ls ++ [z] := by unfold Qo; rw [if_pos (by omega)]
    refine Jib (List.perm_append_comm (l₁ := [_])) ?_; refine Jub (L' := WB Ds ++ JR 9 (Wl ls ++ [J5 z]) (some (ra, cap, sp))) (.cons _ (List.Sublist.refl _)) ?_; change HC _ _ ((0, JE (ls.length + 1) (some (ra, cap, sp))) :: _) _ _ _ _
    generalize hn2 : ls.length + 1 = n2 at hra ⊢
    generalize hc2 : Wl ls ++ [J5 z] = xs2 at hra ⊢
    generalize (some (ra, cap, sp) : QV) = row2 at hra ⊢
    obtain rfl : n2 = (Qo ls z).length := by rw [e, ← hn2, List.length_append]; rfl
    obtain rfl : xs2 = Wl (Qo ls z) := by rw [e, ← hc2]; unfold Wl; rw [List.map_append]; rfl)
   have hm2e := wD hi.mem hi.zl
   have hev := qJ ls z
   have hl2 := Xq ls z
   obtain ⟨ls2, hls2⟩ : ∃ x, x = Qo ls z := ⟨_, rfl⟩
   rw [← hls2] at hm2e hev hl2 hra heq ⊢
   have hl2b : ls2.length ≤ 2 ^ K * 2 := by omega
   refine Jo 1 rfl ?_; refine LN rfl fun r1 => ?_; refine JC 6 rfl ?_; refine JJ rfl rfl rfl (enters_of Tryz.func224 (by kernel_rfl) rfl) (Jdz ls2.length row2) fun rb => ?_; refine JY ((List.Perm.swap _ _ _).trans (List.Perm.cons _ List.perm_middle.symm)) ?_; change HL _ _ _ ((r1, .cells #[.slice none 0 0] 184 (0, 0)) :: (WB Ds ++ ((rb, .cells #[JE ls2.length row2] 184 (0, 0)) :: JR 9 (Wl ls2) row2))) _ _ _ _; refine JI 3 rfl ?_; refine Vk (τ := Unit) (fun i (s : Nat × List Value × QV) => 2 * i ≤ ls2.length ∧ s.1 = i ∧ s.2.1 = Wl ((SL.pairUp ls2).take i) ∧ rowOk 1 i s.2.1 s.2.2) (fun s => (r1, .cells #[JE s.1 s.2.2] 184 (0, 0)) :: JR 9 s.2.1 s.2.2) (fun _ _ => False) (fun _ => []) (WB Ds ++ ((rb, .cells #[JE ls2.length row2] 184 (0, 0)) :: JR 9 (Wl ls2) row2)) (0, [], none) rfl rfl (enters_of Tryz.func306 (by kernel_rfl) rfl) (Jd0 (by omega) hra rb) zA rfl (fun q hq => .inl (List.mem_append_right _ hq)) rfl ⟨Nat.zero_le _, rfl, rfl, rfl, rfl⟩ ?_ ?_ ?_
   rintro q Xr Xb w3 i _ _ _ ⟨n, xs, row3⟩ ⟨hii, rfl, rfl, rfl⟩ ⟨h2i, hn, hxs, hr3⟩ Kr hKr; refine yE ?_
   simp only at hn hxs hr3; rw [← hn] at hr3; refine Kn 8 rfl ?_; refine hKr _ _ ?_; refine J8 ?_; clear hKr; refine JP 1 rfl ?_
   have hg1 := jH hm2e (i := 2 * i) (by omega)
   have hg2 := jH hm2e (i := 2 * i + 1) (by omega)
   have hkc := wB (s := ls2.getD (2 * i) [] ++ ls2.getD (2 * i + 1) []) (by rw [List.length_append]; omega)
   obtain ⟨sv, hsv⟩ : ∃ x, x = W5 (ls2.getD (2 * i) [] ++ ls2.getD (2 * i + 1) []) := ⟨_, rfl⟩
   rw [← hsv] at hkc; refine Jcd [(r1, .cells #[JE n row3] 184 (0, 0))] [(0, .pure), (1, .pure), (2, .pure), (3, .pure), (4, .pure), (5, .act (Jhk (slV 1) (.cells #[J5 sv] 9 (0, 0))))] 6 (by kernel_rfl) (by kernel_rfl) (fun p hp => List.mem_singleton.1 hp ▸ List.mem_cons_self) ?_; refine Jce rfl rfl rfl rfl (fun _ hS => (Jh rfl (.inl (hS _ (Jr (n := 0) rfl))) rfl rfl)) ?_; refine Jce rfl rfl rfl rfl (fun _ hS => (Ji rfl)) ?_; refine Jce rfl rfl rfl rfl (fun _ hS => (Ji rfl)) ?_; refine Jce rfl rfl rfl rfl (fun _ hS => (QC (a := ls2.getD (2 * i) []) (b := ls2.getD (2 * i + 1) []) rfl rfl (by omega))) ?_; refine Jcf rfl rfl rfl rfl Jf8 hkc ?_; refine ZA (n := 1) (sz := 1) (vs := [_]) (zs := [_]) (r := [J5 sv]) rfl rfl rfl rfl rfl rfl rfl rfl rfl rfl (by show (madeCells #[_] _).toList = _; rw [QX]; exact rfl) rfl (fun p hp => List.mem_singleton.1 hp ▸ List.mem_cons_self) fun rv => ?_; refine Jnj ?_; refine KL (L0 := [_, _]) (xs := xs) (row := row3) (n := n) (sz := 1) (b := 16) (news := [J5 sv]) (List.perm_append_comm (l₁ := [_, _])) rfl rfl rfl rfl (kn 0 rfl) rfl rfl rfl rfl rfl (by decide) rfl rfl rfl (by decide) hr3 (by omega) (by omega) fun ra cap sp hra => ?_; refine KC (k := 2) (cs' := #[JE (n + 1) (some (ra, cap, sp))]) rfl rfl rfl rfl rfl rfl rfl rfl rfl rfl ?_; refine Jx 2 rfl ?_; refine KZ [2, 0] (L' := [_, _]) (by decide) rfl ?_; exact Kf (n + 1, xs ++ [J5 sv], some (ra, cap, sp)) ⟨by omega, by simp only; omega, by simp only; rw [zB ls2 hii, ← hsv, hxs]; unfold Wl; rw [List.map_append]; rfl, by rw [← hn]; exact hra⟩ rfl
   rintro D i ⟨n, xs, row3⟩ hfi ⟨h2i, hn, hxs, hr3⟩
   simp only at hn hxs hr3
   have hi2 : 2 * i = ls2.length := by omega
   have hpl := We ls2
   rw [List.take_of_length_le (by omega)] at hxs
   obtain rfl : n = (SL.pairUp ls2).length := by omega
   subst hxs; rw [← hn] at hr3; refine Y7 2 rfl ?_
   have hkz := wB (s := z ++ z) (by rw [List.length_append]; omega)
   obtain ⟨z2, hz2⟩ : ∃ x, x = W5 (z ++ z) := ⟨_, rfl⟩
   rw [← hz2] at hkz heq; refine JK 7 (by kernel_rfl) (by kernel_rfl) ?_; refine Jd rfl rfl rfl (Jh (v := JE (SL.pairUp ls2).length row3) rfl (kn 1 rfl) rfl rfl) ?_; refine Jd rfl rfl rfl (Ji rfl) ?_; refine Jd rfl rfl rfl (Ji rfl) ?_; refine Jd rfl rfl rfl (QC (a := z) (b := z) rfl rfl (by omega)) ?_; refine Kz rfl rfl rfl Jf8 hkz ?_; refine Jd rfl rfl rfl (J9 rfl) ?_; refine Jd rfl rfl rfl (J9 rfl) ?_; refine JW ?_; refine JC 6 rfl ?_; refine J2 (show _ = Value.int .i64 ((2 ^ (k + 1) : Nat) : Int) from congrArg (Value.int .i64) ((Jd1 hk16).trans (by rw [Nat.pow_succ]))) ?_; refine Jx 2 rfl ?_; refine Jz ?_; refine xu (List.Perm.cons _ (QD (_ :: JR 9 (Wl (SL.pairUp ls2)) row3) (WB Ds) _)) ?_; exact zv (k + 1, SL.pairUp ls2, row3, z2, D :: Ds) rfl ⟨hk, hr3, by rw [show lg m - (k + 1) = K by omega]; exact heq, by rw [show lg m - (k + 1) = K by omega]; simp only; omega, ZO ls2, by rw [hz2]; exact Zi _⟩ (by simp only; omega) (lK rfl) (.cons_cons _ ((List.Sublist.refl _).append (.cons _ (List.sublist_append_left _ _)))) (fun _ _ h => h)
   exact fun _ _ _ h => h.elim
  ·refine JP 3 rfl ?_
   (have e : Qo ls z = ls := by unfold Qo; rw [if_neg (by omega)]
    have hra := hi.ok
    generalize row = row2 at hra ⊢
    generalize hn2 : ls.length = n2 at hra ⊢
    generalize hc2 : Wl ls = xs2 at hra ⊢
    obtain rfl : n2 = (Qo ls z).length := by rw [e, ← hn2]
    obtain rfl : xs2 = Wl (Qo ls z) := by rw [e, ← hc2])
   have hm2e := wD hi.mem hi.zl
   have hev := qJ ls z
   have hl2 := Xq ls z
   obtain ⟨ls2, hls2⟩ : ∃ x, x = Qo ls z := ⟨_, rfl⟩
   rw [← hls2] at hm2e hev hl2 hra heq ⊢
   have hl2b : ls2.length ≤ 2 ^ K * 2 := by omega
   refine Jo 1 rfl ?_; refine LN rfl fun r1 => ?_; refine JC 6 rfl ?_; refine JJ rfl rfl rfl (enters_of Tryz.func224 (by kernel_rfl) rfl) (Jdz ls2.length row2) fun rb => ?_; refine JY ((List.Perm.swap _ _ _).trans (List.Perm.cons _ List.perm_middle.symm)) ?_; change HL _ _ _ ((r1, .cells #[.slice none 0 0] 184 (0, 0)) :: (WB Ds ++ ((rb, .cells #[JE ls2.length row2] 184 (0, 0)) :: JR 9 (Wl ls2) row2))) _ _ _ _; refine JI 3 rfl ?_; refine Vk (τ := Unit) (fun i (s : Nat × List Value × QV) => 2 * i ≤ ls2.length ∧ s.1 = i ∧ s.2.1 = Wl ((SL.pairUp ls2).take i) ∧ rowOk 1 i s.2.1 s.2.2) (fun s => (r1, .cells #[JE s.1 s.2.2] 184 (0, 0)) :: JR 9 s.2.1 s.2.2) (fun _ _ => False) (fun _ => []) (WB Ds ++ ((rb, .cells #[JE ls2.length row2] 184 (0, 0)) :: JR 9 (Wl ls2) row2)) (0, [], none) rfl rfl (enters_of Tryz.func306 (by kernel_rfl) rfl) (Jd0 (by omega) hra rb) zA rfl (fun q hq => .inl (List.mem_append_right _ hq)) rfl ⟨Nat.zero_le _, rfl, rfl, rfl, rfl⟩ ?_ ?_ ?_
   rintro q Xr Xb w3 i _ _ _ ⟨n, xs, row3⟩ ⟨hii, rfl, rfl, rfl⟩ ⟨h2i, hn, hxs, hr3⟩ Kr hKr; refine yE ?_
   simp only at hn hxs hr3; rw [← hn] at hr3; refine Kn 8 rfl ?_; refine hKr _ _ ?_; refine J8 ?_; clear hKr; refine JP 1 rfl ?_
   have hg1 := jH hm2e (i := 2 * i) (by omega)
   have hg2 := jH hm2e (i := 2 * i + 1) (by omega)
   have hkc := wB (s := ls2.getD (2 * i) [] ++ ls2.getD (2 * i + 1) []) (by rw [List.length_append]; omega)
   obtain ⟨sv, hsv⟩ : ∃ x, x = W5 (ls2.getD (2 * i) [] ++ ls2.getD (2 * i + 1) []) := ⟨_, rfl⟩
   rw [← hsv] at hkc; refine Jcd [(r1, .cells #[JE n row3] 184 (0, 0))] [(0, .pure), (1, .pure), (2, .pure), (3, .pure), (4, .pure), (5, .act (Jhk (slV 1) (.cells #[J5 sv] 9 (0, 0))))] 6 (by kernel_rfl) (by kernel_rfl) (fun p hp => List.mem_singleton.1 hp ▸ List.mem_cons_self) ?_; refine Jce rfl rfl rfl rfl (fun _ hS => (Jh rfl (.inl (hS _ (Jr (n := 0) rfl))) rfl rfl)) ?_; refine Jce rfl rfl rfl rfl (fun _ hS => (Ji rfl)) ?_; refine Jce rfl rfl rfl rfl (fun _ hS => (Ji rfl)) ?_; refine Jce rfl rfl rfl rfl (fun _ hS => (QC (a := ls2.getD (2 * i) []) (b := ls2.getD (2 * i + 1) []) rfl rfl (by omega))) ?_; refine Jcf rfl rfl rfl rfl Jf8 hkc ?_; refine ZA (n := 1) (sz := 1) (vs := [_]) (zs := [_]) (r := [J5 sv]) rfl rfl rfl rfl rfl rfl rfl rfl rfl rfl (by show (madeCells #[_] _).toList = _; rw [QX]; exact rfl) rfl (fun p hp => List.mem_singleton.1 hp ▸ List.mem_cons_self) fun rv => ?_; refine Jnj ?_; refine KL (L0 := [_, _]) (xs := xs) (row := row3) (n := n) (sz := 1) (b := 16) (news := [J5 sv]) (List.perm_append_comm (l₁ := [_, _])) rfl rfl rfl rfl (kn 0 rfl) rfl rfl rfl rfl rfl (by decide) rfl rfl rfl (by decide) hr3 (by omega) (by omega) fun ra cap sp hra => ?_; refine KC (k := 2) (cs' := #[JE (n + 1) (some (ra, cap, sp))]) rfl rfl rfl rfl rfl rfl rfl rfl rfl rfl ?_; refine Jx 2 rfl ?_; refine KZ [2, 0] (L' := [_, _]) (by decide) rfl ?_; exact Kf (n + 1, xs ++ [J5 sv], some (ra, cap, sp)) ⟨by omega, by simp only; omega, by simp only; rw [zB ls2 hii, ← hsv, hxs]; unfold Wl; rw [List.map_append]; rfl, by rw [← hn]; exact hra⟩ rfl
   rintro D i ⟨n, xs, row3⟩ hfi ⟨h2i, hn, hxs, hr3⟩
   simp only at hn hxs hr3
   have hi2 : 2 * i = ls2.length := by omega
   have hpl := We ls2
   rw [List.take_of_length_le (by omega)] at hxs
   obtain rfl : n = (SL.pairUp ls2).length := by omega
   subst hxs; rw [← hn] at hr3; refine Y7 2 rfl ?_
   have hkz := wB (s := z ++ z) (by rw [List.length_append]; omega)
   obtain ⟨z2, hz2⟩ : ∃ x, x = W5 (z ++ z) := ⟨_, rfl⟩
   rw [← hz2] at hkz heq; refine JK 7 (by kernel_rfl) (by kernel_rfl) ?_; refine Jd rfl rfl rfl (Jh (v := JE (SL.pairUp ls2).length row3) rfl (kn 1 rfl) rfl rfl) ?_; refine Jd rfl rfl rfl (Ji rfl) ?_; refine Jd rfl rfl rfl (Ji rfl) ?_; refine Jd rfl rfl rfl (QC (a := z) (b := z) rfl rfl (by omega)) ?_; refine Kz rfl rfl rfl Jf8 hkz ?_; refine Jd rfl rfl rfl (J9 rfl) ?_; refine Jd rfl rfl rfl (J9 rfl) ?_; refine JW ?_; refine JC 6 rfl ?_; refine J2 (show _ = Value.int .i64 ((2 ^ (k + 1) : Nat) : Int) from congrArg (Value.int .i64) ((Jd1 hk16).trans (by rw [Nat.pow_succ]))) ?_; refine Jx 2 rfl ?_; refine Jz ?_; refine xu (List.Perm.cons _ (QD (_ :: JR 9 (Wl (SL.pairUp ls2)) row3) (WB Ds) _)) ?_; exact zv (k + 1, SL.pairUp ls2, row3, z2, D :: Ds) rfl ⟨hk, hr3, by rw [show lg m - (k + 1) = K by omega]; exact heq, by rw [show lg m - (k + 1) = K by omega]; simp only; omega, ZO ls2, by rw [hz2]; exact Zi _⟩ (by simp only; omega) (lK rfl) (.cons_cons _ ((List.Sublist.refl _).append (.cons _ (List.sublist_append_left _ _)))) (fun _ _ h => h)
   exact fun _ _ _ h => h.elim
 ·refine JP 7 rfl ?_
  have hkl : ¬ k < lg m := fun h => by have := Jpy.2 h; omega
  obtain rfl : k = lg m := by have := hi.le; omega
  have heq := hi.eq
  have hlen := hi.len
  rw [Nat.sub_self] at heq hlen; refine Jo 2 rfl ?_; refine LR rfl (Xi rfl hi.ok.zero rfl) ?_; refine JI 3 rfl ?_; refine cD (fun g => ?_) fun g => ?_
  refine Kn 8 rfl ?_; refine wq Ds ?_; refine pT rfl rfl rfl fun w1 hs1 => ?_; refine ⟨?_, hs1.keep⟩
  (obtain rfl : ls = [] := List.eq_nil_of_length_eq_zero (by omega)
   rw [← heq]; rfl)
  ·refine JP 3 rfl ?_
   obtain ⟨s0, hls1⟩ : ∃ s0, ls = [s0] := by
    match ls, hlen with
    | [a], _ => exact ⟨a, rfl⟩
    | [], _ => exact absurd rfl (by assumption)
    | _ :: _ :: _, h => simp at h
   refine Jo 2 rfl ?_; refine LR rfl (Ju (p := Vd row) (j := 0) (show _ = some (KP ls.length (Vd row)) from by rw [Xp _ _ hi.ok.zero]; rfl) (KJ (e := 9) hi.ok (by decide)) rfl rfl rfl rfl (by omega)) ?_; refine LR rfl (VY (p := Vd row) (fun q hq => Or.inl (List.mem_append_right _ hq)) rfl (KJ (e := 9) hi.ok (by decide)) (by omega) rfl (Jao (show ls[0]? = some s0 from by rw [hls1]; rfl))) ?_; refine Jx 4 rfl ?_; refine wq Ds ?_; refine pT rfl rfl rfl fun w1 hs1 => ?_; refine ⟨?_, hs1.keep⟩; rw [← heq, hls1]; rfl
abbrev fV1 (f : FuncId) : Value := .func (.func f) #[] #[]
def Yx (root : BS) (n : Nat) : BS := W5 (root ++ yH (jr n 8))
theorem le8 {n : Nat} (h : n < 18446744073709551616) : yI n 8 = (jr n 8, 0) := by
 unfold yI
 rw [if_neg]
 ·rfl
 ·have := (Ji0 (n := n) (k := 8) h (by decide)).2 (by simpa using h)
  omega
theorem Jpz {root : BS} (hr : root.length ≤ 1000) {n : Nat} (hn : n ≤ 9223372036854775807) : Pure Tryz.prog 163 [J5 root, .int .i64 (n : Int)].toArray (J5 (Yx root n)) := by
 have hk := wB (s := root ++ yH (jr n 8)) (by rw [List.length_append, vY (by rw [Vm]; decide)]; omega)
 change Pure _ _ _ (J5 (Yx root n)) at hk
 have hp := vY (s := jr n 8) (by rw [Vm]; decide)
 generalize Yx root n = z at hk
 refine Jk Tryz.func163 rfl rfl fun w => ?_; refine J8 ?_; refine Jo 9 rfl ?_; refine J2 (show _ = uV n from congrArg (Value.int .u64) (wrap_u64 (z := (n : Int)) (by omega) (by omega))) ?_; refine Jl rfl rfl rfl Juh (jG (n := n) (by omega) 8) ?_; refine J2 (show _ = Value.tuple #[J5 (jr n 8), .int .i64 0] from by rw [le8 (by omega)]; rfl) ?_; refine JC 11 rfl ?_; refine Jl rfl rfl rfl Jo9 (Jgg (s := jr n 8) (by rw [Vm]; decide)) ?_; refine LR rfl (QC (a := root) (b := yH (jr n 8)) rfl rfl (by omega)) ?_; refine Jl rfl rfl rfl Jf8 hk ?_; refine Jx 4 rfl ?_; refine pT rfl rfl rfl fun w1 hs1 => ?_; exact ⟨rfl, hs1.keep⟩
theorem YX (l : List BS) (s : BS) : Wl (l ++ [s]) = Wl l ++ [J5 s] := by unfold Wl; rw [List.map_append]; rfl
theorem Yd {Y : BS} {i : Nat} (h : i < Y.length) : (Y.map bV)[i]? = some (bV (Y.getD i 0)) := by
 rw [List.getElem?_map, List.getD_eq_getElem?_getD, List.getElem?_eq_getElem h]; rfl
def Yy (xs : BS) : Nat → BS
 | 0 => xs
 | i + 1 => ((Yy xs i).set i ((Yy xs i).getD (xs.length - 1 - i) 0)).set (xs.length - 1 - i) ((Yy xs i).getD i 0)
theorem Ye (xs : BS) : ∀ i, (Yy xs i).length = xs.length
 | 0 => rfl
 | i + 1 => by rw [Yy, List.length_set, List.length_set, Ye xs i]
theorem getD_set {Y : BS} {i j : Nat} {b : UInt8} (hi : i < Y.length) : (Y.set i b).getD j 0 = if i = j then b else Y.getD j 0 := by
 rw [List.getD_eq_getElem?_getD, List.getElem?_set, List.getD_eq_getElem?_getD]
 split
 ·first | rfl | (rw [if_pos hi]; rfl) | simp [hi]
 ·rfl
theorem jI (xs : BS) : ∀ {i j : Nat}, 2 * i ≤ xs.length → j < xs.length → (Yy xs i).getD j 0 = if j < i ∨ xs.length - 1 - j < i then xs.getD (xs.length - 1 - j) 0 else xs.getD j 0
 | 0, j, _, hj => by rw [Yy, if_neg (by omega)]
 | i + 1, j, hi, hj => by
  have h1 := Ye xs i
  have ga := jI xs (i := i) (j := xs.length - 1 - i) (by omega) (by omega)
  have gb := jI xs (i := i) (j := i) (by omega) (by omega)
  have gj := jI xs (i := i) (j := j) (by omega) hj
  rw [if_neg (by omega)] at ga gb; rw [Yy, getD_set (by rw [List.length_set, h1]; omega), getD_set (by rw [h1]; omega), ga, gb, gj]
  by_cases e1 : xs.length - 1 - i = j
  ·rw [if_pos e1, if_pos (by omega)]
   congr 1; omega
  ·rw [if_neg e1]
   by_cases e2 : i = j
   ·rw [if_pos e2, if_pos (by omega)]
    congr 1; omega
   ·rw [if_neg e2]
    by_cases e3 : j < i ∨ xs.length - 1 - j < i
    ·rw [if_pos e3, if_pos (by omega)]
    ·rw [if_neg e3, if_neg (by omega)]
theorem Jd2 {xs : BS} {i : Nat} (h1 : 2 * i ≤ xs.length) (h2 : xs.length ≤ 2 * i + 1) : Yy xs i = xs.reverse := by
 apply List.ext_getElem?
 intro j
 by_cases hj : j < xs.length
 ·have e1 : (Yy xs i)[j]? = some ((Yy xs i).getD j 0) := by rw [List.getD_eq_getElem?_getD, List.getElem?_eq_getElem (by rw [Ye]; exact hj)]; rfl
  rw [e1, jI xs h1 hj, List.getElem?_reverse hj]
  have e2 : xs[xs.length - 1 - j]? = some (xs.getD (xs.length - 1 - j) 0) := by rw [List.getD_eq_getElem?_getD, List.getElem?_eq_getElem (by omega)]; rfl
  rw [e2]
  by_cases e3 : j < i ∨ xs.length - 1 - j < i
  ·rw [if_pos e3]
  ·rw [if_neg e3, show xs.length - 1 - j = j by omega]
 ·rw [List.getElem?_eq_none (by rw [Ye]; omega), List.getElem?_eq_none (by rw [List.length_reverse]; omega)]
theorem jJ {Y : BS} {sp : List Value} {i : Nat} {b : UInt8} (h : i < Y.length) : (Y.map bV ++ sp).toArray.setIfInBounds i (bV b) = ((Y.set i b).map bV ++ sp).toArray := by
 rw [List.setIfInBounds_toArray, List.set_append_left _ _ (by rw [List.length_map]; exact h), List.map_set]
section
variable {c : Cx} {l : Kv} {L E : Jm} {X : XP} {Q : Exit → Act → World → Prop} {d : List Deferred}
variable {ops : Array Oper} {rest : List Nat} {i k : Nat} {v : Value} {o : Oper} {tb : ZT} {S : Jm} {T : Jm → Act → Prop}
theorem Zr {t ty : TypeId} {ps : String} {af : Array Edge} {gd : Option (Nat × Bool)} {x y : Operand} {q r off : Nat} {cs cs' : Array Value} {e : TypeId} {fr : Nat × Nat} {E' : Jm} (hko : WW ops.toList k = some ⟨none, .store t x y, ty, ps, af, gd⟩) (hg : Kg l ops ⟨none, .store t x y, ty, ps, af, gd⟩ = some true) (hA : tb k = .turn)
  (hx : JZ l x = some (.pointer (some ⟨r, off, none⟩))) (hk : E[q]? = some (r, .cells cs e fr)) (hy : JZ l y = some v) (ht : KN c.P t = some 1) (ho : Q6 v = true) (hfr : frB fr off = false) (hc : (cs[off]?).isSome = true)
  (hcs : cs.setIfInBounds off v = cs') (hL : E.set q (r, .cells cs' e fr) = E') (hS : SubS S E')
  (h : HB c d l E' X S ops tb rest T) : HB c d l E X S ops tb (k :: rest) T :=
 jx hko hg rfl hA (fun a w hf hs => ⟨w.setCell ⟨r, off, none⟩ v, by
  simp only [execOp]; rw [hf.eval hx, hf.eval hy]
  obtain ⟨old, hold⟩ := Option.isSome_iff_exists.1 hc
  have h1 := run_store c.P w ⟨r, off, none⟩ v .plain (by rw [WJ]; exact ho)
  rw [Vi (hs.get hk), hold, XR (hs.get hk) hfr] at h1
  have hcell : v.cells = #[v] := by cases v <;> first | rfl | cases ho
  simp [Instr.storeAt, Instr.sureAddr, Sem.run_bind, Result.andThen, storeVar, QS ht, hcell, storeCells, Addr.add, h1], by
  subst hL; subst hcs
  exact hs.set hk (Keep.setCell r off v) (Go.SL.heap_setCell_same v (hs.get hk))⟩) hS h
end
section
variable {c : Cx} {l : Kv} {L : Jm} {X : XP} {d : List Deferred} {i : Nat} {ps : String} {af : Array Edge} {gd : Option (Nat × Bool)} {ty : TypeId}
theorem qK {x : Operand} {b : List UInt8} {r n cap : Nat} {cs : Array Value} {e src dst : TypeId} {fr : Nat × Nat} (hx : JZ l x = some (.slice (some ⟨r, 0, none⟩) n cap)) (hk : known c L r (.cells cs e fr)) (hn : n = b.length) (ht : cs.toList.take b.length = b.map bV)
  (hs : Kk c.P src = some e) (he : c.P.underlying e = some (.int .u8)) (hd : vL c.P dst = true) :
  J6 c d l L X ⟨some i, .convert src dst x, ty, ps, af, gd⟩ (.string (bs b)) := fun a' w hf hst => by
 subst hn; simp only [execOp]; rw [hf.eval hx]
 have hget := hst.known hk
 have hl := q7 (P := c.P) (xs := b.map bV) hget (by rw [List.length_map]; exact ht)
 rw [List.length_map] at hl; simp only [Sem.run_bind]; rw [run_convert_bytes_string w src dst e _ _ _ (JX hs) he (QL hd)]; rw [run_bytesToString w _ _ _ (b.map fun x => ((x.toNat : Nat) : Int)) (by rw [hl]; simp [bV, Function.comp_def])]
 have := Ze b []
 rw [show (bs [] : ByteArray) = ByteArray.empty from rfl] at this; rw [this]
 rfl
end
theorem Jls {xs : BS} {sp : List Value} {r cap : Nat} {fr : Nat × Nat} (hfr : ∀ q, q < xs.length → frB fr q = false) (hc : xs.length ≤ cap) (hx : xs.length ≤ 9223372036854775807) : PureT (α := Unit) Tryz.prog 214 [.slice (some ⟨r, 0, none⟩) xs.length cap].toArray (fun _ => .tuple #[])
  [(r, .cells (xs.map bV ++ sp).toArray 5 fr)] (fun _ => [(r, .cells (xs.reverse.map bV ++ sp).toArray 5 fr)]) [] := by
 refine Jt Tryz.func214 rfl rfl fun w => ?_; refine J8 ?_; refine Jo 3 rfl ?_; refine LR rfl (JU rfl rfl) ?_; refine Wo rfl (J2 (show _ = Value.int .i64 ((xs.length : Int) - 1) from congrArg (Value.int .i64) (wrap_i64 (by omega) (by omega))) (JI 5 rfl ?_)); refine J1 (σ := Nat) (fun i => 2 * i ≤ xs.length + 1 ∧ 2 * i ≤ xs.length) (fun i => [(0, .slice (some ⟨r, 0, none⟩) xs.length cap), (2, .int .i64 (i : Int)), (3, .int .i64 ((xs.length : Int) - 1 - (i : Int)))]) (fun i => [(r, .cells ((Yy xs i).map bV ++ sp).toArray 5 fr)]) (fun _ _ _ => True) (fun i => xs.length - i) 0 ⟨by omega, by omega⟩ (.cons rfl (.cons rfl (.cons (by rw [show ((0 : Nat) : Int) = 0 from rfl, Int.sub_zero]; rfl) .nil))) (List.Sublist.refl _) (fun _ _ h => h) ?_; rintro i ⟨hi1, hi2⟩; refine JP 8 rfl ?_; refine cD (fun g => ?_) fun g => ?_
 ·refine JP 4 rfl ?_
  have hii : i + 1 ≤ xs.length - i := by omega
  obtain ⟨Y, hY⟩ : ∃ Y, Y = Yy xs i := ⟨_, rfl⟩
  have hYl : Y.length = xs.length := by rw [hY]; exact Ye xs i
  rw [← hY]
  refine JL [] [(0, .pure), (1, .pure), (2, .pure), (3, .pure), (4, .pure), (5, .pure), (6, .pure), (8, .pure), (9, .pure), (10, .pure), (12, .pure), (13, .turn), (14, .pure), (15, .turn)] 16 [0, 1, 2, 3, 4, 5, 6, 7, 8, 9, 10, 11, 12, 13, 14, 15] (by kernel_rfl) (by kernel_rfl) (by first | exact (fun _ h => absurd h List.not_mem_nil) | simp [SubS] | (intro p hp; simp [hp])) ?_; refine Jn (k := 0) rfl rfl rfl rfl rfl (fun _ hS => (Ji rfl)) ?_; refine Jn (k := 1) rfl rfl rfl rfl rfl (fun _ hS => (Ji rfl)) ?_; refine Jn (k := 2) rfl rfl rfl rfl rfl (fun _ hS => (Ji rfl)) ?_; refine Jn (k := 3) rfl rfl rfl rfl rfl (fun _ hS => (Ji rfl)) ?_; refine Jn (k := 4) rfl rfl rfl rfl rfl (fun _ hS => (Ji rfl)) ?_; refine Jn (k := 5) rfl rfl rfl rfl rfl (fun _ hS => (Ji rfl)) ?_; refine Jn (k := 6) rfl rfl rfl rfl rfl (fun _ _ => JH (j := (xs.length - 1 - i)) (m := 1) (off' := (xs.length - 1 - i)) rfl rfl rfl rfl (by omega) (by omega) (by omega)) ?_; refine KB (k := 7) rfl rfl rfl rfl rfl (Jh rfl (kn 0 rfl) rfl (jm (xs := Y.map bV) (v := bV (Y.getD (xs.length - 1 - i) 0)) (Yd (by omega)))) ?_; refine Jn (k := 8) rfl rfl rfl rfl rfl (fun _ hS => (Ji rfl)) ?_; refine Jn (k := 9) rfl rfl rfl rfl rfl (fun _ hS => (Ji rfl)) ?_; refine Jn (k := 10) rfl rfl rfl rfl rfl (fun _ _ => JH (j := i) (m := 1) (off' := i) rfl rfl rfl rfl (by omega) (by omega) (by omega)) ?_; refine KB (k := 11) rfl rfl rfl rfl rfl (Jh rfl (kn 0 rfl) rfl (jm (xs := Y.map bV) (v := bV (Y.getD (i) 0)) (Yd (by omega)))) ?_; refine Jn (k := 12) rfl rfl rfl rfl rfl (fun _ _ => JH (j := i) (m := 1) (off' := i) rfl rfl rfl rfl (by omega) (by omega) (by omega)) ?_; refine Zr (k := 13) (q := 0) (cs' := ((Y.set i (Y.getD (xs.length - 1 - i) 0)).map bV ++ sp).toArray) rfl rfl rfl rfl rfl rfl rfl rfl (hfr _ (by omega)) (by simp; omega) (jJ (by omega)) rfl (fun _ h => nomatch h) ?_; refine Jn (k := 14) rfl rfl rfl rfl rfl (fun _ _ => JH (j := (xs.length - 1 - i)) (m := 1) (off' := (xs.length - 1 - i)) rfl rfl rfl rfl (by omega) (by omega) (by omega)) ?_; refine Zr (k := 15) (q := 0) (cs' := ((Yy xs (i + 1)).map bV ++ sp).toArray) rfl rfl rfl rfl rfl rfl rfl rfl (hfr _ (by omega)) (by simp; omega) (by rw [jJ (by rw [List.length_set]; omega), Yy, ← hY]) rfl (fun _ h => nomatch h) ?_; refine Ko ?_; refine JC 6 rfl ?_; refine Je (by omega) (by omega) ?_; refine JC 2 rfl ?_; refine J2 (show _ = Value.int .i64 ((xs.length : Int) - 1 - ((i + 1 : Nat) : Int)) from by rw [wrap_i64 (by omega) (by omega)]; congr 1 <;> omega) ?_; refine Jx 3 rfl ?_; refine Jz ?_; exact Jv (i + 1) ⟨by omega, by omega⟩ (by omega) (lK rfl) (List.Sublist.refl _) (fun _ _ h => h)
 ·refine Kn 4 rfl ?_; refine Kh rfl rfl .nil (fun w1 hs1 => ?_); exact ⟨(), rfl, by rw [← Jd2 (xs := xs) (i := i) (by omega) (by omega)]; exact hs1⟩
theorem J04 (w : List Nat) : leW w 32 = (Zf w 32).reverse := by unfold leW; rw [List.take_of_length_le (by rw [List.length_reverse, V8]; exact Nat.le_refl _)]
theorem Jd3 (t : Ty) {R : Jm} {v : Vl} (hv : v.In R) : Pure Tryz.prog 159 [t.val, v.val].toArray (J5 (leW v.num 32)) := by
 obtain ⟨k, n, p, ins⟩ := t
 cases hv with
 | @mk a b c d bits pb items pi pick ha hb hc hd hlb hsb hl hs hp hi =>
 have hw : WOk [a, b, c, d] := ⟨rfl, fun x hx => by simp at hx; rcases hx with rfl | rfl | rfl | rfl <;> assumption⟩
 show Pure _ _ _ (J5 (leW [a, b, c, d] 32))
 rw [J04]
 have hfx := Q2 hw
 have hlen := V8 [a, b, c, d] 32
 generalize Zf [a, b, c, d] 32 = B at hfx hlen
 refine Jk Tryz.func159 rfl rfl fun w => ?_; refine J8 ?_; refine Jo 2 rfl ?_; refine LN rfl fun r1 => ?_; refine LN rfl fun r2 => ?_; refine Xj 7 [0] rfl rfl ?_; refine Jl rfl rfl rfl Jaf hfx ?_; refine X7 rfl rfl rfl rfl rfl rfl fun rb kb => ?_; refine JC 6 rfl ?_; refine Qh (T := [(rb, .cells (B.map bV ++ List.replicate kb (Value.int .u8 0)).toArray 5 (B.length + kb, B.length + kb + 1))]) (L0 := [(r2, _), (r1, _)]) (Rl := []) (List.Perm.refl _) rfl rfl rfl (enters_of Tryz.func214 (by kernel_rfl) rfl) (Jls (fun q hq => by simp [frB, Nat.blt, Nat.ble]; omega) (by omega) (by omega)) oN fun u => ?_; change HL _ _ _ ((rb, _) :: (r2, _) :: (r1, _) :: []) _ _ _ _; refine JC 5 rfl ?_; refine LR rfl (qK (b := B.reverse) rfl (kn 0 rfl) (by rw [List.length_reverse]) (by simp only [List.toList_toArray]; rw [List.take_left' (by rw [List.length_map])]) rfl rfl rfl) ?_; refine Jx 4 rfl ?_; refine pT rfl rfl rfl fun w1 hs1 => ?_; exact ⟨rfl, hs1.keep⟩
def rootM : Array MapEntry := #[⟨.int .i64 1, .func (.func 159) #[] #[], 0⟩, ⟨.int .i64 2, .func (.func 159) #[] #[], 1⟩, ⟨.int .i64 3, .func (.func 160) #[] #[], 2⟩, ⟨.int .i64 4, .func (.func 162) #[] #[], 3⟩,
 ⟨.int .i64 5, .func (.func 164) #[] #[], 4⟩, ⟨.int .i64 6, .func (.func 166) #[] #[], 5⟩, ⟨.int .i64 7, .func (.func 167) #[] #[], 6⟩, ⟨.int .i64 8, .func (.func 170) #[] #[], 7⟩]
theorem Jlt : ∀ e ∈ rootM.toList, isI e.key := by
 intro e he
 unfold rootM at he
 simp at he
 rcases he with rfl | rfl | rfl | rfl | rfl | rfl | rfl | rfl <;> exact ⟨_, rfl⟩
theorem jK {a b : Bool} (h : a = b) : Value.bool a = Value.bool b := by rw [h]
abbrev pB (own : Bool) (r : Nat) : Value := .pointer (if own then some ⟨r, 0, none⟩ else none)
def yK (r : Nat) (s : BS) (row : QV) (own : Bool) : Nat × Obj := (r, .cells #[pB own r, JE s.length row] 243 (0, 0))
def WE (r : Nat) (s : BS) (row : QV) (own : Bool) : Jm := yK r s row own :: JR 5 (s.map bV) row
def bOk (s : BS) (row : QV) : Prop := rowOk 1 s.length (s.map bV) row ∧ (s = [] → row = none)
theorem Jd4 (r : Nat) (own : Bool) (v : Value) : PureT (α := Unit) Tryz.prog 303 [XO r].toArray (fun _ => .tuple #[]) [(r, .cells #[pB own r, v] 243 (0, 0))] (fun _ => [(r, .cells #[pB true r, v] 243 (0, 0))]) [] := by
 cases own with
 | false =>
  refine Jt Tryz.func303 rfl rfl fun w => ?_; refine J8 ?_; refine Jo 5 rfl ?_; refine LR rfl (Jh (v := .pointer none) rfl (kn 0 rfl) rfl rfl) ?_; refine LR rfl (Jow rfl rfl rfl rfl) ?_; refine JI 2 rfl ?_; refine cD (fun g => ?_) fun g => ?_
  refine Jo 3 rfl ?_; refine LR rfl (Jf5 (sz := 2) rfl (kn 0 rfl) rfl rfl rfl (by decide) (by simp)) ?_; refine LR rfl (Jf6 rfl rfl (Tryz.func345) (by kernel_rfl) rfl rfl rfl) ?_; refine LR rfl (Jad rfl (kn 0 rfl) rfl rfl rfl (by kernel_rfl)) ?_; refine JC 2 rfl ?_; refine KC (k := 0) (cs' := #[XO r, v]) rfl rfl rfl rfl rfl rfl rfl rfl rfl rfl ?_; refine Jx 1 rfl ?_; refine Kh rfl rfl .nil (fun w1 hs1 => ?_); exact ⟨(), rfl, hs1⟩
  try exact Bool.noConfusion g
 | true =>
  refine Jt Tryz.func303 rfl rfl fun w => ?_; refine J8 ?_; refine Jo 5 rfl ?_; refine LR rfl (Jh (v := XO r) rfl (kn 0 rfl) rfl rfl) ?_; refine LR rfl (Jox rfl rfl rfl rfl) ?_; refine JI 2 rfl ?_; refine Jw rfl (fun g => ?_) (fun g => ?_)
  try exact Bool.noConfusion g
  ·refine Jo 5 rfl ?_; refine LR rfl (Jh (v := XO r) rfl (kn 0 rfl) rfl rfl) ?_; refine Qx rfl (LR rfl (Jov rfl rfl rfl rfl) (JI 2 rfl ?_)); refine Jw rfl (fun g => ?_) (fun g => ?_)
   try exact Bool.noConfusion g
   ·try simp only [ZZ] at g
    refine Kn 1 rfl ?_; refine Kh rfl rfl .nil (fun w1 hs1 => ?_); exact ⟨(), rfl, hs1⟩
theorem Jap (r : Nat) (s : BS) (row : QV) (own : Bool) : PureT (α := Unit) Tryz.prog 303 [XO r].toArray (fun _ => .tuple #[]) [yK r s row own] (fun _ => [yK r s row true]) [] := Jd4 r own _
theorem vx {r : Nat} {s s2 : BS} {row : QV} {own : Bool} (hb : bOk s row) (hl : s.length + s2.length ≤ 1000000) :
  PureT (α := { x : QV // bOk (s ++ s2) x }) Tryz.prog 217 [XO r, J5 s2].toArray (fun _ => .tuple #[.int .i64 (s2.length : Int), .nilIface]) (WE r s row own) (fun x => WE r (s ++ s2) x.1 true) [] := by
 refine Jt Tryz.func217 rfl rfl fun w => ?_; refine J8 ?_
 unfold WE
 refine Jo 9 rfl ?_; refine Qh (T := [yK r s row own]) (L0 := JR 5 (s.map bV) row) (Rl := []) (List.Perm.refl _) rfl rfl rfl (enters_of Tryz.func303 (by kernel_rfl) rfl) (Jap r s row own) oN fun u => ?_; change HL _ _ _ (yK r s row true :: JR 5 (s.map bV) row) _ _ _ _; refine JC 8 rfl ?_; refine LR rfl (Jh (v := JE s.length row) rfl (kn 0 rfl) rfl rfl) ?_; refine Qx rfl (Jf4 (e := 5) (s := s) (s2 := s2) (row := row) (L0 := [yK r s row true]) (List.perm_append_comm (l₁ := [_])) rfl rfl rfl rfl rfl rfl rfl rfl rfl hb.1 hb.2 (by omega) fun row2 h1 h2 => (JY List.perm_append_comm ?_)); change HL _ _ _ ((r, .cells #[pB true r, JE s.length row] 243 (0, 0)) :: JR 5 ((s ++ s2).map bV) row2) _ _ _ _; refine JC 2 rfl ?_; refine KC (k := 0) (cs' := #[pB true r, JE (s ++ s2).length row2]) rfl rfl rfl rfl rfl (Jlr _ _) rfl rfl rfl rfl ?_; refine JC 5 rfl ?_; refine LR rfl (Qm rfl rfl) ?_; refine Jx 5 rfl ?_; refine Jf rfl rfl (.cons (Jj rfl) (.cons (Jj rfl) .nil)) (fun w1 hs1 => ?_); exact ⟨⟨row2, h1, h2⟩, rfl, hs1⟩
theorem Jyu (r : Nat) {s : BS} {row : QV} (own : Bool) (hb : bOk s row) : PureR Tryz.prog 246 [XO r].toArray (.int .i64 (s.length : Int)) [yK r s row own] := by
 refine Ja Tryz.func246 rfl rfl fun w => ?_; refine J8 ?_; refine Jo 10 rfl ?_; refine LR rfl (Jh (v := JE s.length row) rfl (Jy (k := 0) rfl) rfl rfl) ?_; refine LR rfl (Xi rfl hb.1.zero rfl) ?_; refine Jx 4 rfl ?_; refine pT rfl rfl rfl fun w1 hs1 => ?_; exact ⟨rfl, hs1.keep⟩
theorem Jgh {r : Nat} {s : BS} {row : QV} {own : Bool} (hb : bOk s row) (hl : s.length ≤ 1000000) :
  PureT (α := Unit) Tryz.prog 219 [XO r].toArray (fun _ => J5 s) (WE r s row own) (fun _ => []) [] := by
 have hcap : ∀ q cap sp, row = some (q, cap, sp) → cap ≠ 0 := by
  rintro q cap sp rfl h0
  obtain ⟨⟨h1, h2⟩, h3⟩ := hb
  have h4 : s.length = 0 := by omega
  have := h3 (List.eq_nil_of_length_eq_zero h4)
  cases this
 refine Jt Tryz.func219 rfl rfl fun w => ?_; refine J8 ?_
 unfold WE
 refine JP 6 rfl ?_
 refine JL [] [(0, .pure), (1, .pure), (2, .pure), (4, .pure), (5, .pure), (6, .pure), (7, .pure), (9, .pure)] 10 [0, 1, 2, 3, 4, 5, 6, 7, 8, 9] (by kernel_rfl) (by kernel_rfl) (by first | exact (fun _ h => absurd h List.not_mem_nil) | simp [SubS] | (intro p hp; simp [hp])) ?_; refine Jn (k := 0) rfl rfl rfl rfl rfl (fun _ hS => (Ji rfl)) ?_; refine Jn (k := 1) rfl rfl rfl rfl rfl (fun _ hS => (J0 rfl rfl rfl)) ?_
 refine Jn (k := 2) rfl rfl rfl rfl rfl (fun _ hS => (JD rfl rfl rfl)) ?_; refine KB (k := 3) rfl rfl rfl rfl rfl (Jh (v := JE s.length row) rfl (kn 0 rfl) rfl rfl) ?_; refine Jn (k := 4) rfl rfl rfl rfl rfl (fun _ _ => Jac rfl hcap) ?_; refine Jn (k := 5) rfl rfl rfl rfl rfl (fun _ hS => (Ji rfl)) ?_; refine Jn (k := 6) rfl rfl rfl rfl rfl (fun _ hS => (J0 rfl rfl rfl)) ?_
 refine Jn (k := 7) rfl rfl rfl rfl rfl (fun _ hS => (JD rfl rfl rfl)) ?_; refine KB (k := 8) rfl rfl rfl rfl rfl (Jh (v := JE s.length row) rfl (kn 0 rfl) rfl rfl) ?_; refine Jn (k := 9) rfl rfl rfl rfl rfl (fun _ _ => Xi rfl hb.1.zero rfl) ?_; refine Ko ?_; refine qY (e := 5) (s := s) (row := row) (L0 := [yK r s row own]) (List.perm_append_comm (l₁ := [_])) rfl rfl rfl rfl rfl rfl hb.1 hb.2 (by omega) ?_; refine Jx 4 rfl ?_; refine pT rfl rfl rfl fun w1 hs1 => ?_; exact ⟨(), rfl, hs1.weakL (List.nil_sublist _)⟩
theorem Ju9 (x : Ty) : yJ x = if V1 x then KV x else 4 := rfl
theorem Ji2 {R : Jm} {t : Ty} (ht : t.In R) : PureR Tryz.prog 367 [t.val].toArray (.tuple #[.int .i64 (yJ t), .bool (V1 t)]) R := by
 have h1 := Jiz ht
 have h2 := Jpo ht
 unfold zg at h2
 rw [Ju9]
 generalize V1 t = b at h1 h2 ⊢
 generalize KV t = z at h2 ⊢
 obtain ⟨k, n, p, ins⟩ := t
 refine Ja Tryz.func367 rfl rfl fun w => ?_; refine J8 ?_; refine Jo 2 rfl ?_; refine LN rfl fun r1 => ?_; refine JC 7 rfl ?_; refine LR rfl (Jp (vs := [_, _, _]) rfl (kn 0 rfl) rfl rfl rfl rfl) ?_; refine Jg rfl rfl rfl (enters_of Tryz.func304 (by kernel_rfl) rfl) h1 oR ?_; refine JI 2 rfl ?_; refine cD (fun g => ?_) fun g => ?_
 refine Jo 2 rfl ?_; refine LR rfl (Jp (vs := [_, _, _]) rfl (kn 0 rfl) rfl rfl rfl rfl) ?_; refine Jg rfl rfl rfl (enters_of Tryz.func221 (by kernel_rfl) rfl) h2 oR ?_; refine Jx 6 rfl ?_; refine Jf rfl rfl (.cons (Jj rfl) (.cons (Jj rfl) .nil)) (fun w1 hs1 => ?_); refine ⟨?_, hs1.keep⟩
 simp_all [JA]
 ·refine Kn 9 rfl ?_; refine Jf rfl rfl (.cons (Jj rfl) (.cons (Jj rfl) .nil)) (fun w1 hs1 => ?_); refine ⟨?_, hs1.keep⟩
  simp_all [JA]
theorem J05 {R : Jm} {k n : Int} {p : Pl} {ins : List Ty} {pick : Int} {i : Nat} (ht : Ty.In R (.mk k n p ins)) (hp8 : k = 8 → 0 ≤ pick) (hx : X9 k pick i < ins.length) : PureR Tryz.prog 380 [Ty.val (.mk k n p ins), .int .i64 pick, .int .i64 (i : Int)].toArray (JT k pick ins i).val R := by
 have hty := QR hx
 cases ht with
 | @mk k n p ins hk hn hlt hst hit =>
 obtain ⟨X, hX⟩ : ∃ X, X = JT k pick ins i := ⟨_, rfl⟩
 rw [← hX] at hty ⊢; refine Ja Tryz.func380 rfl rfl fun w => ?_; refine J8 ?_; refine Jo 2 rfl ?_; refine LN rfl fun r1 => ?_; refine LN rfl fun r2 => ?_; refine Goc 16 [1] rfl rfl ?_; refine cD (fun g => ?_) fun g => ?_
 refine X6 5 [1] rfl rfl ?_; refine LR rfl (Ju (j := X9 k pick i) rfl hst rfl rfl rfl (by unfold X9; rw [if_pos (by assumption)]) hx) ?_; refine LR rfl (Qp oR rfl hst hty.1 rfl rfl) ?_; refine Jc (k := 0) (n := 3) (ys := X.cells) rfl rfl rfl rfl rfl X.len rfl X.one rfl ?_; refine Jx 5 rfl ?_; refine Jf rfl rfl (.cons (Jq (vs := X.cells) rfl (kn 0 rfl) rfl (by rw [X.len]; rfl)) .nil) (fun w1 hs1 => ?_); exact ⟨rfl, hs1.keep⟩
 ·refine JP 6 rfl ?_; refine cD (fun g => ?_) fun g => ?_
  refine X6 5 [1] rfl rfl ?_; refine LR rfl (Ju (j := X9 k pick i) rfl hst rfl rfl rfl (by unfold X9; rw [if_neg (by assumption), if_pos (by assumption)]; have := hp8 (by assumption); omega) hx) ?_; refine LR rfl (Qp oR rfl hst hty.1 rfl rfl) ?_; refine Jc (k := 0) (n := 3) (ys := X.cells) rfl rfl rfl rfl rfl X.len rfl X.one rfl ?_; refine Jx 5 rfl ?_; refine Jf rfl rfl (.cons (Jq (vs := X.cells) rfl (kn 0 rfl) rfl (by rw [X.len]; rfl)) .nil) (fun w1 hs1 => ?_); exact ⟨rfl, hs1.keep⟩
  ·refine X6 7 [1] rfl rfl ?_; refine LR rfl (Ju (j := X9 k pick i) rfl hst rfl rfl rfl (by unfold X9; rw [if_neg (by assumption), if_neg (by assumption)]; rfl) hx) ?_; refine LR rfl (Qp oR rfl hst hty.1 rfl rfl) ?_; refine Jc (k := 0) (n := 3) (ys := X.cells) rfl rfl rfl rfl rfl X.len rfl X.one rfl ?_; refine Jx 3 rfl ?_; refine Jf rfl rfl (.cons (Jq (vs := X.cells) rfl (kn 0 rfl) rfl (by rw [X.len]; rfl)) .nil) (fun w1 hs1 => ?_); exact ⟨rfl, hs1.keep⟩
def Xs (k : Int) (ins : List Ty) (m : Nat) : List Ty := (List.range m).map fun i => JT k 0 ins i
theorem Jd5 : ∀ a b : List Ty, Vg (a ++ b) = Vg a + Vg b
 | [], b => by rw [List.nil_append, Vg, Int.zero_add]
 | x :: xs, b => by rw [List.cons_append, Vg, Vg, Jd5 xs b, Int.add_assoc]
theorem Jlu (k : Int) (ins : List Ty) (i : Nat) : Vg (Xs k ins (i + 1)) = Vg (Xs k ins i) + yJ (JT k 0 ins i) := by
 unfold Xs
 rw [List.range_succ, List.map_append, Jd5, List.map_cons, List.map_nil, Vg, Vg, Int.add_zero]
theorem Ji3 (x : Ty) : 1 ≤ yJ x ∧ yJ x ≤ 2251799813685248 := by
 unfold yJ
 split
 ·rename_i h
  obtain ⟨h1, h2⟩ := Yc.1 h
  have h3 := Jfj x 0 (Int.le_refl _) h1 h2
  have h4 := Jn0 (show (5 - (0 : Int)).toNat ≤ 5 by decide)
  omega
 ·omega
theorem Jaq : ∀ l : List Ty, 0 ≤ Vg l ∧ Vg l ≤ 2251799813685248 * l.length
 | [] => by rw [Vg]; simp
 | x :: xs => by
  have h1 := Ji3 x
  have h2 := Jaq xs
  rw [Vg, List.length_cons]; omega
theorem Jd6 (k : Int) (ins : List Ty) (m : Nat) : (Xs k ins m).length = m := by unfold Xs; rw [List.length_map, List.length_range]
def vc (r : Nat) (m : Int) : Nat × Obj := (r, .cells #[.int .i64 m] 3 (0, 0))
theorem Ji4 (t : Ty) (m : Int) : PureE (α := Nat × Nat) Tryz.prog 366 [t.val, .int .i64 m].toArray (fun p => .func (.func 379) #[] #[XO p.2, XO p.1]) (fun p => [vc p.2 m, WD p.1 t]) := by
 obtain ⟨k, n, p, ins⟩ := t
 refine JV Tryz.func366 rfl rfl fun w => ?_; refine J8 ?_; refine Jo 2 rfl ?_; refine LN rfl fun r1 => ?_; refine LN rfl fun r2 => ?_; refine JC 5 rfl ?_; refine LR rfl (JB rfl rfl) ?_; refine Jx 4 rfl ?_; refine pT rfl rfl rfl fun w1 hs1 => ?_; exact ⟨(r1, r2), rfl, hs1⟩
def itV (k : Int) (ins : List Ty) (i : Nat) : List Value := [.int .i64 (i : Int), (JT k 0 ins i).val]
theorem Ji5 {R : Jm} {k n : Int} {p : Pl} {ins : List Ty} {m : Nat} (ht : Ty.In R (.mk k n p ins)) (hm : m ≤ 1000000) (hx : ∀ i, i < m → X9 k 0 i < ins.length) (rt ri : Nat) :
    jk Tryz.prog 379 [XO ri, XO rt] (vc ri m :: WD rt (.mk k n p ins) :: R) 0 (nxN (itV k ins) m) (yD m) := by
  refine QY Tryz.func379 rfl rfl fun q xids w2 XI XF hY => ?_; refine J8 ?_; refine Jo 2 rfl ?_; refine LR rfl (Jh (v := .int .i64 (m : Int)) rfl (Jy (k := 0) rfl) rfl rfl) ?_; refine JI 4 rfl ?_; refine J1 (σ := Nat) (fun i => i ≤ m) (fun i => [(0, .func (.yield q) #[] #[]), (1, XO ri), (2, XO rt), (5, .int .i64 (m : Int)), (6, .int .i64 (i : Int))]) (fun _ => []) (fun i => XI i) (fun i => m - i) 0 (Nat.zero_le _) (lK rfl) (List.Sublist.refl _) (fun _ _ h => h) ?_; intro i hi; refine JP 6 rfl ?_; refine cD (fun g => ?_) fun g => ?_
  · refine JP 11 rfl ?_
    have hil : i < m := by omega
    refine Jo 3 rfl ?_; refine LR rfl (Jb (xs := Ty.cells (.mk k n p ins)) (n := 3) rfl (Jy (k := 1) rfl) rfl rfl (Ty.len _)) ?_; refine Qx rfl (Jg rfl rfl rfl (enters_of Tryz.func380 (by kernel_rfl) rfl) (J05 ht (fun _ => Int.le_refl 0) (hx i hil)) (fun q hq => Or.inr (List.mem_cons_of_mem _ (List.mem_cons_of_mem _ hq))) ?_); refine Vy (XT := XI (i + 1)) (XF := XF) rfl rfl rfl rfl (hY i (itV k ins i) (i + 1) ⟨hil, rfl, rfl⟩) ?_ ?_
    all_goals (
     refine Jx 2 rfl (Y7 1 rfl ?_); refine Jw rfl (fun g => ?_) (fun g => ?_)
     · try exact Bool.noConfusion g
       all_goals try simp only [ZZ] at g
       all_goals (
        refine Kn 5 rfl ?_; refine Jf rfl rfl .nil (fun w1 hs1 => ?_)
        obtain ⟨xs1, hx1⟩ := hs1.now
        exact ⟨⟨_, rfl⟩, hs1.keep, .inr ⟨_, hx1⟩⟩
        skip)
     · try exact Bool.noConfusion g
       all_goals try simp only [ZZ] at g
       all_goals (
        refine Jo 5 rfl ?_; refine J2 (show _ = Value.int .i64 ((i + 1 : Nat) : Int) from by rw [wrap_i64 (by omega) (by omega)]; congr 1 <;> omega) ?_; refine Jx 2 rfl ?_; refine Jz ?_; exact Jv (i + 1) (by omega) (by omega) (lK rfl) (List.Sublist.refl _) (fun _ _ h => h)
        skip)
     skip)
  · refine Kn 4 rfl ?_; refine Kh rfl rfl .nil (fun w1 hs1 => ?_)
    obtain ⟨xs1, hx1⟩ := hs1.now
    exact ⟨⟨_, rfl⟩, hs1.keep, .inl ⟨i, _, (by show i = m; omega), hx1⟩⟩
theorem Jp0 {R : Jm} {k n : Int} {p : Pl} {ins : List Ty} {m : Nat} (ht : Ty.In R (.mk k n p ins)) (hm : m ≤ 600) (hx : ∀ i, i < m → X9 k 0 i < ins.length) : PureR Tryz.prog 365 [Ty.val (.mk k n p ins), .int .i64 (m : Int)].toArray (.int .i64 (Vg (Xs k ins m))) R := by
 have hti := fun i h => ht.sub _ (QR (hx i h)).2
 refine Ja Tryz.func365 rfl rfl fun w => ?_; refine J8 ?_; refine Jo 2 rfl ?_; refine LN rfl fun r1 => ?_; refine JC 5 rfl ?_; refine LN rfl fun r2 => ?_
 refine LT 0 rfl rfl ?_; refine Xj 7 [1] rfl rfl ?_; refine JJ rfl rfl rfl (enters_of Tryz.func366 (by kernel_rfl) rfl) (Ji4 (.mk k n p ins) (m : Int)) fun pp => ?_
 obtain ⟨ra, rb⟩ := pp
 change HL _ _ _ (vc rb m :: WD ra (.mk k n p ins) :: _) _ _ _ _; refine JI 3 rfl ?_; refine Vt [2, 0, 1, 3] (L' := [_, _, _, _]) (by decide) rfl ?_
 refine VW (τ := Unit) (fun i (s : Nat) => i ≤ m ∧ i = s) (fun s => [(r2, .cells #[.int .i64 (Vg (Xs k ins s))] 3 (0, 0))]) (fun _ _ => False) (fun _ => []) [vc rb m, WD ra (.mk k n p ins), _] 0 rfl rfl (enters_of Tryz.func379 (by kernel_rfl) rfl) (Ji5 ht (by omega) hx ra rb) (by rintro _ _ _ ⟨_, rfl, _⟩; rfl) rfl (fun q hq => by rcases List.mem_cons.1 hq with rfl | hq; exact .inl (by simp); rcases List.mem_cons.1 hq with rfl | hq; exact .inl (by simp); exact .inr hq) rfl ⟨Nat.zero_le _, rfl⟩ ?_ ?_ ?_
 rintro q Xr Xb w3 i _ _ s ⟨hii, rfl, rfl⟩ ⟨him, rfl⟩ Kr hKr; refine yE ?_
 have hti1 := hti i hii
 have hb1 := Ji3 (JT k 0 ins i)
 have hb2 := Jaq (Xs k ins i)
 rw [Jd6] at hb2
 unfold itV
 refine Jo 1 rfl ?_; refine LN rfl fun r3 => ?_; refine Jc (k := 0) (n := 3) (ys := (JT k 0 ins i).cells) rfl rfl rfl rfl rfl (JT k 0 ins i).len rfl (JT k 0 ins i).one rfl ?_; refine Jx 1 rfl ?_; refine hKr _ _ ?_; refine J8 ?_; clear hKr; refine Jo 3 rfl ?_; refine LR rfl (Jb (xs := (JT k 0 ins i).cells) (n := 3) rfl (kn 0 rfl) rfl rfl (JT k 0 ins i).len) ?_; refine Jg rfl rfl rfl (enters_of Tryz.func367 (by kernel_rfl) rfl) (Ji2 hti1) (fun q hq => Or.inr (List.mem_append_right _ hq)) ?_; refine JC 8 rfl ?_; refine LR rfl (Jh (v := .int .i64 (Vg (Xs k ins i))) rfl (kn 1 rfl) rfl rfl) ?_; refine LS 2 [] rfl rfl ?_; refine J2 (show _ = Value.int .i64 (Vg (Xs k ins (i + 1))) from by rw [Jlu]; exact congrArg (Value.int .i64) (wrap_i64 (by omega) (by omega))) ?_; refine KC (k := 1) (cs' := #[.int .i64 (Vg (Xs k ins (i + 1)))]) rfl rfl rfl rfl rfl rfl rfl rfl rfl rfl ?_; refine Jx 2 rfl ?_; refine KZ [1] (L' := [_]) (by decide) rfl ?_; refine Kf (i + 1) ⟨by omega, rfl⟩ rfl
 rintro D i s hfi ⟨him, rfl⟩
 obtain rfl : m = i := Eq.symm hfi
 refine gqo 4 rfl ?_; refine LR rfl (Jh (v := .int .i64 (Vg (Xs k ins m))) rfl (kn 1 rfl) rfl rfl) ?_; refine Jx 4 rfl ?_; refine Kq (k := 0) rfl rfl ?_; refine pT rfl rfl rfl fun w1 hs1 => ?_; exact ⟨rfl, hs1.keep⟩
 ·exact fun _ _ _ h => h.elim
theorem Jp1 {s : BS} (hl : s.length ≤ 1000000) : Pure Tryz.prog 340 [J5 s].toArray (J5 s.reverse) := by
 refine Jk Tryz.func340 rfl rfl fun w => ?_; refine J8 ?_; refine Jo 8 rfl ?_; refine X7 rfl rfl rfl rfl rfl rfl fun rb kb => ?_
 obtain ⟨sp, hsp⟩ : ∃ sp, sp = List.replicate kb (Value.int .u8 0) := ⟨_, rfl⟩
 rw [← hsp]
 obtain ⟨fr, hfr⟩ : ∃ fr : Nat × Nat, fr = (s.length + kb, s.length + kb + 1) := ⟨_, rfl⟩
 rw [← hfr]
 have hfz : ∀ q, q < s.length → frB fr q = false := fun q hq => by rw [hfr]; simp [frB, Nat.blt, Nat.ble]; omega
 refine JC 7 rfl ?_; refine LR rfl (JU rfl rfl) ?_; refine Wo rfl (J2 (show _ = Value.int .i64 ((s.length : Int) - 1) from congrArg (Value.int .i64) (wrap_i64 (by omega) (by omega))) (JI 5 rfl ?_)); refine J1 (σ := Nat) (fun i => 2 * i ≤ s.length + 1 ∧ 2 * i ≤ s.length) (fun i => [(3, .slice (some ⟨rb, 0, none⟩) s.length (s.length + kb)), (4, .int .i64 (i : Int)), (5, .int .i64 ((s.length : Int) - 1 - (i : Int)))]) (fun i => [(rb, .cells ((Yy s i).map bV ++ sp).toArray 5 fr)]) (fun _ _ _ => True) (fun i => s.length - i) 0 ⟨by omega, by omega⟩ (.cons rfl (.cons rfl (.cons (by rw [show ((0 : Nat) : Int) = 0 from rfl, Int.sub_zero]; rfl) .nil))) (List.Sublist.refl _) (fun _ _ h => h) ?_; rintro i ⟨hi1, hi2⟩; refine JP 8 rfl ?_; refine cD (fun g => ?_) fun g => ?_
 ·refine JP 4 rfl ?_
  have hii : i + 1 ≤ s.length - i := by omega
  obtain ⟨Y, hY⟩ : ∃ Y, Y = Yy s i := ⟨_, rfl⟩
  have hYl : Y.length = s.length := by rw [hY]; exact Ye s i
  rw [← hY]
  refine JL [] [(0, .pure), (1, .pure), (2, .pure), (3, .pure), (4, .pure), (5, .pure), (6, .pure), (8, .pure), (9, .pure), (10, .pure), (12, .pure), (13, .turn), (14, .pure), (15, .turn)] 16 [0, 1, 2, 3, 4, 5, 6, 7, 8, 9, 10, 11, 12, 13, 14, 15] (by kernel_rfl) (by kernel_rfl) (by first | exact (fun _ h => absurd h List.not_mem_nil) | simp [SubS] | (intro p hp; simp [hp])) ?_; refine Jn (k := 0) rfl rfl rfl rfl rfl (fun _ hS => (Ji rfl)) ?_; refine Jn (k := 1) rfl rfl rfl rfl rfl (fun _ hS => (Ji rfl)) ?_; refine Jn (k := 2) rfl rfl rfl rfl rfl (fun _ hS => (Ji rfl)) ?_; refine Jn (k := 3) rfl rfl rfl rfl rfl (fun _ hS => (Ji rfl)) ?_; refine Jn (k := 4) rfl rfl rfl rfl rfl (fun _ hS => (Ji rfl)) ?_; refine Jn (k := 5) rfl rfl rfl rfl rfl (fun _ hS => (Ji rfl)) ?_; refine Jn (k := 6) rfl rfl rfl rfl rfl (fun _ _ => JH (j := (s.length - 1 - i)) (m := 1) (off' := (s.length - 1 - i)) rfl rfl rfl rfl (by omega) (by omega) (by omega)) ?_; refine KB (k := 7) rfl rfl rfl rfl rfl (Jh rfl (kn 0 rfl) rfl (jm (xs := Y.map bV) (v := bV (Y.getD (s.length - 1 - i) 0)) (Yd (by omega)))) ?_; refine Jn (k := 8) rfl rfl rfl rfl rfl (fun _ hS => (Ji rfl)) ?_; refine Jn (k := 9) rfl rfl rfl rfl rfl (fun _ hS => (Ji rfl)) ?_; refine Jn (k := 10) rfl rfl rfl rfl rfl (fun _ _ => JH (j := i) (m := 1) (off' := i) rfl rfl rfl rfl (by omega) (by omega) (by omega)) ?_; refine KB (k := 11) rfl rfl rfl rfl rfl (Jh rfl (kn 0 rfl) rfl (jm (xs := Y.map bV) (v := bV (Y.getD (i) 0)) (Yd (by omega)))) ?_; refine Jn (k := 12) rfl rfl rfl rfl rfl (fun _ _ => JH (j := i) (m := 1) (off' := i) rfl rfl rfl rfl (by omega) (by omega) (by omega)) ?_; refine Zr (k := 13) (q := 0) (cs' := ((Y.set i (Y.getD (s.length - 1 - i) 0)).map bV ++ sp).toArray) rfl rfl rfl rfl rfl rfl rfl rfl (hfz _ (by omega)) (by simp; omega) (jJ (by omega)) rfl (fun _ h => nomatch h) ?_; refine Jn (k := 14) rfl rfl rfl rfl rfl (fun _ _ => JH (j := (s.length - 1 - i)) (m := 1) (off' := (s.length - 1 - i)) rfl rfl rfl rfl (by omega) (by omega) (by omega)) ?_; refine Zr (k := 15) (q := 0) (cs' := ((Yy s (i + 1)).map bV ++ sp).toArray) rfl rfl rfl rfl rfl rfl rfl rfl (hfz _ (by omega)) (by simp; omega) (by rw [jJ (by rw [List.length_set]; omega), Yy, ← hY]) rfl (fun _ h => nomatch h) ?_; refine Ko ?_; refine JC 6 rfl ?_; refine Je (by omega) (by omega) ?_; refine JC 2 rfl ?_; refine J2 (show _ = Value.int .i64 ((s.length : Int) - 1 - ((i + 1 : Nat) : Int)) from by rw [wrap_i64 (by omega) (by omega)]; congr 1 <;> omega) ?_; refine Jx 3 rfl ?_; refine Jz ?_; exact Jv (i + 1) ⟨by omega, by omega⟩ (by omega) (lK rfl) (List.Sublist.refl _) (fun _ _ h => h)
 ·refine JP 6 rfl ?_; rw [Jd2 (xs := s) (i := i) (by omega) (by omega)]; refine Jo 2 rfl ?_; refine LR rfl (qK (b := s.reverse) rfl (kn 0 rfl) (by rw [List.length_reverse]) (by simp only [List.toList_toArray]; rw [List.take_left' (by rw [List.length_map])]) rfl rfl rfl) ?_; refine Jx 4 rfl ?_; refine pT rfl rfl rfl fun w1 hs1 => ?_; exact ⟨rfl, hs1.keep⟩
theorem zC {Y : BS} {i : Nat} {b : UInt8} : (Y.map bV).toArray.setIfInBounds i (bV b) = ((Y.set i b).map bV).toArray := by
 rw [List.setIfInBounds_toArray, List.map_set]
theorem Ji6 (x : UInt8) {m : Nat} (hm : m < 8) : Value.int .u8 ((x.toNat ||| 2 ^ m : Nat) : Int) = bV (UInt8.ofNat (x.toNat ||| 2 ^ m)) := Jhi (J0q (XS x) hm)
theorem Jp2 {m : Nat} (hm : m < 8) : IntKind.u8.wrap (1 * ((2 ^ m : Nat) : Int)) = ((2 ^ m : Nat) : Int) := by
 have h : 2 ^ m ≤ 128 := Nat.pow_le_pow_right (n := 2) (i := m) (j := 7) (by decide) (by omega)
 generalize 2 ^ m = q at h ⊢
 rw [Int.one_mul]; exact vh (by omega) (by omega)
theorem Jp3 {R : Jm} {l : List Bool} {g : FuncId} {caps : List Value} (hl : l.length ≤ 1000000) (eg : Enters Tryz.prog g) (hg : ∀ i, i < l.length → PureR Tryz.prog g (Value.int .i64 (i : Int) :: caps).toArray (.bool (l.getD i false)) R) :
  PureR Tryz.prog 341 [.int .i64 (l.length : Int), .func (.func g) #[] caps.toArray].toArray (J5 (WH l)) R := by
 obtain ⟨N, hN⟩ : ∃ N, N = (l.length + 7) / 8 := ⟨_, rfl⟩
 have hpB : WH l = KU l N l.length := by rw [hN]; rfl
 refine Ja Tryz.func341 rfl rfl fun w => ?_; refine J8 ?_; refine Jo 9 rfl ?_; refine J2 (show _ = Value.int .i64 ((l.length + 8 : Nat) : Int) from by rw [wrap_i64 (by omega) (by omega)]; congr 1 <;> omega) ?_
 refine Wo rfl ?_; refine J2 (show _ = Value.int .i64 ((l.length + 7 : Nat) : Int) from by rw [wrap_i64 (by omega) (by omega)]; congr 1 <;> omega) ?_; refine Wo rfl ?_; refine J2 (show _ = Value.int .i64 ((N : Nat) : Int) from congrArg (Value.int .i64) (by rw [QK (by omega) (by decide) (by omega), hN]; rfl)) ?_; refine WN (n := N) (b := 1) rfl rfl rfl rfl rfl rfl rfl rfl rfl (by omega) (by omega) fun rm => ?_; rw [show List.replicate N (Value.int .u8 0) = (KU l N 0).map bV from by rw [KU, List.map_replicate]; rfl]; refine JI 11 rfl ?_; refine J1 (σ := Nat) (fun i => i ≤ l.length) (fun i => [(1, .func (.func g) #[] caps.toArray), (5, .slice (some ⟨rm, 0, none⟩) N N), (12, .int .i64 (l.length : Int)), (13, .int .i64 (i : Int))]) (fun i => [(rm, .cells ((KU l N i).map bV).toArray 5 (0, 0))]) (fun _ _ _ => True) (fun i => l.length - i) 0 (Nat.zero_le _) (lK rfl) (List.Sublist.refl _) (fun _ _ h => h) ?_; intro i hi1; refine JP 6 rfl ?_; refine cD (fun h7 => ?_) fun h7 => ?_
 ·refine JP 5 rfl ?_
  have hil : i < l.length := by omega
  have hi8 : i / 8 < N := by omega
  refine Jo 9 rfl ?_; refine Jg rfl rfl rfl eg (hg i hil) oR ?_; refine JI 2 rfl ?_; refine cD (fun h11 => ?_) fun h11 => ?_
  ·have hbt : l.getD i false = true := by assumption
   have hst1 : KU l N (i + 1) = (KU l N i).set (i / 8) (UInt8.ofNat (((KU l N i).getD (i / 8) 0).toNat ||| 2 ^ (i % 8))) := by rw [KU, if_pos hbt]
   obtain ⟨Y, hY⟩ : ∃ Y, Y = KU l N i := ⟨_, rfl⟩
   have hYl : Y.length = N := by rw [hY]; exact Vn l N i
   rw [← hY] at hst1 ⊢
   refine JL [] [(0, .pure), (1, .pure), (2, .pure), (3, .pure), (5, .pure), (6, .pure), (7, .pure), (8, .pure), (9, .pure), (10, .turn)] 11 [0, 1, 2, 3, 4, 5, 6, 7, 8, 9, 10] (by kernel_rfl) (by kernel_rfl) (by first | exact (fun _ h => absurd h List.not_mem_nil) | simp [SubS] | (intro p hp; simp [hp])) ?_; refine Jn (k := 0) rfl rfl rfl rfl rfl (fun _ hS => (Ji rfl)) ?_; refine Jn (k := 1) rfl rfl rfl rfl rfl (fun _ hS => (Ji rfl)) ?_
   refine Jn (k := 2) rfl rfl rfl rfl rfl (fun _ _ => (J0 rfl rfl rfl)) ?_; refine Wu (show _ = Value.int .i64 ((i / 8 : Nat) : Int) from congrArg (Value.int .i64) (by first | exact WO _ _ | exact QK (by omega) (by decide) (by omega))) ?_; refine Jn (k := 3) rfl rfl rfl rfl rfl (fun _ _ => JH (j := (i / 8)) (m := 1) (off' := (i / 8)) rfl rfl rfl rfl (by omega) (by omega) (by omega)) ?_; refine KB (k := 4) rfl rfl rfl rfl rfl (Jh rfl (kn 0 rfl) rfl (by rw [W6]; exact Yd (by omega))) ?_; refine Jn (k := 5) rfl rfl rfl rfl rfl (fun _ hS => (Ji rfl)) ?_
   refine Jn (k := 6) rfl rfl rfl rfl rfl (fun _ _ => (J0 rfl rfl rfl)) ?_; refine Wu (show _ = Value.int .i64 ((i % 8 : Nat) : Int) from congrArg (Value.int .i64) (by first | exact WO _ _ | exact QK (by omega) (by decide) (by omega))) ?_; refine Jn (k := 7) rfl rfl rfl rfl rfl (fun _ _ => Jb9 (n := i % 8) (b := ((2 ^ (i % 8) : Nat) : Int)) rfl rfl rfl (show _ ≤ 8 from by omega) (Jp2 (by omega))) ?_; refine Jn (k := 8) rfl rfl rfl rfl rfl (fun _ _ => xH (op := .or) (m := (Y.getD (i / 8) 0).toNat) (n := 2 ^ (i % 8)) rfl rfl rfl (XS _) (Nat.pow_lt_pow_right (by decide) (by omega) : 2 ^ (i % 8) < 2 ^ 8) rfl) ?_; refine Wu (Ji6 _ (by omega)) ?_; refine Jn (k := 9) rfl rfl rfl rfl rfl (fun _ _ => JH (j := (i / 8)) (m := 1) (off' := (i / 8)) rfl rfl rfl rfl (by omega) (by omega) (by omega)) ?_; refine XW (k := 10) (q := 0) (cs' := ((KU l N (i + 1)).map bV).toArray) rfl rfl rfl rfl rfl rfl rfl rfl (by simp; omega) (by rw [zC, hst1]) rfl (fun _ h => nomatch h) ?_; refine Ko ?_; refine JC 5 rfl ?_; refine J2 (show _ = Value.int .i64 ((i + 1 : Nat) : Int) from by rw [wrap_i64 (by omega) (by omega)]; congr 1 <;> omega) ?_; refine Jx 2 rfl ?_; refine Jz ?_; exact Jv (i + 1) (by omega) (by omega) (lK rfl) (List.Sublist.refl _) (fun _ _ h => h)
  ·refine Jo 5 rfl ?_; refine J2 (show _ = Value.int .i64 ((i + 1 : Nat) : Int) from by rw [wrap_i64 (by omega) (by omega)]; congr 1 <;> omega) ?_; refine Jx 2 rfl ?_; refine Jz ?_
   (have hst0 : KU l N (i + 1) = KU l N i := by rw [KU, if_neg (by simp_all)]
    exact Jv (i + 1) (by omega) (by omega) (lK rfl) (by rw [hst0]; exact List.Sublist.refl _) (fun _ _ h => h))
 ·refine JP 6 rfl ?_
  obtain rfl : i = l.length := by omega
  refine Jo 2 rfl ?_; refine LR rfl (Q4 (b := KU l N l.length) (row := some (rm, N, [])) (e := 5) (show _ = some (JE (KU l N l.length).length _) from by rw [Vn]; rfl) ⟨by rw [List.length_map]; omega, by rw [Vn]; simp⟩ (fun p hp => .inl (by rw [List.mem_singleton.1 hp, List.append_nil]; exact List.mem_cons_self)) rfl rfl rfl) ?_; refine Jx 4 rfl ?_; refine pT rfl rfl rfl fun w1 hs1 => ?_; refine ⟨?_, hs1.keep⟩; rw [hpB]; rfl
theorem J2q {R : Jm} {a b c d : Nat} {bits : List Bool} {pb : Pl} {items : List Vl} {pi : Pl} {pick : Int} (hsb : Seg R bits.length (jt bits) pb) (hl : bits.length ≤ 9223372036854775807) (rv : Nat) {i : Nat} (hi : i < bits.length) :
  PureR Tryz.prog 342 [.int .i64 (i : Int), XO rv].toArray (.bool (bits.getD i false)) (Xz rv (.mk a b c d bits pb items pi pick) :: R) := by
 have hsb := hsb.mono (R' := Xz rv (.mk a b c d bits pb items pi pick) :: R) fun q hq => List.mem_cons_of_mem _ hq
 have hy : bits[i]? = some (bits.getD i false) := by rw [List.getD_eq_getElem?_getD, List.getElem?_eq_getElem hi]; rfl
 generalize bits.getD i false = y at hy ⊢
 refine Ja Tryz.func342 rfl rfl fun w => ?_; refine J8 ?_; refine Jo 8 rfl ?_; refine LR rfl (Jh rfl (Jy (k := 0) rfl) rfl rfl) ?_; refine Qx rfl ?_
 refine LR rfl (Ju (j := i) rfl hsb rfl rfl rfl (by first | rfl | omega) (by omega)) ?_; refine LR rfl (XU oR rfl hsb hy rfl) ?_; refine Jx 4 rfl ?_; refine pT rfl rfl rfl fun w1 hs1 => ?_; exact ⟨rfl, hs1.keep⟩
theorem J2r {R : Jm} {a b c d : Nat} {bits : List Bool} {pb : Pl} {items : List Vl} {pi : Pl} {pick : Int} (hsb : Seg R bits.length (jt bits) pb) (hl : bits.length ≤ 9223372036854775807) (rn rv : Nat) {i : Nat} (hi : i < (bits ++ [true]).length) :
  PureR Tryz.prog 343 [.int .i64 (i : Int), XO rn, XO rv].toArray (.bool ((bits ++ [true]).getD i false)) (vc rn bits.length :: Xz rv (.mk a b c d bits pb items pi pick) :: R) := by
 have hsb := hsb.mono (R' := vc rn bits.length :: Xz rv (.mk a b c d bits pb items pi pick) :: R) fun q hq => List.mem_cons_of_mem _ (List.mem_cons_of_mem _ hq)
 rw [List.length_append] at hi; simp only [List.length_cons, List.length_nil] at hi
 by_cases he : i = bits.length
 have hv : (bits ++ [true]).getD i false = true := by rw [List.getD_eq_getElem?_getD, List.getElem?_append_right (by omega), he, Nat.sub_self]; rfl
 rw [hv]; refine Ja Tryz.func343 rfl rfl fun w => ?_; refine J8 ?_; refine Jo 8 rfl ?_; refine LR rfl (Jh (v := .int .i64 (bits.length : Int)) rfl (Jy (k := 0) rfl) rfl rfl) ?_; refine Wo rfl (J2 (show _ = Value.bool true from jK (J0n (by rw [he]))) (Jx 11 rfl ?_)); refine pT rfl rfl rfl fun w1 hs1 => ?_; exact ⟨rfl, hs1.keep⟩
 ·have hy : bits[i]? = some (bits.getD i false) := by rw [List.getD_eq_getElem?_getD, List.getElem?_eq_getElem (by omega)]; rfl
  have hv : (bits ++ [true]).getD i false = bits.getD i false := by rw [List.getD_eq_getElem?_getD, List.getElem?_append_left (by omega), List.getD_eq_getElem?_getD]
  rw [hv]
  generalize bits.getD i false = y at hy ⊢
  have hne : ((i : Int) == (bits.length : Int)) = false := by simp; omega
  refine Ja Tryz.func343 rfl rfl fun w => ?_; refine J8 ?_; refine Jo 8 rfl ?_; refine LR rfl (Jh (v := .int .i64 (bits.length : Int)) rfl (Jy (k := 0) rfl) rfl rfl) ?_; refine Wo rfl (J2 (show _ = Value.bool false from jK (hne)) (JC 2 rfl ?_)); refine LR rfl (Jh rfl (Jy (k := 1) rfl) rfl rfl) ?_; refine Qx rfl ?_
  refine LR rfl (Ju (j := i) rfl hsb rfl rfl rfl (by first | rfl | omega) (by omega)) ?_; refine LR rfl (XU oR rfl hsb hy rfl) ?_; refine Jx 5 rfl ?_; refine pT rfl rfl rfl fun w1 hs1 => ?_; exact ⟨rfl, hs1.keep⟩
theorem vy {k : Int} (h8 : k ≠ 8) (pick : Int) (ins : List Ty) (i : Nat) : JT k pick ins i = JT k 0 ins i := by
 unfold JT X9; split
 ·rfl
 ·simp [h8]
theorem Ji7 {k : Int} (h8 : k ≠ 8) (pick : Int) (ins : List Ty) : ∀ (l : List Vl) (i : Nat), Qj l k pick ins i = Qj l k 0 ins i
 | [], i => by rw [Qj, Qj]
 | x :: xs, i => by rw [Qj, Qj, Ji7 h8 pick ins xs (i + 1), vy h8]
theorem Jd7 {k : Int} (ins : List Ty) : ∀ (l : List Vl) (i : Nat), (Qj l k 0 ins i).map Prod.fst = (List.range' i l.length).map fun j => JT k 0 ins j
 | [], i => by rw [Qj]; rfl
 | x :: xs, i => by
  rw [Qj, List.map_cons, Jd7 ins xs (i + 1), List.length_cons, List.range'_succ, List.map_cons]
theorem Jp4 (k : Int) (ins : List Ty) (l : List Vl) : (Qj l k 0 ins 0).map Prod.fst = Xs k ins l.length := by
 rw [Jd7]; unfold Xs; rw [List.range_eq_range']
theorem Jva {α : Type} (A : List α) (x : α) (B : List α) : (A ++ x :: B).Perm (B ++ (A ++ [x])) := by
 rw [show A ++ x :: B = (A ++ [x]) ++ B by simp]; exact List.perm_append_comm
def zD (l : List (Ty × BS)) : Nat := (l.map fun p => p.2.length + 4).sum
theorem wE (p : Ty × BS) (l : List (Ty × BS)) : zD (p :: l) = p.2.length + 4 + zD l := by unfold zD; rw [List.map_cons, List.sum_cons]
theorem Jar : bOk [] none := ⟨⟨rfl, rfl⟩, fun _ => rfl⟩
set_option maxHeartbeats 1000000 in
theorem Jyv {R : Jm} {k n : Int} {p : Pl} {ins : List Ty} {items : List Vl} {pi : Pl} {B : Nat} (ht : Ty.In R (.mk k n p ins)) (hs : Seg R items.length (Q7 items) pi) (hl : items.length ≤ 600) (hx : ∀ i, i < items.length → X9 k 0 i < ins.length)
  (hb : ∀ (i : Nat) x, items[i]? = some x → PureR Tryz.prog 302 [(JT k 0 ins i).val, x.val].toArray (J5 (Vp x (JT k 0 ins i))) R) (hB : zD (Qj items k 0 ins 0) ≤ B) (hB2 : B ≤ 900000) :
  PureR Tryz.prog 344 [Ty.val (.mk k n p ins), KP items.length pi].toArray (J5 (Zz (Vg (Xs k ins items.length)).toNat (Qj items k 0 ins 0) [] [])) R := by
 have hti := fun i h => ht.sub _ (QR (hx i h)).2
 have hbg := Jp0 ht hl hx
 have hbl := Jaq (Xs k ins items.length)
 rw [Jd6] at hbl
 obtain ⟨H, hH⟩ : ∃ H, H = (Vg (Xs k ins items.length)).toNat := ⟨_, rfl⟩
 have hHi : Vg (Xs k ins items.length) = (H : Int) := by omega
 have hHb : H ≤ 1351079888211148800 := by omega
 rw [hHi] at hbg; rw [← hH]
 obtain ⟨TOT, hTOT⟩ : ∃ T, T = Zz H (Qj items k 0 ins 0) [] [] := ⟨_, rfl⟩
 rw [← hTOT]; refine Ja Tryz.func344 rfl rfl fun w => ?_; refine J8 ?_; refine Jo 2 rfl ?_; refine LN rfl fun r1 => ?_; refine LN rfl fun r2 => ?_; refine JC 5 rfl ?_; refine LN rfl fun r3 => ?_; refine LN rfl fun r4 => ?_; refine Xj 6 [3, 2] rfl rfl ?_; refine LR rfl (J3 rfl hs rfl) ?_; refine Jg rfl rfl rfl (enters_of Tryz.func365 (by kernel_rfl) rfl) hbg oR ?_; refine LN rfl fun r5 => ?_
 refine LT 0 rfl rfl ?_; refine Xj 7 [4, 3] rfl rfl ?_; refine LR rfl (J3 rfl hs rfl) ?_; refine JJ rfl rfl rfl (enters_of Tryz.func366 (by kernel_rfl) rfl) (Ji4 (.mk k n p ins) (items.length : Int)) fun pp => ?_
 obtain ⟨ra, rb⟩ := pp
 change HL _ _ _ (vc rb items.length :: WD ra (.mk k n p ins) :: _) _ _ _ _; refine JI 3 rfl ?_; refine Vt [4, 3, 0, 1, 2, 5, 6] (L' := [yK r3 [] none false, yK r4 [] none false, vc rb items.length, WD ra (.mk k n p ins), _, _, _]) (by decide) rfl ?_
 refine VW (τ := Unit) (fun i (s : BS × BS × QV × QV × Bool × Bool) => i ≤ items.length ∧ Zz H (Qj (items.drop i) k 0 ins i) s.1 s.2.1 = TOT ∧ bOk s.1 s.2.2.1 ∧ bOk s.2.1 s.2.2.2.1 ∧ s.1.length + s.2.1.length + zD (Qj (items.drop i) k 0 ins i) ≤ B) (fun s => WE r3 s.1 s.2.2.1 s.2.2.2.2.1 ++ WE r4 s.2.1 s.2.2.2.1 s.2.2.2.2.2) (fun _ _ => False) (fun _ => []) [vc rb items.length, WD ra (.mk k n p ins), _, _, _] ([], [], none, none, false, false) rfl rfl (enters_of Tryz.func379 (by kernel_rfl) rfl) (Ji5 ht (by omega) hx ra rb) (by rintro _ _ _ ⟨_, rfl, _⟩; rfl) rfl (fun q hq => by rcases List.mem_cons.1 hq with rfl | hq; exact .inl (by simp); rcases List.mem_cons.1 hq with rfl | hq; exact .inl (by simp); exact .inr hq) rfl ⟨Nat.zero_le _, hTOT.symm, Jar, Jar, by simpa using hB⟩ ?_ ?_ ?_
 ·rintro q Xr Xb w3 i _ _ ⟨f, th, row1, row2, own1, own2⟩ ⟨hii, rfl, rfl⟩ ⟨him, hinv, hb1, hb2, hlen⟩ Kr hKr; refine yE ?_
  simp only at hinv hb1 hb2 hlen
  have hti1 := hti i hii
  have hix := XD hii
  have hbi := hb i _ hix.1
  rw [ZB hix.1, Qj, Zz] at hinv; rw [ZB hix.1, Qj, wE] at hlen
  obtain ⟨S, hS⟩ : ∃ S, S = Vp (XC items i) (JT k 0 ins i) := ⟨_, rfl⟩
  simp only [← hS] at hinv hlen; rw [← hS] at hbi
  have hle4 := Jdx (H + th.length)
  unfold itV
  refine Jo 6 rfl ?_; refine Qs (cs := #[.int .i64 0, .int .i64 0, .slice none 0 0]) rfl rfl rfl rfl fun r9 => ?_; refine Jc (k := 0) (n := 3) (ys := (JT k 0 ins i).cells) rfl rfl rfl rfl rfl (JT k 0 ins i).len rfl (JT k 0 ins i).one rfl ?_; refine Jx 1 rfl ?_; refine hKr _ _ ?_; refine J8 ?_; clear hKr; refine JP 2 rfl ?_; refine JK 7 (by kernel_rfl) (by kernel_rfl) ?_; refine Jd rfl rfl rfl (Jb (xs := (JT k 0 ins i).cells) (n := 3) rfl (kn 0 rfl) rfl rfl (JT k 0 ins i).len) ?_; refine Jd rfl rfl rfl (Jh (v := KP items.length pi) rfl (Jy (k := 3) rfl) rfl rfl) ?_; refine Jd rfl rfl rfl (Ji rfl) ?_
  refine Jd rfl rfl rfl (Ju (j := i) rfl hs rfl rfl rfl (by first | rfl | omega) (by omega)) ?_; refine Jd rfl rfl rfl (Wt (fun q hq => Or.inr (List.mem_append_right _ hq)) rfl hs hix.1 rfl rfl) ?_; refine QZ rfl rfl rfl Jpe hbi (fun q hq => Or.inr (List.mem_append_right _ hq)) ?_; refine Jd rfl rfl rfl (J9 rfl) ?_; refine JW ?_; refine JC 5 rfl ?_; refine LR rfl (Jb (xs := (JT k 0 ins i).cells) (n := 3) rfl (kn 0 rfl) rfl rfl (JT k 0 ins i).len) ?_; refine Jg rfl rfl rfl (enters_of Tryz.func367 (by kernel_rfl) rfl) (Ji2 hti1) (fun q hq => Or.inr (List.mem_append_right _ hq)) ?_; refine JI 12 rfl ?_; refine cD (fun g => ?_) fun g => ?_
  refine Jo 3 rfl ?_; refine Qh (T := WE r3 f row1 own1) (L0 := (r9, .cells (JT k 0 ins i).cells.toArray 84 (0, 0)) :: WE r4 th row2 own2) (Rl := []) List.perm_middle.symm rfl rfl rfl Jim (vx hb1 (s2 := S) (by omega)) oN fun x => ?_
  obtain ⟨row1x, hb1x⟩ := x
  refine Jx 5 rfl ?_
  (rw [if_pos (by assumption)] at hinv
   refine vu (L' := WE r3 (f ++ S) row1x true ++ WE r4 th row2 own2) ((List.Sublist.refl _).append (.cons _ (List.Sublist.refl _))) ?_
   exact Kf (f ++ S, th, row1x, row2, true, own2) ⟨by omega, hinv, hb1x, hb2, by simp only [List.length_append]; omega⟩ rfl)
  ·refine JP 3 rfl ?_; refine JK 10 (by kernel_rfl) (by kernel_rfl) ?_; refine Jd rfl rfl rfl (Jh (v := .int .i64 (H : Int)) rfl (Jy (k := 2) rfl) rfl rfl) ?_; refine QZ rfl rfl rfl (enters_of Tryz.func246 (by kernel_rfl) rfl) (Jyu r4 own2 hb2) (fun q hq => Or.inl (by rw [List.mem_singleton.1 hq]; exact List.mem_cons_of_mem _ (List.mem_append_right _ List.mem_cons_self))) ?_
   refine Jd rfl rfl rfl (J0 rfl rfl rfl) ?_; refine Ql (show _ = Value.int .i64 ((H + th.length : Nat) : Int) from by rw [wrap_i64 (by omega) (by omega)]; congr 1 <;> omega) ?_; refine Jd rfl rfl rfl (J0 rfl rfl rfl) ?_; refine Ql (show _ = uV (H + th.length) from congrArg (Value.int .u64) (wrap_u64 (by omega) (by omega))) ?_; refine Kz rfl rfl rfl Juh (jG (n := H + th.length) (by omega) 4) ?_; refine Jd rfl rfl rfl (Ji rfl) ?_; refine Jd rfl rfl rfl (JM rfl rfl) ?_; refine Jd rfl rfl rfl (JM rfl rfl) ?_; refine Jd rfl rfl rfl (J9 rfl) ?_; refine Jd rfl rfl rfl (J9 rfl) ?_; refine JW ?_; refine JC 5 rfl ?_; refine Qh (T := WE r3 f row1 own1) (L0 := (r9, .cells (JT k 0 ins i).cells.toArray 84 (0, 0)) :: WE r4 th row2 own2) (Rl := []) List.perm_middle.symm rfl rfl rfl Jim (vx hb1 (s2 := (yI (H + th.length) 4).1) (by omega)) oN fun x => ?_
   obtain ⟨row1x, hb1x⟩ := x
   refine JC 4 rfl ?_; refine Qh (T := WE r4 th row2 own2) (L0 := WE r3 (f ++ (yI (H + th.length) 4).1) row1x true ++ [(r9, .cells (JT k 0 ins i).cells.toArray 84 (0, 0))]) (Rl := []) (Jva _ _ _) rfl rfl rfl Jim (vx hb2 (s2 := S) (by omega)) oN fun x => ?_
   obtain ⟨row2x, hb2x⟩ := x
   refine Jx 2 rfl ?_
   (rw [if_neg (by rw [Bool.not_eq_true]; assumption)] at hinv
    refine xu List.perm_append_comm ?_; refine vu (L' := WE r3 (f ++ (yI (H + th.length) 4).1) row1x true ++ WE r4 (th ++ S) row2x true) ((List.sublist_append_left _ _).append (List.Sublist.refl _)) ?_
    exact Kf (f ++ (yI (H + th.length) 4).1, th ++ S, row1x, row2x, true, true) ⟨by omega, hinv, hb1x, hb2x, by simp only [List.length_append]; omega⟩ rfl)
 rintro D i ⟨f, th, row1, row2, own1, own2⟩ hfi ⟨him, hinv, hb1, hb2, hlen⟩
 simp only at hinv hb1 hb2 hlen
 have hin : i = items.length := hfi
 rw [hin, List.drop_length, Qj, Zz] at hinv; refine gqo 4 rfl ?_; refine Qh (T := WE r3 f row1 own1) (L0 := _ :: (WE r4 th row2 own2 ++ [vc rb items.length, WD ra (.mk k n p ins), _, _, _])) (Rl := []) (by rw [List.append_assoc]; exact List.perm_middle.symm) rfl rfl rfl Jo8 (Jgh hb1 (by omega)) oN fun u1 => ?_; refine Qh (T := WE r4 th row2 own2) (L0 := _ :: [vc rb items.length, WD ra (.mk k n p ins), _, _, _]) (Rl := []) List.perm_middle.symm rfl rfl rfl Jo8 (Jgh hb2 (by omega)) oN fun u2 => ?_; refine LR rfl (QC (a := f) (b := th) rfl rfl (by omega)) ?_; refine Jx 4 rfl ?_; refine Kq (k := 0) rfl rfl ?_; refine pT rfl rfl rfl fun w1 hs1 => ?_; exact ⟨by rw [← hinv]; rfl, hs1.keep⟩
 ·exact fun _ _ _ h => h.elim
theorem Xa {a b c d : Nat} {bits : List Bool} {pb : Pl} {items : List Vl} {pi : Pl} {pick k n : Int} {p : Pl} {ins : List Ty} (h : KO (.mk a b c d bits pb items pi pick) (.mk k n p ins) = 0) :
  ¬ ((k = 4 ∧ n < items.length) ∨ (k = 6 ∧ n < bits.length)) ∧ ofT k n ins.length (.mk a b c d bits pb items pi pick) = true ∧ QE items k pick ins 0 = 0 := by
 rw [KO] at h
 split at h
 ·cases h
 ·rename_i h1
  split at h
  ·cases h
  ·rename_i h2
   exact ⟨h1, by simpa using h2, h⟩
theorem Xt : ∀ {l : List Vl} {k pick : Int} {ins : List Ty} {i j : Nat} {x : Vl}, QE l k pick ins i = 0 → l[j]? = some x → KO x (JT k pick ins (i + j)) = 0
 | [], _, _, _, _, _, _, _, h => by simp at h
 | y :: ys, k, pick, ins, i, j, x, h0, h => by
  rw [QE] at h0
  split at h0
  ·rename_i h1
   cases j with
   | zero => simp at h; subst h; exact h1
   | succ j =>
    rw [List.getElem?_cons_succ] at h
    have := Xt h0 h
    rwa [show i + 1 + j = i + (j + 1) by omega] at this
  ·rename_i h1; exact absurd h0 h1
theorem Jp5 : ∀ {l : List Vl} {x : Vl}, x ∈ l → Y6 x ≤ wL l
 | y :: ys, x, h => by
  rw [wL]
  rcases List.mem_cons.1 h with rfl | h
  ·omega
  ·have := Jp5 h; omega
theorem Jgi {a b c d : Nat} {bits : List Bool} {pb : Pl} {items : List Vl} {pi : Pl} {pick : Int} {x : Vl} (h : x ∈ items) : Y6 x ≤ Y6 (.mk a b c d bits pb items pi pick) := by
 have := Jp5 h
 rw [Y6]; omega
theorem Jd8 (items : List Vl) (k pick : Int) (ins : List Ty) : ∀ (l : List Vl) (i : Nat), zD (Qj l k pick ins i) ≤ 40 * wL l
 | [], i => by rw [Qj, wL]; exact Nat.zero_le _
 | x :: xs, i => by
  rw [Qj, wL, wE]
  have h1 := wz x (JT k pick ins i)
  have h2 := Jd8 items k pick ins xs (i + 1)
  simp only
  omega
theorem Jlv {z : Int} (h1 : 0 ≤ z) (h2 : z < 256) : Value.int .u8 (IntKind.u8.wrap z) = bV (UInt8.ofNat z.toNat) := by
 rw [vh h1 (by omega), ← Jhi (by omega), Int.toNat_of_nonneg h1]
theorem Jvb {l : List Vl} {k pick : Int} {ins : List Ty} (h : l.length = 1) : ((Qj l k pick ins 0).headD (default, [])).2 = Vp (XC l 0) (JT k pick ins 0) := by
 match l, h with
 | [x], _ => rw [Qj]; rfl
theorem Jd9 {a b c d : Nat} {bits : List Bool} {pb : Pl} {items : List Vl} {pi : Pl} {pick k n dp : Int} {p : Pl} {ins : List Ty} (hc : chk (.mk k n p ins) dp = 0) (h : KO (.mk a b c d bits pb items pi pick) (.mk k n p ins) = 0) :
  items.length ≤ 512 ∧ bits.length ≤ 512 ∧ (k = 1 → 1 ≤ n ∧ n ≤ 32) ∧ (k = 8 → items.length = 1 ∧ 0 ≤ pick ∧ pick < ins.length ∧ ins.length ≤ 8) := by
 obtain ⟨h1, h2, _⟩ := Xa h
 obtain ⟨hk, hf, _, _⟩ := Va hc
 rw [Vv k n ins.length a b c d bits pb items pi pick _ rfl] at h2; simp only [Vf] at h2
 unfold Qc at hf
 have h9 : k = 1 ∨ k = 2 ∨ k = 3 ∨ k = 4 ∨ k = 5 ∨ k = 6 ∨ k = 7 ∨ k = 8 := by omega
 rcases h9 with rfl | rfl | rfl | rfl | rfl | rfl | rfl | rfl
 all_goals generalize items.length = I at *
 all_goals generalize bits.length = J at *
 all_goals generalize ins.length = K at *
 all_goals simp at h1 h2 hf ⊢
 all_goals omega
section
variable {c : Cx} {l : Kv} {L E : Jm} {X : XP} {Q : Exit → Act → World → Prop} {d : List Deferred}
variable {ops : Array Oper} {rest : List Nat} {i k : Nat} {v : Value} {o : Oper} {tb : ZT} {S : Jm} {T : Jm → Act → Prop}
theorem Wm {t ty : TypeId} {ps : String} {af : Array Edge} {gd : Option (Nat × Bool)} {n e sz : Nat} {pa : List (Nat × Operand)} {vs : Kv} {r zs : List Value} {z : Value} (hk : WW ops.toList k = some ⟨some i, .buildSlice t n pa.toArray, ty, ps, af, gd⟩) (hg : Kg l ops ⟨some i, .buildSlice t n pa.toArray, ty, ps, af, gd⟩ = some true) (hi : Nat.ble (i + 1) c.n = true)
  (hA : tb k = .grow (V2 (slV n) (.cells r.toArray e (0, 0))))
  (hp : WL l pa = some vs) (ht : Kk c.P t = some e) (hz : Qu c.P e = some z) (hs : KN c.P e = some sz) (hzs : z.cells.size = sz) (hb : Nat.ble (n * sz) 16777216 = true) (h0 : Nat.ble 1 (n * sz) = true)
  (hmk : (madeCells z.cells (n * sz)).toList = zs) (hf : Y8 (fun i => some (i * sz, sz)) zs (Qz vs) = some r)
  (h : ∀ q, HB c d ((i, .slice (some ⟨q, 0, none⟩) n n) :: l) ((q, .cells r.toArray e (0, 0)) :: E) X S ops tb rest T) : HB c d l E X S ops tb (k :: rest) T :=
 Jn5 (V := slV n) hk hg rfl hi hA (fun a w hfr => by
  have h1 := Vj hfr hp
  have h2 : (pa.toArray.map fun (p : Nat × Operand) => (p.1, a.eval p.2)) = vs.toArray := by
   apply Array.toList_inj.1; rw [Array.toList_map]; simpa using h1
  rw [Qw] at hf; subst hmk
  have h3 := VJ ht hz hs hzs (Nat.le_of_ble_eq_true hb) (Nat.le_of_ble_eq_true h0) hf w
  rw [← h2] at h3; simp only [execOp, Sem.run_bind]
  have h4 : (Instr.buildSlice t n (pa.toArray.map fun (i, x) => (i, a.eval x))).run c.P w = .ok (.slice (some ⟨w.heap.size, 0, none⟩) n n) (w.alloc (.cells r.toArray e)) := h3
  rw [h4]; rfl) h
end
section
variable {a b c d : Nat} {bits : List Bool} {pb : Pl} {items : List Vl} {pi : Pl} {pick k n : Int} {p : Pl} {ins : List Ty}
theorem Wn : Vp (.mk a b c d bits pb items pi pick) (.mk k n p ins) = if k = 1 then leW [a, b, c, d] n.toNat else if k = 2 then leW [a, b, c, d] 1 else if k = 5 then WH bits else if k = 6 then WH (bits ++ [true])
  else if k = 8 then UInt8.ofNat pick.toNat :: ((Qj items k pick ins 0).headD (default, [])).2 else Zz (Vg ((Qj items k pick ins 0).map Prod.fst)).toNat (Qj items k pick ins 0) [] [] := by rw [Vp]; rfl
end
set_option maxHeartbeats 1000000 in
theorem Jvc {R : Jm} {v : Vl} (hv : v.In R) : ∀ (t : Ty) (dp : Int), t.In R → chk t dp = 0 → KO v t = 0 → Y6 v ≤ 20000 → PureR Tryz.prog 302 [t.val, v.val].toArray (J5 (Vp v t)) R := by
 induction hv with
 | @mk a b c d bits pb items pi pick ha hb hc hd hlb hsb hl hs hp hi ih =>
 intro t dp ht hck hfit hw
 have ht0 := ht
 cases ht with
 | @mk k n p ins hk hn hlt hst hit =>
 obtain ⟨hk8, ho, h6, hci⟩ := Va hck
 obtain ⟨hf1, hf2, hf3⟩ := Xa hfit
 obtain ⟨m1, m2, m3, m4⟩ := Jd9 hck hfit
 have hxl : ∀ i, i < items.length → X9 k pick i < ins.length := fun i hi => qm (v := .mk a b c d bits pb items pi pick) hck hf2 hi
 have hwd : WOk [a, b, c, d] := ⟨rfl, fun x hx => by simp at hx; rcases hx with rfl | rfl | rfl | rfl <;> assumption⟩
 have hfx := Q2 hwd
 have hlen32 : (Zf [a, b, c, d] 32).reverse.length = 32 := by rw [List.length_reverse, V8]
 have hpt := Jp1 (s := Zf [a, b, c, d] 32) (by rw [V8]; decide)
 have hle : ∀ m, leW [a, b, c, d] m = ((Zf [a, b, c, d] 32).reverse.take m).drop 0 := fun m => by rw [List.drop_zero]; rfl
 have hrow : ¬ k = 1 → ¬ k = 2 → ¬ k = 5 → ¬ k = 6 → ¬ k = 8 → PureR Tryz.prog 344 [Ty.val (.mk k n p ins), KP items.length pi].toArray (J5 (Vp (.mk a b c d bits pb items pi pick) (.mk k n p ins))) R := fun h1 h2 h5 h6 h8 => by
  have hx0 : ∀ i, i < items.length → X9 k 0 i < ins.length := fun i hi => by have := hxl i hi; unfold X9 at this ⊢; rw [if_neg h8] at this ⊢; exact this
  have hwl : wL items ≤ Y6 (.mk a b c d bits pb items pi pick) := by rw [Y6]; omega
  have := Jyv (B := 800000) ht0 hs (by omega) hx0 (fun i x hxi => by
   have hm := List.mem_of_getElem? hxi
   have hlt3 := (List.getElem?_eq_some_iff.1 hxi).1
   have hty := (QR (hx0 i hlt3)).2
   have hg := Xt hf3 hxi
   rw [Nat.zero_add, vy h8] at hg
   exact ih x hm _ (dp + 1) (hit _ hty) (hci _ hty) hg (Nat.le_trans (Jgi hm) hw)) (by have := Jd8 items k 0 ins items 0; omega) (by decide)
  rw [Wn, if_neg h1, if_neg h2, if_neg h5, if_neg h6, if_neg h8, Ji7 h8, Jp4]; exact this
 refine Ja Tryz.func302 rfl rfl fun w => ?_; refine J8 ?_; refine Jo 2 rfl ?_; refine LN rfl fun r1 => ?_; refine LN rfl fun r2 => ?_; refine Xj 7 [0] rfl rfl ?_; refine LR rfl (J3 rfl hsb rfl) ?_; refine LN rfl fun r3 => ?_
 refine LT 0 rfl rfl ?_; refine Goc 16 [2] rfl rfl ?_; refine cD (fun h6 => ?_) fun h6 => ?_
 refine JP 1 rfl ?_
 have hn1 := m3 (by assumption)
 refine JK 8 (by kernel_rfl) (by kernel_rfl) ?_
 refine Jd rfl rfl rfl (JD rfl rfl rfl) ?_; refine Jd rfl rfl rfl (Jp (vs := [_, _, _, _]) rfl (kn 1 rfl) rfl rfl rfl rfl) ?_; refine Kz rfl rfl rfl Jaf hfx ?_; refine Kz rfl rfl rfl (enters_of Tryz.func340 (by kernel_rfl) rfl) hpt ?_
 refine Jd rfl rfl rfl (JD rfl rfl rfl) ?_; refine Jd rfl rfl rfl (Jh rfl (kn 2 rfl) rfl rfl) ?_; refine Jd rfl rfl rfl (jZ (kl := none) (kh := some (.i64, n)) (m := 0) (n := n.toNat) rfl rfl rfl rfl rfl (by show n = ((n.toNat : Nat) : Int); omega) (Nat.zero_le _) (by rw [hlen32]; omega) rfl) ?_; rw [← hle]; refine Jd rfl rfl rfl (J9 rfl) ?_; refine JW ?_; refine Jx 5 rfl ?_; refine pT rfl rfl rfl fun w1 hs1 => ?_; refine ⟨?_, hs1.keep⟩; rw [Wn, if_pos (by assumption)]; rfl
 ·refine JP 6 rfl ?_; refine cD (fun g => ?_) fun g => ?_
  refine X6 4 [1] rfl rfl ?_; refine Jl rfl rfl rfl Jaf hfx ?_; refine Jl rfl rfl rfl (enters_of Tryz.func340 (by kernel_rfl) rfl) hpt ?_; refine LR rfl (jZ (kl := none) (kh := some (.i64, 1)) (m := 0) (n := 1) rfl rfl rfl rfl rfl (by show (1 : Int) = ((1 : Nat) : Int); omega) (Nat.zero_le _) (by rw [hlen32]; omega) rfl) ?_; rw [← hle]; refine Jx 6 rfl ?_; refine pT rfl rfl rfl fun w1 hs1 => ?_; refine ⟨?_, hs1.keep⟩; rw [Wn, if_neg (by assumption), if_pos (by assumption)]; rfl
  ·refine JP 6 rfl ?_; refine cD (fun g => ?_) fun g => ?_
   refine Jo 2 rfl ?_; refine LR rfl (Jh rfl (kn 0 rfl) rfl rfl) ?_; refine LR rfl (JB rfl rfl) ?_; refine Jg (Rl := Xz r2 (.mk a b c d bits pb items pi pick) :: R) rfl rfl rfl (enters_of Tryz.func341 (by kernel_rfl) rfl) (Jp3 (caps := [XO r2]) (by omega) (enters_of Tryz.func342 (by kernel_rfl) rfl) (fun i hi => J2q hsb (by omega) r2 hi)) (fun q hq => (List.mem_cons.1 hq).elim (fun h => .inl (by rw [h]; exact List.mem_cons_of_mem _ List.mem_cons_self)) .inr) ?_; refine Jx 6 rfl ?_; refine pT rfl rfl rfl fun w1 hs1 => ?_; refine ⟨?_, hs1.keep⟩; rw [Wn, if_neg (by assumption), if_neg (by assumption), if_pos (by assumption)]; rfl
   ·refine JP 6 rfl ?_; refine cD (fun g => ?_) fun g => ?_
    refine X6 4 [0] rfl rfl ?_; refine J2 (show _ = Value.int .i64 (((bits ++ [true]).length : Nat) : Int) from by rw [wrap_i64 (by omega) (by omega)]; congr 1; rw [List.length_append]; rfl) ?_; refine LR rfl (JB rfl rfl) ?_
    refine Jg (Rl := vc r3 bits.length :: Xz r2 (.mk a b c d bits pb items pi pick) :: R) rfl rfl rfl (enters_of Tryz.func341 (by kernel_rfl) rfl) (Jp3 (caps := [XO r3, XO r2]) (by rw [List.length_append]; simp; omega) (enters_of Tryz.func343 (by kernel_rfl) rfl) (fun i hi => J2r hsb (by omega) r3 r2 hi)) (fun q hq => by rcases List.mem_cons.1 hq with rfl | hq; exact .inl List.mem_cons_self; rcases List.mem_cons.1 hq with rfl | hq; exact .inl (List.mem_cons_of_mem _ List.mem_cons_self); exact .inr hq) ?_; refine Jx 6 rfl ?_; refine pT rfl rfl rfl fun w1 hs1 => ?_; refine ⟨?_, hs1.keep⟩; rw [Wn, if_neg (by assumption), if_neg (by assumption), if_neg (by assumption), if_pos (by assumption)]; rfl
    ·refine JP 6 rfl ?_; refine cD (fun g => ?_) fun g => ?_
     refine JP 1 rfl ?_
     have hk0 : k = 8 := by assumption
     have h81 := (m4 hk0).1
     have hx8 := XD (l := items) (i := 0) (by omega)
     have hty8 := QR (hxl 0 (by omega))
     have hix8 : X9 k pick 0 = pick.toNat := by unfold X9; rw [if_neg (by omega), if_pos hk0]
     rw [hix8] at hty8
     have hg8 := Xt hf3 hx8.1
     have hw8 := Nat.le_trans (Jgi (a := a) (b := b) (c := c) (d := d) (bits := bits) (pb := pb) (pi := pi) (pick := pick) hx8.2) hw
     have hrec := ih _ hx8.2 (JT k pick ins 0) (dp + 1) (hit _ hty8.2) (hci _ hty8.2) hg8 hw8
     have hpl8 := wz (XC items 0) (JT k pick ins 0)
     refine JL [] [(0, .pure), (2, .pure), (3, .grow (V2 (slV 1) (.cells #[bV (UInt8.ofNat pick.toNat)] 5 (0, 0)))), (5, .pure), (7, .pure), (9, .pure), (11, .pure), (13, .pure), (16, .pure), (17, .pure)] 18 [0, 1, 2, 5, 6, 7, 8, 9, 10, 11, 12, 13, 14, 15, 3, 4, 16, 17] (by kernel_rfl) (by kernel_rfl) (by first | exact (fun _ h => absurd h List.not_mem_nil) | simp [SubS] | (intro p hp; simp [hp])) ?_
     refine Jn (k := 0) rfl rfl rfl rfl rfl (fun _ hS => (JD rfl rfl rfl)) ?_; refine KB (k := 1) rfl rfl rfl rfl rfl (Jh rfl (kn 1 rfl) rfl rfl) ?_; refine Jn (k := 2) rfl rfl rfl rfl rfl (fun _ hS => (J0 rfl rfl rfl)) ?_; refine Wu (show _ = bV (UInt8.ofNat pick.toNat) from Jlv (m4 (by assumption)).2.1 (by have := m4 (by assumption); omega)) ?_
     refine Jn (k := 5) rfl rfl rfl rfl rfl (fun _ hS => (JD rfl rfl rfl)) ?_; refine KB (k := 6) rfl rfl rfl rfl rfl (Jh rfl (kn 2 rfl) rfl rfl) ?_
     refine Jn (k := 7) rfl rfl rfl rfl rfl (fun _ hS => (JD rfl rfl rfl)) ?_; refine KB (k := 8) rfl rfl rfl rfl rfl (Jh rfl (kn 1 rfl) rfl rfl) ?_; refine Jn (k := 9) rfl rfl rfl rfl rfl (fun _ hS => (Ju (j := pick.toNat) rfl hst rfl rfl rfl (by have := m4 (by assumption); omega) (by have := m4 (by assumption); omega))) ?_; refine KB (k := 10) rfl rfl rfl rfl rfl (Qp oR rfl hst hty8.1 rfl rfl) ?_
     refine Jn (k := 11) rfl rfl rfl rfl rfl (fun _ hS => (JD rfl rfl rfl)) ?_; refine KB (k := 12) rfl rfl rfl rfl rfl (Jh rfl (kn 1 rfl) rfl rfl) ?_
     refine Jn (k := 13) rfl rfl rfl rfl rfl (fun _ hS => (Ju (j := 0) rfl hs rfl rfl rfl (by first | rfl | omega) (by omega))) ?_; refine KB (k := 14) rfl rfl rfl rfl rfl (Wt oR rfl hs hx8.1 rfl rfl) ?_; refine KH (k := 15) rfl rfl rfl rfl rfl Jpe hrec oR ?_; refine Wm (k := 3) (n := 1) (sz := 1) (vs := [_]) (zs := [_]) (r := [bV (UInt8.ofNat pick.toNat)]) rfl rfl rfl rfl rfl rfl rfl rfl rfl rfl rfl (by show (madeCells #[_] _).toList = _; rw [QX]; exact rfl) rfl fun rv => ?_; refine KB (k := 4) rfl rfl rfl rfl rfl (Q4 (b := [UInt8.ofNat pick.toNat]) (row := some (rv, 1, [])) (e := 5) rfl ⟨rfl, rfl⟩ (fun p hp => .inl (by rw [List.mem_singleton.1 hp]; exact List.mem_cons_self)) rfl rfl rfl) ?_; refine Jn (k := 16) rfl rfl rfl rfl rfl (fun _ hS => (QC (a := [UInt8.ofNat pick.toNat]) (b := Vp (XC items 0) (JT k pick ins 0)) rfl rfl (by simp only [List.length_cons, List.length_nil]; omega))) ?_; refine Jn (k := 17) rfl rfl rfl rfl rfl (fun _ hS => (J9 rfl)) ?_; refine Ko ?_; refine Jx 5 rfl ?_; refine pT rfl rfl rfl fun w1 hs1 => ?_; refine ⟨?_, hs1.keep⟩; rw [Wn, if_neg (by assumption), if_neg (by assumption), if_neg (by assumption), if_neg (by assumption), if_pos (by assumption), Jvb h81]; rfl
     ·refine Jo 5 rfl ?_; refine LR rfl (Jp (vs := [_, _, _]) rfl (kn 2 rfl) rfl rfl rfl rfl) ?_
      refine LS 2 [1] rfl rfl ?_; refine Jg rfl rfl rfl (enters_of Tryz.func344 (by kernel_rfl) rfl) (hrow (by assumption) (by assumption) (by assumption) (by assumption) (by assumption)) oR ?_; refine Jx 4 rfl ?_; refine pT rfl rfl rfl fun w1 hs1 => ?_; refine ⟨?_, hs1.keep⟩
      rfl
theorem Yz {t : Ty} {v : Vl} (h : V5 t v = 0) : chk t 0 = 0 ∧ KO v t = 0 := by
 unfold V5 at h
 split at h
 ·rename_i h1; exact ⟨h1, h⟩
 ·rename_i h1; exact absurd h h1
theorem Jvd {v : Vl} (t : Ty) (h : Y6 v ≤ 20000) : (Vp v t).length ≤ 800000 := by have := wz v t; omega
theorem Jyw {R : Jm} {t : Ty} {v : Vl} (ht : t.In R) (hv : v.In R) (hw : Y6 v ≤ 20000) : PureR Tryz.prog 216 [t.val, v.val].toArray (Zy (Ju0 t v)) R := by
 have h1 := Jpq ht hv
 have h2 := fun h => Jvc hv t 0 ht (Yz (t := t) (v := v) h).1 (Yz h).2 hw
 have hlb := Jvd t hw
 unfold Ju0
 generalize V5 t v = e at h1 h2 ⊢
 generalize Vp v t = s at h2 hlb ⊢
 obtain ⟨k, n, p, ins⟩ := t
 obtain ⟨a, b, c, d, bits, pb, items, pi, pick⟩ := v
 refine Ja Tryz.func216 rfl rfl fun w => ?_; refine J8 ?_; refine Jo 2 rfl ?_; refine LN rfl fun r1 => ?_; refine LN rfl fun r2 => ?_; refine Xj 9 [1, 0] rfl rfl ?_; refine Jg rfl rfl rfl (enters_of Tryz.func99 (by kernel_rfl) rfl) h1 oR ?_; refine JI 9 rfl ?_; refine cD (fun g => ?_) fun g => ?_
 refine Kn 9 rfl ?_; refine Jf rfl rfl (.cons (Jj rfl) (.cons (Jj rfl) .nil)) (fun w1 hs1 => ?_); refine ⟨?_, hs1.keep⟩; rw [if_pos (by omega)]; rfl
 ·refine X6 6 [1, 0] rfl rfl ?_; refine Jg rfl rfl rfl Jpe (h2 (by omega)) oR ?_; refine JC 7 rfl ?_; refine LR rfl (Qm rfl rfl) ?_; refine JI 3 rfl ?_; refine cD (fun g => ?_) fun g => ?_
  refine Kn 8 rfl ?_; refine Jf rfl rfl (.cons (Jj rfl) (.cons (Jj rfl) .nil)) (fun w1 hs1 => ?_); refine ⟨?_, hs1.keep⟩; rw [if_neg (by omega), if_pos (by omega)]; rfl
  ·refine Kn 10 rfl ?_; refine Jf rfl rfl (.cons (Jj rfl) (.cons (Jj rfl) .nil)) (fun w1 hs1 => ?_); refine ⟨?_, hs1.keep⟩; rw [if_neg (by omega), if_neg (by omega)]; rfl
section
variable {c : Cx} {l : Kv} {L : Jm} {X : XP} {d : List Deferred} {i : Nat} {ps : String} {af : Array Edge} {gd : Option (Nat × Bool)} {ty : TypeId}
theorem Jea {x : Operand} {b : List UInt8} {r off n cap : Nat} {cs : Array Value} {e src dst : TypeId} {fr : Nat × Nat} (hx : JZ l x = some (.slice (some ⟨r, off, none⟩) n cap)) (hk : known c L r (.cells cs e fr)) (hn : n = b.length) (ht : (cs.toList.drop off).take b.length = b.map bV)
  (hs : Kk c.P src = some e) (he : c.P.underlying e = some (.int .u8)) (hd : vL c.P dst = true) :
  J6 c d l L X ⟨some i, .convert src dst x, ty, ps, af, gd⟩ (.string (bs b)) := fun a' w hf hst => by
 subst hn; simp only [execOp]; rw [hf.eval hx]
 have hget := hst.known hk
 have hl : (loadCells ⟨r, off, none⟩ (b.map bV).length).run c.P w = .ok (b.map bV).toArray w := run_loadCells_list w ⟨r, off, none⟩ (b.map bV) fun j v hj => by
  have hlt := (List.getElem?_eq_some_iff.1 hj).1
  rw [List.length_map] at hlt
  have hj2 : cs[off + j]? = some v := by
   rw [← ht, List.getElem?_take, if_pos hlt, List.getElem?_drop] at hj
   simpa using hj
  rw [ji, Vi hget]; exact hj2
 rw [List.length_map] at hl; simp only [Sem.run_bind]; rw [run_convert_bytes_string w src dst e _ _ _ (JX hs) he (QL hd)]; rw [run_bytesToString w _ _ _ (b.map fun x => ((x.toNat : Nat) : Int)) (by rw [hl]; simp [bV, Function.comp_def])]
 have := Ze b []
 rw [show (bs [] : ByteArray) = ByteArray.empty from rfl] at this; rw [this]
 rfl
end
def Xu (s : BS) (i : Nat) : BS := (s.drop (32 * i)).take 32
def Jas (s : BS) : Nat := (s.length + 31) / 32
def wF (s : BS) (m : Nat) : List BS := (List.range m).map fun i => yH (Xu s i)
def Y0 (s : BS) : List BS := wF s (Jas s)
theorem Jp6 (s : BS) (m : Nat) : (wF s m).length = m := by unfold wF; rw [List.length_map, List.length_range]
theorem YY (s : BS) : (Y0 s).length = Jas s := Jp6 _ _
theorem Y1 (s : BS) (i : Nat) : (Xu s i).length = min 32 (s.length - 32 * i) := by unfold Xu; rw [List.length_take, List.length_drop]
theorem Jlw (s : BS) (i : Nat) : Wl (wF s (i + 1)) = Wl (wF s i) ++ [J5 (yH (Xu s i))] := by
 unfold wF
 rw [List.range_succ, List.map_append, List.map_cons, List.map_nil, YX]
theorem Zs (s : BS) : ∀ x ∈ Y0 s, x.length = 32 := by
 intro x hx
 unfold Y0 wF at hx
 obtain ⟨i, _, rfl⟩ := List.mem_map.1 hx
 exact vY (by rw [Y1]; omega)
theorem Jp7 (s : BS) (i : Nat) (sp : List Value) : ((s.map bV ++ sp).toArray.toList.drop (32 * i)).take (Xu s i).length = (Xu s i).map bV := by
 simp only [List.toList_toArray]; rw [Y1]
 by_cases h : 32 * i ≤ s.length
 ·rw [List.drop_append_of_le_length (by rw [List.length_map]; exact h), List.take_append_of_le_length (by rw [List.length_drop, List.length_map]; omega)]
  unfold Xu
  rw [List.map_take, List.map_drop]
  rcases Nat.le_total 32 (s.length - 32 * i) with h2 | h2
  ·rw [Nat.min_eq_left h2]
  ·rw [Nat.min_eq_right h2, List.take_of_length_le (by rw [List.length_drop, List.length_map]; omega), List.take_of_length_le (by rw [List.length_drop, List.length_map]; omega)]
 ·unfold Xu
  rw [show s.length - 32 * i = 0 by omega, Nat.min_zero, List.take_zero, List.drop_of_length_le (by omega)]; rfl
def chM (rb n cap : Nat) (p : Nat × Nat) : Jm := [(p.2, .cells #[.int .i64 32] 3 (0, 0)), (p.1, .cells #[.slice (some ⟨rb, 0, none⟩) n cap] 66 (0, 0))]
theorem Jp8 (rb n cap : Nat) : PureE (α := Nat × Nat) Tryz.prog 108 [.slice (some ⟨rb, 0, none⟩) n cap, .int .i64 32].toArray (fun p => .func (.func 175) #[] #[XO p.1, XO p.2]) (chM rb n cap) := by
 refine JV Tryz.func108 rfl rfl fun w => ?_; refine J8 ?_; refine Jo 2 rfl ?_; refine LN rfl fun r1 => ?_; refine LN rfl fun r2 => ?_; refine Goc 10 [0] rfl rfl ?_; refine Jw rfl (fun h4 => ?_) (fun h4 => ?_)
 exact absurd h4 (by decide)
 ·try simp only [ZZ] at h4
  refine Jo 4 rfl ?_; refine LR rfl (JB rfl rfl) ?_; refine Jx 4 rfl ?_; refine pT rfl rfl rfl fun w1 hs1 => ?_; exact ⟨(r1, r2), rfl, hs1⟩
def Jgj (rb n j : Nat) : List Value := [.slice (some ⟨rb, 32 * j, none⟩) (min 32 (n - 32 * j)) (min 32 (n - 32 * j))]
theorem Jp9 {rb n cap N : Nat} (hn : N = (n + 31) / 32) (hcap : n ≤ cap) (hlim : n ≤ 1000000) (p1 p2 : Nat) : jk Tryz.prog 175 [XO p1, XO p2] (chM rb n cap (p1, p2)) 0 (nxN (Jgj rb n) N) (yD N) := by
  refine QY Tryz.func175 rfl rfl fun q xids w2 XI XF hY => ?_; refine J8 ?_; refine JP 6 rfl ?_; refine J1 (σ := Nat) (fun i => i ≤ N) (fun i => [(0, .func (.yield q) #[] #[]), (1, XO p1), (2, XO p2), (4, .int .i64 ((32 * i : Nat) : Int))]) (fun _ => []) (fun i => XI i) (fun i => N - i) 0 (Nat.zero_le _) (lK rfl) (List.nil_sublist _) (fun _ _ h => h) ?_; intro i hi; refine Jo 4 rfl ?_; refine LR rfl (Jh rfl (Jy (k := 1) rfl) rfl rfl) ?_; refine LR rfl (JU rfl rfl) ?_; refine JI 3 rfl ?_; refine cD (fun g => ?_) fun g => ?_
  · refine JP 5 rfl ?_
    obtain ⟨M, hM⟩ : ∃ M, M = min 32 (n - 32 * i) := ⟨_, rfl⟩
    have hM1 : M ≤ 32 := by omega
    have hM2 : 0 < M := by omega
    refine JK 7 (by kernel_rfl) (by kernel_rfl) ?_; refine Jd rfl rfl rfl (Jh rfl (Jy (k := 0) rfl) rfl rfl) ?_; refine Jd rfl rfl rfl (Jh rfl (Jy (k := 1) rfl) rfl rfl) ?_; refine Jd rfl rfl rfl (Ji rfl) ?_; refine Jd rfl rfl rfl (JO (kl := some (32 * i)) (kh := none) (km := none) (sz := 1) (m := 32 * i) (q := n) (z := cap) rfl rfl rfl ⟨_, rfl⟩ trivial trivial rfl rfl rfl (by omega) hcap (Nat.le_refl _) (fun _ => rfl) rfl) ?_; refine Jd rfl rfl rfl (JU rfl rfl) ?_
    refine Jd rfl rfl rfl (Jnx (r := ((M : Nat) : Int)) rfl rfl (by rw [hM]; split <;> omega)) ?_; refine Jd rfl rfl rfl (J9 rfl) ?_; refine JW ?_; refine JC 5 rfl ?_; refine LR rfl (Jh rfl (Jy (k := 1) rfl) rfl rfl) ?_; refine JC 4 rfl ?_; refine J2 (show _ = Value.int .i64 ((32 * i + M : Nat) : Int) from by rw [wrap_i64 (by omega) (by omega)]; congr 1 <;> omega) ?_; refine JC 3 rfl ?_; refine J2 (show _ = Value.int .i64 ((32 * i + M : Nat) : Int) from by rw [wrap_i64 (by omega) (by omega)]; congr 1 <;> omega) ?_
    refine LR rfl (JO (kl := some (32 * i)) (kh := some (32 * i + M)) (km := some (32 * i + M)) (sz := 1) (m := 32 * i) (q := 32 * i + M) (z := 32 * i + M) (off' := 32 * i) rfl rfl rfl ⟨_, rfl⟩ ⟨_, rfl⟩ ⟨_, rfl⟩ rfl rfl rfl (by omega) (Nat.le_refl _) (by omega) (fun h => by cases h) (by rw [if_neg (by omega)]; omega)) ?_; refine J2 (show _ = Value.slice (some ⟨rb, 32 * i, none⟩) (min 32 (n - 32 * i)) (min 32 (n - 32 * i)) from by congr 1 <;> omega) ?_; refine Vy (XT := XI (i + 1)) (XF := XF) rfl rfl rfl rfl (hY i (Jgj rb n i) (i + 1) ⟨by omega, rfl, rfl⟩) ?_ ?_
    all_goals (
     refine Jx 2 rfl (Y7 1 rfl ?_); refine Jw rfl (fun g => ?_) (fun g => ?_)
     · try exact Bool.noConfusion g
       all_goals try simp only [ZZ] at g
       all_goals (
        refine Kn 5 rfl ?_; refine Jf rfl rfl .nil (fun w1 hs1 => ?_)
        obtain ⟨xs1, hx1⟩ := hs1.now
        exact ⟨⟨_, rfl⟩, hs1.keep, .inr ⟨_, hx1⟩⟩
        skip)
     · try exact Bool.noConfusion g
       all_goals try simp only [ZZ] at g
       all_goals (
        refine Jo 5 rfl ?_; refine LR rfl (Jh rfl (Jy (k := 0) rfl) rfl rfl) ?_
        refine Wo rfl ?_; refine J2 (show _ = Value.int .i64 ((32 * (i + 1) : Nat) : Int) from by rw [wrap_i64 (by omega) (by omega)]; congr 1 <;> omega) ?_; refine Jx 2 rfl ?_; refine Jz ?_; exact Jv (i + 1) (by omega) (by omega) (lK rfl) (List.nil_sublist _) (fun _ _ h => h)
        skip)
     skip)
  · refine Kn 4 rfl ?_; refine Kh rfl rfl .nil (fun w1 hs1 => ?_)
    obtain ⟨xs1, hx1⟩ := hs1.now
    exact ⟨⟨_, rfl⟩, hs1.keep, .inl ⟨i, _, (by show i = N; omega), hx1⟩⟩
theorem J06 {s : BS} (hl : s.length ≤ 1000000) : PureT (α := { row : QV // rowOk 1 (Jas s) (Wl (Y0 s)) row }) Tryz.prog 218 [J5 s].toArray (fun x => JE (Jas s) x.1) [] (fun x => JR 9 (Wl (Y0 s)) x.1) [] := by
 obtain ⟨N, hN⟩ : ∃ N, N = Jas s := ⟨_, rfl⟩
 have hN2 : N = (s.length + 31) / 32 := hN
 have hC : Y0 s = wF s N := by rw [hN]; rfl
 rw [hC, ← hN]; refine Jt Tryz.func218 rfl rfl fun w => ?_; refine J8 ?_; refine Jo 7 rfl ?_; refine LN rfl fun r1 => ?_; refine JC 6 rfl ?_; refine X7 rfl rfl rfl rfl rfl rfl fun rb kb => ?_; refine JJ rfl rfl rfl (enters_of Tryz.func108 (by kernel_rfl) rfl) (Jp8 rb s.length (s.length + kb)) fun pp => ?_
 obtain ⟨p1, p2⟩ := pp
 change HL _ _ _ [(p2, _), (p1, _), (rb, _), (r1, _)] _ _ _ _; refine JI 3 rfl ?_; refine Vt [3, 0, 1, 2] (L' := [_, _, _, _]) (by decide) rfl ?_
 refine VW (τ := Unit) (fun i (q : Nat × QV) => i ≤ N ∧ i = q.1 ∧ rowOk 1 q.1 (Wl (wF s q.1)) q.2) (fun q => (r1, .cells #[JE q.1 q.2] 184 (0, 0)) :: JR 9 (Wl (wF s q.1)) q.2) (fun _ _ => False) (fun _ => []) [(p2, _), (p1, _), (rb, _)] (0, none) rfl rfl (enters_of Tryz.func175 (by kernel_rfl) rfl) (Jp9 (rb := rb) (cap := s.length + kb) hN2 (by omega) hl p1 p2) (by rintro _ _ _ ⟨_, rfl, _⟩; rfl) rfl (fun q hq => .inl (by rcases List.mem_cons.1 hq with rfl | hq; exact List.mem_cons_self; rw [List.mem_singleton.1 hq]; exact List.mem_cons_of_mem _ List.mem_cons_self)) rfl ⟨Nat.zero_le _, rfl, rfl, rfl⟩ ?_ ?_ ?_
 rintro q Xr Xb w3 i _ _ ⟨i2, row⟩ ⟨hii, rfl, rfl⟩ ⟨him, he, hrow⟩ Kr hKr; refine yE ?_
 simp only at he
 obtain rfl := he
 simp only at hrow
 unfold Jgj
 refine Kn 3 rfl ?_; refine hKr _ _ ?_; refine J8 ?_; clear hKr; refine JP 1 rfl ?_
 have hfull := Jgg (s := Xu s i) (by rw [Y1]; omega)
 have hsn := Jlw s i
 obtain ⟨sv, hsv⟩ : ∃ x, x = yH (Xu s i) := ⟨_, rfl⟩
 rw [← hsv] at hfull hsn
 refine JL [] [(1, .pure), (3, .pure), (4, .grow (V2 (slV 1) (.cells #[J5 sv] 9 (0, 0))))] 5 [0, 1, 2, 3, 4] (by kernel_rfl) (by kernel_rfl) (by first | exact (fun _ h => absurd h List.not_mem_nil) | simp [SubS] | (intro p hp; simp [hp])) ?_; refine KB (k := 0) rfl rfl rfl rfl rfl (Jh (v := JE i row) rfl (kn 0 rfl) rfl rfl) ?_; refine Jn (k := 1) rfl rfl rfl rfl rfl (fun _ hS => (Ji rfl)) ?_; refine KB (k := 2) rfl rfl rfl rfl rfl (Jea (b := Xu s i) rfl (Jy (k := 2) rfl) (Y1 s i).symm (Jp7 s i _) rfl rfl rfl) ?_; refine Qq (k := 3) rfl rfl rfl rfl rfl Jo9 hfull ?_; refine Wm (k := 4) (n := 1) (sz := 1) (vs := [_]) (zs := [_]) (r := [J5 sv]) rfl rfl rfl rfl rfl rfl rfl rfl rfl rfl rfl (by show (madeCells #[_] _).toList = _; rw [QX]; exact rfl) rfl fun rv => ?_; refine Ko ?_; refine KL (L0 := [_, _]) (xs := Wl (wF s i)) (row := row) (n := i) (sz := 1) (b := 16) (news := [J5 sv]) (List.perm_append_comm (l₁ := [_, _])) rfl rfl rfl rfl (kn 0 rfl) rfl rfl rfl rfl rfl (by decide) rfl rfl rfl (by decide) hrow (by omega) (by omega) fun ra cap sp hra => ?_; refine KC (k := 2) (cs' := #[JE (i + 1) (some (ra, cap, sp))]) rfl rfl rfl rfl rfl rfl rfl rfl rfl rfl ?_; refine Jx 2 rfl ?_; refine KZ [2, 0] (L' := [_, _]) (by decide) rfl ?_; exact Kf (i + 1, some (ra, cap, sp)) ⟨by omega, rfl, by simp only; rw [hsn]; exact hra⟩ (by simp only; rw [hsn]; rfl)
 rintro D i ⟨i2, row⟩ hfi ⟨him, he, hrow⟩
 simp only at he hrow
 obtain rfl : N = i := Eq.symm hfi
 obtain rfl := he
 refine gqo 4 rfl ?_; refine LR rfl (Jh (v := JE N row) rfl (kn 1 rfl) rfl rfl) ?_; refine Jx 4 rfl ?_; refine Kq (k := 0) rfl rfl ?_; refine pT rfl rfl rfl fun w1 hs1 => ?_; exact ⟨⟨row, hrow⟩, rfl, hs1.weakL (.cons _ (.cons _ (List.sublist_append_left _ _)))⟩
 ·exact fun _ _ _ h => h.elim
theorem Jqa {n : Nat} (hn : n ≤ 4611686018427387904) : Pure Tryz.prog 220 [.int .i64 (n : Int)].toArray (.int .i64 (((n + 31) / 32 : Nat) : Int)) := by
 refine Jk Tryz.func220 rfl rfl fun w => ?_; refine J8 ?_; refine Jo 9 rfl ?_; refine J2 (show _ = Value.int .i64 ((n + 32 : Nat) : Int) from by rw [wrap_i64 (by omega) (by omega)]; congr 1 <;> omega) ?_
 refine Wo rfl ?_; refine J2 (show _ = Value.int .i64 ((n + 31 : Nat) : Int) from by rw [wrap_i64 (by omega) (by omega)]; congr 1 <;> omega) ?_; refine Wo rfl (J2 (show _ = Value.int .i64 (((n + 31) / 32 : Nat) : Int) from congrArg (Value.int .i64) (QK (by omega) (by decide) (by omega))) (Jx 4 rfl ?_)); refine pT rfl rfl rfl fun w1 hs1 => ?_; exact ⟨rfl, hs1.keep⟩
def Xv (x : Ty) : Bool := decide (x.k = 1) || decide (x.k = 2)
def WR (items : List Vl) (x : Ty) : BS := (items.map fun v => Vp v x).flatten
def WS (k n : Int) (ins : List Ty) (items : List Vl) (rs : List BS) : BS :=
 if k = 7 then Ve rs ins.length else if Xv (ins.getD 0 default) = true then Ve (Y0 (WR items (ins.getD 0 default))) ((n.toNat * (KV (ins.getD 0 default)).toNat + 31) / 32) else Ve rs n.toNat
mutual
def KS : Vl → Ty → BS
 | .mk a b c d bits _ items _ pick, t =>
  if t.k = 1 ∨ t.k = 2 then leW [a, b, c, d] 32 else if t.k = 4 then Yx (WS t.k t.n t.ins items (Ka items t.k pick t.ins 0)) items.length
  else if t.k = 5 then Ve (Y0 (WH bits)) ((t.n.toNat + 255) / 256) else if t.k = 6 then Yx (Ve (Y0 (WH bits)) ((t.n.toNat + 255) / 256)) bits.length
  else if t.k = 8 then Yx ((Ka items t.k pick t.ins 0).headD []) pick.toNat else WS t.k t.n t.ins items (Ka items t.k pick t.ins 0)
def Ka : List Vl → Int → Int → List Ty → Nat → List BS
 | [], _, _, _, _ => []
 | x :: xs, k, pick, ins, i => KS x (JT k pick ins i) :: Ka xs k pick ins (i + 1)
end
section
variable {a b c d : Nat} {bits : List Bool} {pb : Pl} {items : List Vl} {pi : Pl} {pick k n : Int} {p : Pl} {ins : List Ty}
theorem Xw : KS (.mk a b c d bits pb items pi pick) (.mk k n p ins) = if k = 1 ∨ k = 2 then leW [a, b, c, d] 32 else if k = 4 then Yx (WS k n ins items (Ka items k pick ins 0)) items.length
  else if k = 5 then Ve (Y0 (WH bits)) ((n.toNat + 255) / 256) else if k = 6 then Yx (Ve (Y0 (WH bits)) ((n.toNat + 255) / 256)) bits.length
  else if k = 8 then Yx ((Ka items k pick ins 0).headD []) pick.toNat else WS k n ins items (Ka items k pick ins 0) := by rw [KS]; rfl
end
theorem Wf : ∀ (l : List Vl) (k pick : Int) (ins : List Ty) (i : Nat), (Ka l k pick ins i).length = l.length
 | [], _, _, _, _ => by rw [Ka]; rfl
 | x :: xs, k, pick, ins, i => by rw [Ka, List.length_cons, Wf xs, List.length_cons]
theorem wG {k : Int} (h8 : k ≠ 8) (pick : Int) (ins : List Ty) : ∀ (l : List Vl) (i : Nat), Ka l k pick ins i = Ka l k 0 ins i
 | [], i => by rw [Ka, Ka]
 | x :: xs, i => by rw [Ka, Ka, wG h8 pick ins xs (i + 1), vy h8]
theorem Yf : ∀ {l : List Vl} {k pick : Int} {ins : List Ty} {i : Nat} {s : BS}, s ∈ Ka l k pick ins i → ∃ j x, l[j]? = some x ∧ s = KS x (JT k pick ins (i + j))
 | [], _, _, _, _, _, h => by rw [Ka] at h; cases h
 | y :: ys, k, pick, ins, i, s, h => by
  rw [Ka] at h
  rcases List.mem_cons.1 h with rfl | h
  ·exact ⟨0, y, rfl, rfl⟩
  ·obtain ⟨j, x, h1, h2⟩ := Yf h
   exact ⟨j + 1, x, h1, by rw [h2, show i + 1 + j = i + (j + 1) by omega]⟩
theorem wH (k : Int) (ins : List Ty) : ∀ {l : List Vl} {i j : Nat} {x : Vl}, l[j]? = some x → (Ka l k 0 ins i).take (j + 1) = (Ka l k 0 ins i).take j ++ [KS x (JT k 0 ins (i + j))]
 | [], _, _, _, h => by simp at h
 | y :: ys, i, 0, x, h => by
  simp at h; subst h; rw [Ka]; rfl
 | y :: ys, i, j + 1, x, h => by
  rw [List.getElem?_cons_succ] at h; rw [Ka, List.take_succ_cons, List.take_succ_cons, wH k ins h, show i + 1 + j = i + (j + 1) by omega]; rfl
theorem Jve {k n : Int} {p : Pl} {ins : List Ty} {d : Int} (hk : 1 ≤ k ∧ k ≤ 8) (ho : Qc k n ins.length = true) : chk (.mk k n p ins) d = if 6 ≤ d then 7 else XJ ins (d + 1) := by
 rw [chk, if_neg (by omega), if_neg (by rw [ho]; simp)]
theorem zE : ∀ {ins : List Ty} {d : Int}, (∀ x ∈ ins, chk x d = 0) → XJ ins d = 0
 | [], _, _ => by rw [XJ]
 | x :: xs, d, h => by
  rw [XJ, if_pos (h x List.mem_cons_self)]; exact zE fun y hy => h y (List.mem_cons_of_mem _ hy)
theorem Jlx (t : Ty) : ∀ d : Int, chk t (d + 1) = 0 → chk t d = 0 := by
 induction t using Ty.ind with
 | h k n p ins ih =>
  intro d h
  obtain ⟨hk, ho, h6, hi⟩ := Va h
  rw [Jve hk ho, if_neg (by omega)]; exact zE fun x hx => ih x hx (d + 1) (hi x hx)
theorem Jat {t : Ty} : ∀ {d : Nat}, chk t (d : Int) = 0 → chk t 0 = 0
 | 0, h => h
 | d + 1, h => Jat (d := d) (Jlx t d (by rw [Int.natCast_add] at h; exact h))
theorem Zt {k n : Int} {p : Pl} {ins : List Ty} (h : chk (.mk k n p ins) 0 = 0) : ∀ x ∈ ins, chk x 0 = 0 := fun x hx => Jat (d := 1) ((Va h).2.2.2 x hx)
theorem Zu {x : Ty} (hc : chk x 0 = 0) (hp : Xv x = true) : V1 x = true ∧ 1 ≤ KV x ∧ KV x ≤ 32 ∧ ∀ v : Vl, KO v x = 0 → ((Vp v x).length : Int) = KV x := by
 obtain ⟨k, n, p, ins⟩ := x
 obtain ⟨hk, hf, _, _⟩ := Va hc
 have hk2 : k = 1 ∨ k = 2 := by
  unfold Xv at hp
  rw [Bool.or_eq_true] at hp; exact hp.imp of_decide_eq_true of_decide_eq_true
 unfold Qc at hf
 have hins : ins.length = 0 := by
  rcases hk2 with rfl | rfl
  all_goals generalize ins.length = m at hf ⊢
  all_goals simp at hf
  all_goals omega
 have hi : ins = [] := List.length_eq_zero_iff.1 hins
 subst hi
 rcases hk2 with rfl | rfl
 ·have hn : 1 ≤ n ∧ n ≤ 32 := by simp at hf; omega
  refine ⟨Yc.2 ⟨hc, by rw [Xk, qd]; rfl⟩, by rw [KV, if_pos rfl]; exact hn.1, by rw [KV, if_pos rfl]; exact hn.2, fun v _ => ?_⟩
  obtain ⟨a, b, c, d, bits, pb, items, pi, pick⟩ := v
  rw [Wn, if_pos rfl, KV, if_pos rfl, xN _ (by omega)]; omega
 ·refine ⟨Yc.2 ⟨hc, by rw [Xk, qd]; rfl⟩, by rw [KV, if_neg (by decide), if_pos rfl]; decide, by rw [KV, if_neg (by decide), if_pos rfl]; decide, fun v _ => ?_⟩
  obtain ⟨a, b, c, d, bits, pb, items, pi, pick⟩ := v
  rw [Wn, if_neg (by decide), if_pos rfl, KV, if_neg (by decide), if_pos rfl, xN _ (by decide)]
  rfl
theorem jL {x : Ty} {z : Nat} : ∀ {items : List Vl}, (∀ v ∈ items, (Vp v x).length = z) → (WR items x).length = items.length * z
 | [], _ => by unfold WR; simp
 | v :: l, h => by
  have ih := jL (items := l) fun y hy => h y (List.mem_cons_of_mem _ hy)
  unfold WR at ih ⊢
  rw [List.map_cons, List.flatten_cons, List.length_append, ih, h v List.mem_cons_self, List.length_cons, Nat.succ_mul, Nat.add_comm]
theorem wI {a b c d : Nat} {bits : List Bool} {pb : Pl} {items : List Vl} {pi : Pl} {pick k n dp : Int} {p : Pl} {ins : List Ty} (hc : chk (.mk k n p ins) dp = 0) (h : KO (.mk a b c d bits pb items pi pick) (.mk k n p ins) = 0) :
  (k = 3 ∨ k = 4 → 1 ≤ n ∧ n ≤ 512 ∧ (items.length : Int) ≤ n ∧ ins.length = 1) ∧ (k = 5 ∨ k = 6 → 1 ≤ n ∧ n ≤ 512 ∧ (bits.length : Int) ≤ n) ∧ (k = 7 → items.length = ins.length ∧ 1 ≤ ins.length ∧ ins.length ≤ 16) := by
 obtain ⟨h1, h2, _⟩ := Xa h
 obtain ⟨hk, hf, _, _⟩ := Va hc
 rw [Vv k n ins.length a b c d bits pb items pi pick _ rfl] at h2; simp only [Vf] at h2
 unfold Qc at hf
 have h9 : k = 1 ∨ k = 2 ∨ k = 3 ∨ k = 4 ∨ k = 5 ∨ k = 6 ∨ k = 7 ∨ k = 8 := by omega
 rcases h9 with rfl | rfl | rfl | rfl | rfl | rfl | rfl | rfl
 all_goals generalize items.length = I at *
 all_goals generalize bits.length = J at *
 all_goals generalize ins.length = K at *
 all_goals simp at h1 h2 hf ⊢
 all_goals omega
theorem qo {bits : List Bool} {n : Int} (h : (bits.length : Int) ≤ n) : (Y0 (WH bits)).length ≤ (n.toNat + 255) / 256 := by
 rw [YY]
 unfold Jas
 rw [Zh]; omega
theorem Xc (v : Vl) : ∀ (t : Ty) (dp : Nat), chk t (dp : Int) = 0 → KO v t = 0 → (KS v t).length = 32 := by
 induction v using Vl.ind with
 | h a b c d bits pb items pi pick ih =>
 intro t dp hck hfit
 obtain ⟨k, n, p, ins⟩ := t
 obtain ⟨hk8, ho, h6, hci⟩ := Va hck
 obtain ⟨hf1, hf2, hf3⟩ := Xa hfit
 obtain ⟨q1, q2, q3⟩ := wI hck hfit
 have hxl : ∀ i, i < items.length → X9 k pick i < ins.length := fun i hi => qm (v := .mk a b c d bits pb items pi pick) hck hf2 hi
 have hrs : ∀ s ∈ Ka items k pick ins 0, s.length = 32 := fun s hs => by
  obtain ⟨j, x, h1, rfl⟩ := Yf hs
  have hlt := (List.getElem?_eq_some_iff.1 h1).1
  rw [Nat.zero_add]
  have hty := QR (hxl j hlt)
  exact ih x (List.mem_of_getElem? h1) _ (dp + 1) (hci _ hty.2) (by have := Xt hf3 h1; rwa [Nat.zero_add] at this)
 have hrl := Wf items k pick ins 0
 have hrow : k = 3 ∨ k = 4 ∨ k = 7 → (WS k n ins items (Ka items k pick ins 0)).length = 32 := fun hk => by
  unfold WS
  split
  ·rename_i h7
   exact VH (by have := q3 h7; omega) hrs
  ·rename_i h7
   have := q1 (by omega)
   split
   ·rename_i hp
    have hin0 : ins.getD 0 default ∈ ins := by
     match ins, this.2.2.2 with
     | [x], _ => exact List.mem_cons_self
    have hc0 : chk (ins.getD 0 default) 0 = 0 := Zt (Jat hck) _ hin0
    obtain ⟨f1, f2, f3, f4⟩ := Zu hc0 hp
    refine VH ?_ (Zs _); rw [YY]
    unfold Jas
    have hz : ∀ v ∈ items, (Vp v (ins.getD 0 default)).length = (KV (ins.getD 0 default)).toNat := fun v hv => by
     obtain ⟨j, hj⟩ := List.getElem?_of_mem hv
     have hg := Xt hf3 hj
     rw [Nat.zero_add] at hg
     have he : JT k pick ins j = ins.getD 0 default := by unfold JT X9; rw [if_neg h7, if_neg (by omega)]
     rw [he] at hg
     have := f4 v hg
     omega
    rw [jL hz]
    have hm : items.length * (KV (ins.getD 0 default)).toNat ≤ n.toNat * (KV (ins.getD 0 default)).toNat := Nat.mul_le_mul_right _ (by omega)
    omega
   ·exact VH (by omega) hrs
 rw [Xw]
 split
 ·exact xN _ (Nat.le_refl _)
 ·split
  ·exact Zi _
  ·split
   ·rename_i h5
    exact VH (qo (q2 (by omega)).2.2) (Zs _)
   ·split
    ·exact Zi _
    ·split
     ·exact Zi _
     ·exact hrow (by omega)
def yM (s : List UInt8) (head : Nat) : List Ty → Nat → Nat → Bool → Option (List Nat)
  | [], _, _, op => if op = false ∧ head ≠ s.length then none else some [s.length]
  | x :: xs, at_, last, op => if V1 x then yM s head xs (at_ + (KV x).toNat) last op else
      if (op = false ∧ leV ((s.drop at_).take 4) ≠ head) ∨ leV ((s.drop at_).take 4) < last ∨ s.length < leV ((s.drop at_).take 4) then none
      else (yM s head xs (at_ + 4) (leV ((s.drop at_).take 4)) true).map fun r => leV ((s.drop at_).take 4) :: r
mutual
def ZD : Vl → Vl
 | .mk a b c d bits _ items _ pick => .mk a b c d bits none (vz items) none pick
def vz : List Vl → List Vl
 | [] => []
 | x :: xs => ZD x :: vz xs
end
theorem WT : ∀ l : List Vl, vz l = l.map ZD
 | [] => by rw [vz]; rfl
 | x :: xs => by rw [vz, WT xs]; rfl
def v0L : Vl := .mk 0 0 0 0 [] none [] none 0
def KY (l : List Vl) (pick : Int) : Vl := .mk 0 0 0 0 [] none l none pick
def wJ (k n : Int) (ins : List Ty) (s : List UInt8) : Nat × Int :=
 if k = 7 then (ins.length, 0) else if k = 3 then (n.toNat, 0) else if s = [] then (0, 0)
 else if V1 (JT k 0 ins 0) then (if s.length % (KV (JT k 0 ins 0)).toNat ≠ 0 then (0, 2) else if n < ((s.length / (KV (JT k 0 ins 0)).toNat : Nat) : Int) then (0, 5) else (s.length / (KV (JT k 0 ins 0)).toNat, 0))
 else if s.length < 4 ∨ leV (s.take 4) % 4 ≠ 0 ∨ leV (s.take 4) = 0 then (0, 2) else if n < ((leV (s.take 4) / 4 : Nat) : Int) then (0, 5) else (leV (s.take 4) / 4, 0)
abbrev Gf : Type := List UInt8 → Vl × Int
def g0 : Gf := fun _ => (v0L, 0)
section
variable {a b c d : Nat} {bits : List Bool} {pb : Pl} {items : List Vl} {pi : Pl} {pick k n : Int} {p : Pl} {ins : List Ty}
theorem Ji8 (hc : chk (.mk k n p ins) 0 = 0) (h : KO (.mk a b c d bits pb items pi pick) (.mk k n p ins) = 0) (h8 : k ≠ 8) {j : Nat} {x : Vl} (hx : items[j]? = some x) : ins[X9 k 0 j]? = some (JT k 0 ins j) ∧ JT k 0 ins j ∈ ins ∧ chk (JT k 0 ins j) 0 = 0 ∧ KO x (JT k 0 ins j) = 0 := by
 obtain ⟨_, h2, h3⟩ := Xa h
 have hlt := (List.getElem?_eq_some_iff.1 hx).1
 have hin := qm (v := .mk a b c d bits pb items pi pick) hc h2 hlt
 have hg := Xt h3 hx
 rw [Nat.zero_add, vy h8] at hg
 have e : X9 k (Vl.pick (.mk a b c d bits pb items pi pick)) j = X9 k 0 j := by unfold X9; rw [if_neg h8, if_neg h8]
 rw [e] at hin
 have hty := QR hin
 exact ⟨hty.1, hty.2, Zt hc _ hty.2, hg⟩
end
theorem WF (a b c d : Nat) (bits : List Bool) (pb : Pl) (items : List Vl) (pi : Pl) (pick : Int) : ZD (.mk a b c d bits pb items pi pick) = .mk a b c d bits none (vz items) none pick := by rw [ZD]
theorem Ji9 (k pick : Int) (ins : List Ty) : ∀ (l : List Vl), (∀ x ∈ l, ∀ t, Vp (ZD x) t = Vp x t) → ∀ i : Nat, Qj (vz l) k pick ins i = Qj l k pick ins i
 | [], _, i => by rw [vz]
 | x :: xs, h, i => by rw [vz, Qj, Qj, h x List.mem_cons_self, Ji9 k pick ins xs (fun y hy => h y (List.mem_cons_of_mem _ hy))]
theorem Jyx (v : Vl) : ∀ t, Vp (ZD v) t = Vp v t := by
 induction v using Vl.ind with
 | h a b c d bits pb items pi pick ih =>
 intro t
 obtain ⟨k, n, p, ins⟩ := t
 rw [WF, Wn, Wn, Ji9 k pick ins items ih]
theorem Jeb (k pick : Int) (ins : List Ty) : ∀ (l : List Vl), (∀ x ∈ l, ∀ t, KS (ZD x) t = KS x t) → ∀ i : Nat, Ka (vz l) k pick ins i = Ka l k pick ins i
 | [], _, i => by rw [vz]
 | x :: xs, h, i => by rw [vz, Ka, Ka, h x List.mem_cons_self, Jeb k pick ins xs (fun y hy => h y (List.mem_cons_of_mem _ hy))]
theorem Jvf (x : Ty) (l : List Vl) : WR (vz l) x = WR l x := by
 unfold WR
 rw [WT, List.map_map]
 congr 1
 exact List.map_congr_left fun v _ => Jyx v x
theorem Jvg (v : Vl) : ∀ t, KS (ZD v) t = KS v t := by
 induction v using Vl.ind with
 | h a b c d bits pb items pi pick ih =>
 intro t
 obtain ⟨k, n, p, ins⟩ := t
 have hl : (vz items).length = items.length := by rw [WT, List.length_map]
 rw [WF, Xw, Xw, Jeb k pick ins items ih, hl]
 unfold WS
 rw [Jvf]
theorem chkL_mem : ∀ {ins : List Ty} {d : Int}, XJ ins d = 0 → ∀ x ∈ ins, chk x d = 0
 | [], _, _, x, hx => by cases hx
 | y :: ys, d, h, x, hx => by
  rw [XJ] at h
  by_cases h1 : chk y d = 0
  ·rw [if_pos h1] at h
   rcases List.mem_cons.1 hx with rfl | hx
   ·exact h1
   ·exact chkL_mem h x hx
  ·rw [if_neg h1] at h; exact absurd h h1
structure VR (v : Vl) : Type where
  x : Vl
  L : Jm
  ok : x.In L
  er : ZD x = v
theorem u0 : VK 0 := by unfold VK; omega
theorem i0 : q9 0 := by unfold q9; omega
def wK : List Ty → Nat → List Nat → List (Ty × Nat × Nat)
 | [], _, _ => []
 | x :: xs, a, os => if V1 x then (x, a, a + (KV x).toNat) :: wK xs (a + (KV x).toNat) os else (x, os.getD 0 0, os.getD 1 0) :: wK xs (a + 4) os.tail
theorem zF : ∀ (ts : List Ty) (a : Nat) (os : List Nat), (wK ts a os).length = ts.length
 | [], _, _ => rfl
 | x :: xs, a, os => by rw [wK]; split <;> rw [List.length_cons, zF xs, List.length_cons]
def cV : List Ty → Nat
 | [] => 0
 | x :: xs => if V1 x then cV xs else cV xs + 1
def Jqb : List Ty → Int
 | [] => -1
 | x :: xs => if 0 ≤ Jqb xs then Jqb xs + 1 else if V1 x then -1 else 0
def Jyy (k n : Int) (ins : List Ty) (s : BS) : List Nat × Int :=
 if (wJ k n ins s).2 ≠ 0 then ([], (wJ k n ins s).2)
 else if (s.length : Int) < Vg (Xs k ins (wJ k n ins s).1) then ([], 2)
 else match yM s (Vg (Xs k ins (wJ k n ins s).1)).toNat (Xs k ins (wJ k n ins s).1) 0 (Vg (Xs k ins (wJ k n ins s).1)).toNat false with
  | none => ([], 2)
  | some os => (os, 0)
theorem row_some {sz n : Nat} {xs : List Value} {row : QV} (h : rowOk sz n xs row) (h0 : 0 < n) : ∃ r cap sp, row = some (r, cap, sp) := by
 cases row with
 | none => have := h.1; omega
 | some q => obtain ⟨r, cap, sp⟩ := q; exact ⟨r, cap, sp, rfl⟩
def psI (s : BS) (TY : List Ty) (i : Nat) (pre : List Nat) : List (Ty × Nat × Nat) := wK (TY.take i) 0 (pre ++ [s.length])
structure PInv (s : BS) (H : Nat) (TY : List Ty) (i A la : Nat) (op : Int) (pre : List Nat) : Prop where
  le : i ≤ TY.length
  cv : pre.length = cV (TY.take i)
  opv : op = Jqb (TY.take i)
  at_ : (A : Int) = Vg (TY.take i)
  off : yM s H TY 0 H false = (yM s H (TY.drop i) A la (decide (0 ≤ op))).map (pre ++ ·)
section
variable {s : BS} {H : Nat} {TY : List Ty} {i A la : Nat} {op : Int} {pre : List Nat} {x : Ty}
theorem PInv.start : PInv s H TY 0 0 H (-1) [] := ⟨Nat.zero_le _, rfl, rfl, rfl, by rw [List.drop_zero, show decide ((0 : Int) ≤ -1) = false from rfl]; cases yM s H TY 0 H false <;> rfl⟩
theorem ZP {α : Type} {l : List α} {i : Nat} {x : α} (h : l[i]? = some x) : l.take (i + 1) = l.take i ++ [x] := by rw [List.take_add_one, h]; rfl
theorem Jgk {α : Type} {l : List α} {i : Nat} {x : α} (h : l[i]? = some x) : l.drop i = x :: l.drop (i + 1) := by
 obtain ⟨h1, rfl⟩ := List.getElem?_eq_some_iff.1 h
 exact List.drop_eq_getElem_cons h1
theorem PInv.len (h : PInv s H TY i A la op pre) : (psI s TY i pre).length = i := by unfold psI; rw [zF, List.length_take, Nat.min_eq_left h.le]
theorem PInv.bad (h : PInv s H TY i A la op pre) (hx : TY[i]? = some x) (hf : V1 x = false) {v : Nat} (hv : v = leV ((s.drop A).take 4)) (hb : (¬ 0 ≤ op ∧ v ≠ H) ∨ v < la ∨ s.length < v) : yM s H TY 0 H false = none := by
 subst hv
 rw [h.off, Jgk hx, yM, if_neg (by rw [hf]; decide), if_pos (by
  rcases hb with ⟨h1, h2⟩ | h1
  ·exact .inl ⟨by simp [h1], h2⟩
  ·exact .inr h1)]
 rfl
theorem PInv.done (h : PInv s H TY TY.length A la op pre) : psI s TY TY.length pre = wK TY 0 (pre ++ [s.length]) ∧ yM s H TY 0 H false = if ¬ 0 ≤ op ∧ H ≠ s.length then none else some (pre ++ [s.length]) := by
 refine ⟨by unfold psI; rw [List.take_length], ?_⟩; rw [h.off, List.drop_length, yM]
 by_cases hc : ¬ 0 ≤ op ∧ H ≠ s.length
 ·rw [if_pos hc, if_pos ⟨by simp [hc.1], hc.2⟩]; rfl
 ·rw [if_neg hc, if_neg (by rintro ⟨g1, g2⟩; exact hc ⟨by simpa using g1, g2⟩)]; rfl
end
abbrev psT (k n : Int) (ins : List Ty) (s : BS) : List (Ty × Nat × Nat) := wK (Xs k ins (wJ k n ins s).1) 0 (Jyy k n ins s).1
open Go.Proofs (Enters enters_of)
section
variable {k n : Int} {p : Pl} {ins : List Ty} {s : BS}
variable (hnf : ¬ (V1 (.mk k n p ins) = true ∧ (s.length : Int) ≠ KV (.mk k n p ins)))
include hnf
end
theorem Jec {vs : List Vl} {E Lr : Jm} {p : Pl} {pick : Int} (hl : vs.length ≤ 9223372036854775807) (hs : Seg Lr vs.length (Q7 vs) p) (hE : ∀ x ∈ vs, x.In E) (hp : q9 pick) : Vl.In (Lr ++ E) (.mk 0 0 0 0 [] none vs p pick) :=
 .mk u0 u0 u0 u0 (by decide) rfl hl (hs.mono fun q hq => List.mem_append_left _ hq) hp fun x hx => (hE x hx).mono fun q hq => List.mem_append_right _ hq
theorem Jed {c : Cx} {d : List Deferred} {l : Kv} {L L' : Jm} {X : XP} {K : Act → World → Prop} (hp : L.Perm L') (h : HQ c d l L' X K) : HQ c d l L X K := fun a w hf hs => h a w hf (hs.perm hp)
mutual
def Y2 : Ty → Ty
 | .mk k n _ ins => .mk k n none (WU ins)
def WU : List Ty → List Ty
 | [] => []
 | x :: xs => Y2 x :: WU xs
end
theorem wM : ∀ l : List Ty, WU l = l.map Y2
 | [] => by rw [WU]; rfl
 | x :: xs => by rw [WU, wM xs]; rfl
theorem wO (l : List Ty) : (WU l).length = l.length := by rw [wM, List.length_map]
structure TR (t : Ty) : Type where
  x : Ty
  L : Jm
  ok : x.In L
  er : Y2 x = t
def byT : Ty := .mk 1 1 none []
def X0 (k n : Int) : Ty := .mk k n none [byT]
def Jau : Ty := .mk 7 0 none [X0 3 32, X0 3 32]
def acT : Ty := .mk 7 0 none [X0 3 20, .mk 1 8 none [], .mk 1 32 none [], X0 4 512, .mk 4 16 none [Jau]]
def qp : Ty := .mk 4 32 none [acT]
theorem Jqc {k n : Int} (hk : q9 k) (hn : q9 n) : PureT (α := Nat) Tryz.prog 101 [.int .i64 k, .int .i64 n].toArray (fun r => .agg #[.int .i64 k, .int .i64 n, .slice (some ⟨r, 0, none⟩) 1 1]) [] (fun r => [(r, .cells #[.int .i64 1, .int .i64 1, .slice none 0 0] 84 (0, 0))]) [] := by
 refine Jt Tryz.func101 rfl rfl fun w => ?_; refine J8 ?_; refine Jo 2 rfl ?_; refine LN rfl fun r1 => ?_; refine JC 6 rfl ?_; refine LR rfl (Js (r := [_, _, _]) rfl rfl) ?_; refine JN (vs := [_]) (zs := [_, _, _]) (r := [_, _, _]) rfl rfl rfl rfl rfl rfl rfl rfl rfl (by rw [Ky]; exact rfl) rfl fun r2 => ?_; refine LR rfl (Js (r := [_, _, _]) rfl rfl) ?_
 refine LT 1 rfl rfl ?_; refine Jx 3 rfl ?_; refine Jf rfl rfl (.cons (Jq (vs := [_, _, _]) rfl (kn 1 rfl) rfl rfl) .nil) (fun w1 hs1 => ?_); exact ⟨r2, rfl, hs1.weakL ((List.cons_sublist_cons).2 (List.nil_sublist _))⟩
abbrev Jly (e : Nat) : Obj := .cells #[.int .i64 1, .int .i64 1, .slice none 0 0] e (0, 0)
def Jlz (k n : Int) (x : Nat) : Ty := .mk k n (some (⟨x, 0, none⟩, 1)) [byT]
def J07 (x y r : Nat) : Ty := .mk 7 0 (some (⟨r, 0, none⟩, 2)) [Jlz 3 32 x, Jlz 3 32 y]
def acX (x y x2 x3 r s a : Nat) : Ty := .mk 7 0 (some (⟨a, 0, none⟩, 5)) [Jlz 3 20 x2, .mk 1 8 none [], .mk 1 32 none [], Jlz 4 512 x3, .mk 4 16 (some (⟨s, 0, none⟩, 1)) [J07 x y r]]
def Jqd (x y x2 x3 r s a z : Nat) : Ty := .mk 4 32 (some (⟨z, 0, none⟩, 1)) [acX x y x2 x3 r s a]
theorem Jee {R : Jm} {k n : Int} {ins : List Ty} {r m e : Nat} {all : Array Value} (hk : q9 k) (hn : q9 n) (hm : (r, Obj.cells all e (0, 0)) ∈ R) (ha : all.toList = Jco ins) (hl : ins.length = m) (hl2 : m ≤ 100) (hi : ∀ x ∈ ins, x.In R) : Ty.In R (.mk k n (some (⟨r, 0, none⟩, m)) ins) :=
 .mk hk hn (by omega) ⟨Nat.le_of_eq hl, fun _ => ⟨rfl, all, e, (0, 0), hm, by rw [List.drop_zero, ha, List.take_length]⟩⟩ hi
theorem Jav {R : Jm} {k n : Int} (hk : q9 k) (hn : q9 n) : Ty.In R (.mk k n none []) := .mk hk hn (by decide) rfl (fun x hx => nomatch hx)
theorem vB {R : Jm} {k n : Int} {x e : Nat} (hk : q9 k) (hn : q9 n) (h : (x, Jly e) ∈ R) : (Jlz k n x).In R :=
 Jee hk hn h rfl rfl (by decide) fun y hy => by rw [List.mem_singleton.1 hy]; exact Jav (by unfold q9; omega) (by unfold q9; omega)
theorem Yg {n : Int} (h0 : 0 ≤ n) (h : n ≤ 1000) : q9 n := by unfold q9; omega
theorem Jja {R : Jm} {x y x2 x3 r s a z e : Nat} (h1 : (x, Jly e) ∈ R) (h2 : (y, Jly e) ∈ R) (h3 : (x2, Jly e) ∈ R) (h4 : (x3, Jly e) ∈ R) (h5 : (r, Obj.cells #[.int .i64 3, .int .i64 32, .slice (some ⟨x, 0, none⟩) 1 1, .int .i64 3, .int .i64 32, .slice (some ⟨y, 0, none⟩) 1 1] e (0, 0)) ∈ R)
  (h6 : (s, Obj.cells #[.int .i64 7, .int .i64 0, .slice (some ⟨r, 0, none⟩) 2 2] e (0, 0)) ∈ R)
  (h7 : (a, Obj.cells #[.int .i64 3, .int .i64 20, .slice (some ⟨x2, 0, none⟩) 1 1, .int .i64 1, .int .i64 8, .slice none 0 0, .int .i64 1, .int .i64 32, .slice none 0 0, .int .i64 4, .int .i64 512, .slice (some ⟨x3, 0, none⟩) 1 1, .int .i64 4, .int .i64 16, .slice (some ⟨s, 0, none⟩) 1 1] e (0, 0)) ∈ R)
  (h8 : (z, Obj.cells #[.int .i64 7, .int .i64 0, .slice (some ⟨a, 0, none⟩) 5 5] e (0, 0)) ∈ R) : (Jqd x y x2 x3 r s a z).In R := by
 refine Jee (Yg (by decide) (by decide)) (Yg (by decide) (by decide)) h8 rfl rfl (by decide) fun q hq => ?_; rw [List.mem_singleton.1 hq]; refine Jee (Yg (by decide) (by decide)) (Yg (by decide) (by decide)) h7 rfl rfl (by decide) fun q hq => ?_; simp only [List.mem_cons, List.not_mem_nil, or_false] at hq
 rcases hq with rfl | rfl | rfl | rfl | rfl
 ·exact vB (Yg (by decide) (by decide)) (Yg (by decide) (by decide)) h3
 ·exact Jav (Yg (by decide) (by decide)) (Yg (by decide) (by decide))
 ·exact Jav (Yg (by decide) (by decide)) (Yg (by decide) (by decide))
 ·exact vB (Yg (by decide) (by decide)) (Yg (by decide) (by decide)) h4
 ·refine Jee (Yg (by decide) (by decide)) (Yg (by decide) (by decide)) h6 rfl rfl (by decide) fun q hq => ?_
  rw [List.mem_singleton.1 hq]; refine Jee (Yg (by decide) (by decide)) (Yg (by decide) (by decide)) h5 rfl rfl (by decide) fun q hq => ?_; simp only [List.mem_cons, List.not_mem_nil, or_false] at hq
  rcases hq with rfl | rfl
  ·exact vB (Yg (by decide) (by decide)) (Yg (by decide) (by decide)) h1
  ·exact vB (Yg (by decide) (by decide)) (Yg (by decide) (by decide)) h2
theorem Jjb (x y x2 x3 r s a z : Nat) : Y2 (Jqd x y x2 x3 r s a z) = qp := by
 simp only [Jqd, acX, J07, Jlz, byT, Y2, WU, qp, acT, Jau, X0]
theorem Jvh : PureT (α := TR qp) Tryz.prog 46 #[] (fun y => y.x.val) [] (fun y => y.L) [] := by
 refine Jt Tryz.func46 rfl rfl fun w => ?_; refine J8 ?_; refine Jo 2 rfl ?_; refine LN rfl fun r1 => ?_; refine JC 4 rfl ?_; refine Ke rfl rfl rfl Jo1 (Jqc (by unfold q9; omega) (by unfold q9; omega)) oN fun x1 => ?_; refine LN rfl fun r2 => ?_
 refine LT 0 rfl rfl ?_; refine Xj 6 [0, 0] rfl rfl ?_; refine JN (vs := [_, _]) (zs := [_, _, _, _, _, _]) (r := [_, _, _, _, _, _]) rfl rfl rfl rfl rfl rfl rfl rfl rfl (by rw [Ky]; exact rfl) rfl fun r3 => ?_; refine LR rfl (Js (r := [_, _, _]) rfl rfl) ?_; refine LN rfl fun r4 => ?_
 refine LT 0 rfl rfl ?_; refine JI 3 rfl ?_
 refine JL [(r4, .cells #[.int .i64 7, .int .i64 0, .slice (some ⟨r3, 0, none⟩) 2 2] 84 (0, 0))] [(0, .grow (Qf 0 (fun r => .agg #[.int .i64 3, .int .i64 20, .slice (some ⟨r, 0, none⟩) 1 1]) (fun r => [(r, .cells #[.int .i64 1, .int .i64 1, .slice none 0 0] 84 (0, 0))]))), (1, .pure), (2, .pure), (3, .grow (Qf 0 (fun r => .agg #[.int .i64 4, .int .i64 512, .slice (some ⟨r, 0, none⟩) 1 1]) (fun r => [(r, .cells #[.int .i64 1, .int .i64 1, .slice none 0 0] 84 (0, 0))]))), (4, .pure), (5, .grow (V2 (slV 1) (.cells #[.int .i64 7, .int .i64 0, .slice (some ⟨r3, 0, none⟩) 2 2] 84 (0, 0)))), (6, .pure), (7, .dep [9, 10, 11, 12, 15] (Jcr 5 84)), (8, .pure), (9, .grow (V2 qU (.cells #[.int .i64 0, .int .i64 0, .slice none 0 0] 84 (0, 0))))] 10 [1, 2, 4, 5, 6, 0, 3, 7, 8, 9] (by kernel_rfl) (by kernel_rfl) (by first | exact (fun _ h => absurd h List.not_mem_nil) | simp [SubS] | (intro p hp; simp [hp])) ?_; refine Jn (k := 1) rfl rfl rfl rfl rfl (fun _ hS => (Js (r := [_, _, _]) rfl rfl)) ?_; refine Jn (k := 2) rfl rfl rfl rfl rfl (fun _ hS => (Js (r := [_, _, _]) rfl rfl)) ?_; refine Jn (k := 4) rfl rfl rfl rfl rfl (fun _ hS => (Jp (vs := [_, _, _]) rfl (.inl (hS _ (Jr (n := 0) rfl))) rfl rfl rfl rfl)) ?_; refine Wm (k := 5) (n := 1) (sz := 3) (vs := [_]) (zs := [_, _, _]) (r := [.int .i64 7, .int .i64 0, .slice (some ⟨r3, 0, none⟩) 2 2]) rfl rfl rfl rfl rfl rfl rfl rfl rfl rfl rfl (by rw [Ky]; exact rfl) rfl fun s1 => ?_; refine Jn (k := 6) rfl rfl rfl rfl rfl (fun _ hS => (Js (r := [_, _, _]) rfl rfl)) ?_; refine KT (k := 0) rfl rfl rfl rfl rfl Jo1 (Jqc (by unfold q9; omega) (by unfold q9; omega)) oN fun x2 => ?_; refine KT (k := 3) rfl rfl rfl rfl rfl Jo1 (Jqc (by unfold q9; omega) (by unfold q9; omega)) oN fun x3 => ?_; refine Vb (k := 7) (dv := [_, _, _, _, _]) (n := 5) (sz := 3) (vs := [_, _, _, _, _]) (zs := [_, _, _, _, _, _, _, _, _, _, _, _, _, _, _]) (r := [.int .i64 3, .int .i64 20, .slice (some ⟨x2, 0, none⟩) 1 1, .int .i64 1, .int .i64 8, .slice none 0 0, .int .i64 1, .int .i64 32, .slice none 0 0, .int .i64 4, .int .i64 512, .slice (some ⟨x3, 0, none⟩) 1 1, .int .i64 4, .int .i64 16, .slice (some ⟨s1, 0, none⟩) 1 1]) rfl rfl rfl rfl rfl rfl rfl rfl rfl rfl rfl rfl rfl (by rw [Ky]; exact rfl) rfl fun s2 => ?_; refine Jn (k := 8) rfl rfl rfl rfl rfl (fun _ hS => (Js (r := [_, _, _]) rfl rfl)) ?_; refine VL (k := 9) (cs := #[_, _, _]) rfl rfl rfl rfl rfl rfl fun r5 => ?_; refine Ko ?_
 refine LT 0 rfl rfl ?_; refine JC 4 rfl ?_; refine LR rfl (Jp (vs := [_, _, _]) rfl (kn 0 rfl) rfl rfl rfl rfl) ?_; refine JN (vs := [_]) (zs := [_, _, _]) (r := [_, _, _]) rfl rfl rfl rfl rfl rfl rfl rfl rfl (by rw [Ky]; exact rfl) rfl fun r6 => ?_; refine LR rfl (Js (r := [_, _, _]) rfl rfl) ?_
 refine LT 10 rfl rfl ?_; refine Jx 3 rfl ?_; refine Jf rfl rfl (.cons (Jq (vs := [_, _, _]) rfl (kn 10 rfl) rfl rfl) .nil) (fun w1 hs1 => ?_); exact ⟨⟨Jqd x1 x1 x2 x3 r3 s1 s2 r6, _, Jja (e := 84) (by simp) (by simp) (by simp) (by simp) (by simp) (by simp) (by simp) (by simp), Jjb ..⟩, rfl, hs1⟩
def ZV (b : UInt8) : Vl := .mk b.toNat 0 0 0 [] none [] none 0
def yN (s : BS) : Vl := KY (s.map ZV) 0
theorem J08 (b : UInt8) : (ZV b).cells = [uV b.toNat, uV 0, uV 0, uV 0, .slice none 0 0, .slice none 0 0, .int .i64 0] := rfl
theorem Jxh (b : UInt8) : Vl.In [] (ZV b) := .mk (by have := XS b; unfold VK; omega) u0 u0 u0 (by decide) rfl (by decide) rfl i0 (fun x hx => nomatch hx)
theorem Jxi (s : BS) (p : Pl) : ZD (.mk 0 0 0 0 [] none (s.map ZV) p 0) = yN s := by
 rw [WF, WT, List.map_map, show (ZD ∘ ZV) = ZV from funext fun b => by show ZD (ZV b) = ZV b; unfold ZV; rw [WF, vz]]; rfl
theorem Jvi {s : BS} {i : Nat} (h : i < s.length) : Q7 ((s.take i).map ZV) ++ [uV (s.getD i 0).toNat, uV 0, uV 0, uV 0, .slice none 0 0, .slice none 0 0, .int .i64 0] = Q7 ((s.take (i + 1)).map ZV) := by
 have h1 : s[i]? = some (s.getD i 0) := by rw [List.getD_eq_getElem?_getD, List.getElem?_eq_getElem h]; rfl
 rw [ZP h1, List.map_append]
 unfold Q7
 rw [List.flatMap_append]; simp [J08]
theorem Jaw {s : BS} (hl : s.length ≤ 100000) : PureT (α := VR (yN s)) Tryz.prog 102 [J5 s].toArray (fun y => y.x.val) [] (fun y => y.L) [] := by
 refine Jt Tryz.func102 rfl rfl fun w => ?_; refine J8 ?_; refine Jo 2 rfl ?_; refine LN rfl fun r1 => ?_; refine JC 4 rfl ?_; refine LN rfl fun r2 => ?_; refine JC 6 rfl ?_; refine LR rfl (Qm rfl rfl) ?_; refine JI 4 rfl ?_; refine J1 (σ := Nat × QV) (fun q => q.1 ≤ s.length ∧ rowOk 7 q.1 (Q7 ((s.take q.1).map ZV)) q.2) (fun q => [(0, J5 s), (2, XO r1), (3, XO r2), (6, .int .i64 (s.length : Int)), (7, .int .i64 (q.1 : Int))]) (fun q => (r2, .cells #[.int .u64 0, .int .u64 0, .int .u64 0, .int .u64 0, .slice none 0 0, JE q.1 q.2, .int .i64 0] 89 (0, 0)) :: (r1, .cells #[.int .u64 0, .int .u64 0, .int .u64 0, .int .u64 0, .slice none 0 0, .slice none 0 0, .int .i64 0] 89 (0, 0)) :: JR 89 (Q7 ((s.take q.1).map ZV)) q.2) (fun _ _ _ => True) (fun q => s.length - q.1) (0, none) ⟨Nat.zero_le _, rfl, rfl⟩ (lK rfl) (List.Sublist.refl _) (fun _ _ h => h) ?_; rintro ⟨i, row⟩ ⟨hi1, hrow⟩; simp only at hi1 hrow; change HC _ _ [(0, J5 s), (2, XO r1), (3, XO r2), (6, .int .i64 (s.length : Int)), (7, .int .i64 (i : Int))] ((r2, .cells #[.int .u64 0, .int .u64 0, .int .u64 0, .int .u64 0, .slice none 0 0, JE i row, .int .i64 0] 89 (0, 0)) :: (r1, .cells #[.int .u64 0, .int .u64 0, .int .u64 0, .int .u64 0, .slice none 0 0, .slice none 0 0, .int .i64 0] 89 (0, 0)) :: JR 89 (Q7 ((s.take i).map ZV)) row) _ _ _; refine JP 6 rfl ?_; refine cD (fun g => ?_) fun g => ?_
 ·refine JP 10 rfl ?_
  refine JL [(r2, .cells #[.int .u64 0, .int .u64 0, .int .u64 0, .int .u64 0, .slice none 0 0, JE i row, .int .i64 0] 89 (0, 0))] [(0, .pure), (1, .pure), (2, .pure), (3, .pure), (4, .pure), (5, .pure), (6, .pure), (7, .pure), (8, .grow (V2 (slV 1) (.cells #[uV (s.getD i 0).toNat, uV 0, uV 0, uV 0, .slice none 0 0, .slice none 0 0, .int .i64 0] 89 (0, 0))))] 9 [0, 1, 2, 3, 4, 5, 6, 7, 8] (by kernel_rfl) (by kernel_rfl) (by first | exact (fun _ h => absurd h List.not_mem_nil) | simp [SubS] | (intro p hp; simp [hp])) ?_
  refine Jn (k := 0) rfl rfl rfl rfl rfl (fun _ hS => (JD rfl rfl rfl)) ?_; refine Jn (k := 1) rfl rfl rfl rfl rfl (fun _ hS => (Jh rfl (.inl (hS _ (Jr (n := 0) rfl))) rfl rfl)) ?_; refine Jn (k := 2) rfl rfl rfl rfl rfl (fun _ hS => (Ji rfl)) ?_; refine Jn (k := 3) rfl rfl rfl rfl rfl (fun _ hS => (Ji rfl)) ?_; refine Jn (k := 4) rfl rfl rfl rfl rfl (fun _ _ => yW (j := i) rfl rfl rfl rfl (by omega) rfl) ?_; refine Jn (k := 5) rfl rfl rfl rfl rfl (fun _ _ => (J0 rfl rfl rfl)) ?_; refine Wu (show _ = uV (s.getD i 0).toNat from congrArg (Value.int .u64) (wrap_u64 (by omega) (by have := XS (s.getD i 0); omega))) ?_; refine Qq (k := 6) rfl rfl rfl rfl rfl jD (Vo _) ?_; refine Jn (k := 7) rfl rfl rfl rfl rfl (fun _ hS => (Js (r := [_, _, _, _, _, _, _]) rfl rfl)) ?_; refine Wm (k := 8) (n := 1) (sz := 7) (vs := [_]) (zs := [_, _, _, _, _, _, _]) (r := [uV (s.getD i 0).toNat, uV 0, uV 0, uV 0, .slice none 0 0, .slice none 0 0, .int .i64 0]) rfl rfl rfl rfl rfl rfl rfl rfl rfl rfl rfl (by rw [Ky]; exact rfl) rfl fun rb => ?_; refine Ko ?_; refine KL (L0 := [_, _, _]) (xs := Q7 ((s.take i).map ZV)) (row := row) (n := i) (sz := 7) (b := 88) (news := [_, _, _, _, _, _, _]) (List.perm_append_comm (l₁ := [_, _, _])) rfl rfl rfl rfl (kn 0 rfl) rfl rfl rfl rfl rfl (by decide) rfl rfl rfl (by decide) hrow (by omega) (by omega) fun ra cap sp hra => ?_
  refine LS 1 [] rfl rfl ?_; refine KC (k := 2) (cs' := #[.int .u64 0, .int .u64 0, .int .u64 0, .int .u64 0, .slice none 0 0, JE (i + 1) (some (ra, cap, sp)), .int .i64 0]) rfl rfl rfl rfl rfl rfl rfl rfl rfl rfl ?_; refine JC 5 rfl ?_; refine J2 (show _ = Value.int .i64 ((i + 1 : Nat) : Int) from by rw [wrap_i64 (by omega) (by omega)]; congr 1 <;> omega) ?_; refine Jx 2 rfl ?_; refine Jz ?_; rw [Jvi (by omega)] at hra ⊢; refine KZ [2, 3, 0] (L' := [_, _, _]) (by decide) rfl ?_; exact Jv (i + 1, some (ra, cap, sp)) ⟨by simp only; omega, hra⟩ (by simp only; omega) (lK rfl) (List.Sublist.refl _) (fun _ _ h => h)
 ·refine JP 6 rfl ?_
  have honeV : ([.int .u64 0, .int .u64 0, .int .u64 0, .int .u64 0, .slice none 0 0, JE i row, .int .i64 0] : List Value).all Q6 = true := by cases row <;> rfl
  refine Jo 1 rfl ?_; refine LR rfl (Jb (xs := [.int .u64 0, .int .u64 0, .int .u64 0, .int .u64 0, .slice none 0 0, JE i row, .int .i64 0]) (n := 7) rfl (kn 0 rfl) rfl rfl rfl) ?_; refine Jc (k := 1) (n := 7) (ys := [.int .u64 0, .int .u64 0, .int .u64 0, .int .u64 0, .slice none 0 0, JE i row, .int .i64 0]) rfl rfl rfl rfl rfl rfl rfl honeV rfl ?_; refine Jx 3 rfl ?_; refine Jf rfl rfl (.cons (Jq (vs := [_, _, _, _, _, _, _]) rfl (kn 1 rfl) rfl rfl) .nil) (fun w1 hs1 => ?_)
  have hiM : i = s.length := by omega
  rw [hiM, List.take_length] at hrow hs1
  have hrow2 : rowOk 7 (s.map ZV).length (Q7 (s.map ZV)) row := by rw [List.length_map]; exact hrow
  have hvr : JE i row = KP (s.map ZV).length (Vd row) := by rw [hiM, List.length_map]; exact (Xp _ _ (fun h => by rw [h] at hrow; exact hrow.1)).symm
  exact ⟨⟨.mk 0 0 0 0 [] none (s.map ZV) (Vd row) 0, JR 89 (Q7 (s.map ZV)) row ++ [], Jec (by rw [List.length_map]; omega) (KJ hrow2 (by decide)) (fun x hx => by obtain ⟨b, _, rfl⟩ := List.mem_map.1 hx; exact Jxh b) i0, Jxi s _⟩, congrArg (fun z => Ending.returned (Value.agg #[.int .u64 0, .int .u64 0, .int .u64 0, .int .u64 0, .slice none 0 0, z, .int .i64 0])) hvr, hs1.weakL (.cons _ (.cons _ (by simp only [List.append_nil]; exact List.Sublist.refl _)))⟩
abbrev VZ0 : Array Value := #[.int .u64 0, .int .u64 0, .int .u64 0, .int .u64 0, .slice none 0 0, .slice none 0 0, .int .i64 0]
section
variable {c : Cx} {l : Kv} {L E : Jm} {X : XP} {Q : Exit → Act → World → Prop} {d : List Deferred}
variable {ops : Array Oper} {rest : List Nat} {i k : Nat} {v : Value} {o : Oper} {tb : ZT} {S : Jm} {T : Jm → Act → Prop}
theorem Jqe {α : Type} {T0 L0 Rl : Jm} {f : Operand} {args : Array Operand} {at_ : Array TypeId} {g : FuncId} {vs : List Value} {V : α → Value} {LL : α → Jm} {ty : TypeId} {ps : String} {af : Array Edge} {gd : Option (Nat × Bool)}
  (hp : E.Perm (T0 ++ L0)) (hk : WW ops.toList k = some ⟨some i, .call ⟨.value f, args, at_⟩, ty, ps, af, gd⟩) (hg : Kg l ops ⟨some i, .call ⟨.value f, args, at_⟩, ty, ps, af, gd⟩ = some true) (hi : Nat.ble (i + 1) c.n = true) (hA : tb k = .turn) (hca : Km l f args = some (g, vs)) (eg : Enters c.P g)
  (hpt : PureT c.P g vs.toArray V T0 LL Rl) (hR : ∀ p ∈ Rl, known c L0 p.1 p.2) (hS : ∀ x, SubS S (LL x ++ L0)) (h : ∀ x, HB c d ((i, V x) :: l) (LL x ++ L0) X S ops tb rest T) : HB c d l E X S ops tb (k :: rest) T := fun a hf => by
 refine ⟨_, Q8 hk, ?_⟩; rw [hA]; refine .inl ⟨α, V, fun x => LL x ++ L0, ⟨JF hf hg, fun w hs => ?_⟩, fun x => ⟨hS x, h x _ (hf.put (Nat.le_of_ble_eq_true hi))⟩⟩
 have hs := hs.perm hp
 obtain ⟨hd1, _, hd3⟩ := List.pairwise_append.1 hs.distinct
 refine Wr hf hca eg ((hpt.run w (fun p hp => (hs.own p (List.mem_append_left _ hp)).2.2) (fun p hp => ?_) hd1 (fun p hp q hq => ?_)).mono fun _ _ ⟨x, he, hk, h1, h2⟩ => ⟨V x, he, x, rfl, hs.turnT hk h1 h2⟩)
 ·exact (hR p hp).elim (fun h => (hs.own _ (List.mem_append_right _ h)).2.2) hs.readR
 ·rcases hR p hp with h | h
  ·exact fun e => hd3 q hq _ h e.symm
  ·rintro e
   obtain ⟨h1, _, h3⟩ := hs.ext _ h
   have h3 := J7 h3
   rcases (hs.own q (List.mem_append_left _ hq)).1 with h4 | h4
   ·exact h1 (e ▸ h4)
   ·simp only at h3 e; omega
end
theorem J09 {n : Nat} {xs : List Value} (h : xs.length = n) : rowOk 1 n xs (some (0, n, [])) := ⟨by rw [h, Nat.mul_one], by simp⟩
theorem Jqf {R : Jm} {k n : Int} {p : Pl} {ins : List Ty} {items : List Vl} {pi : Pl} (ht : Ty.In R (.mk k n p ins)) (h8 : k ≠ 8) (hs : Seg R items.length (Q7 items) pi) (hl : items.length ≤ 600) (hx : ∀ i, i < items.length → X9 k 0 i < ins.length)
  (hb : ∀ (i : Nat) x, items[i]? = some x → PureR Tryz.prog 100 [(JT k 0 ins i).val, x.val].toArray (J5 (KS x (JT k 0 ins i))) R) :
  PureT (α := { row : QV // rowOk 1 items.length (Wl (Ka items k 0 ins 0)) row }) Tryz.prog 169 [Ty.val (.mk k n p ins), KP items.length pi].toArray (fun x => JE items.length x.1) [] (fun x => JR 9 (Wl (Ka items k 0 ins 0)) x.1) R := by
 cases ht with
 | @mk k n p ins hk hn hlt hst hit =>
 have hRL := Wf items k 0 ins 0
 obtain ⟨RS, hRS⟩ : ∃ x, x = Ka items k 0 ins 0 := ⟨_, rfl⟩
 have htk := fun i x (h : items[i]? = some x) => wH k ins (i := 0) h
 simp only [← hRS, Nat.zero_add] at htk; rw [← hRS] at hRL ⊢; refine Jt Tryz.func169 rfl rfl fun w => ?_; refine J8 ?_; refine Jo 2 rfl ?_; refine LN rfl fun r1 => ?_; refine JC 12 rfl ?_; refine LR rfl (J3 rfl hs rfl) ?_; refine JI 4 rfl ?_; refine J1 (σ := Nat × QV) (fun q => q.1 ≤ items.length ∧ rowOk 1 q.1 (Wl (RS.take q.1)) q.2) (fun q => [(2, XO r1), (5, JE q.1 q.2), (9, KP items.length pi), (10, .int .i64 (items.length : Int)), (11, .int .i64 (q.1 : Int))]) (fun q => WD r1 (.mk k n p ins) :: JR 9 (Wl (RS.take q.1)) q.2) (fun _ _ _ => True) (fun q => items.length - q.1) (0, none) ⟨Nat.zero_le _, by rw [List.take_zero]; exact ⟨rfl, rfl⟩⟩ (lK rfl) (List.Sublist.refl _) (fun _ _ h => h) ?_; rintro ⟨i, row⟩ ⟨hi1, hrow⟩; simp only at hi1 hrow; change HC _ _ [(2, _), (5, JE i row), (9, _), (10, _), (11, .int .i64 (i : Int))] ((r1, _) :: JR _ (Wl (RS.take i)) row) _ _ _; refine JP 6 rfl ?_; refine cD (fun h7 => ?_) fun h7 => ?_
 ·refine JP 5 rfl ?_
  have hil : i < items.length := by omega
  have hix := XD hil
  have hbi := hb i _ hix.1
  have hty := QR (hx i hil)
  have hi0 : 0 < ins.length := Nat.lt_of_le_of_lt (Nat.zero_le _) (hx i hil)
  have hy0 : ins[0]? = some (ins.getD 0 default) := by rw [List.getD_eq_getElem?_getD, List.getElem?_eq_getElem hi0]; rfl
  have htki := htk i _ hix.1
  obtain ⟨sv, hsv⟩ : ∃ x, x = KS (XC items i) (JT k 0 ins i) := ⟨_, rfl⟩
  rw [← hsv] at hbi htki; refine Jo 2 rfl ?_
  refine LR rfl (Ju (j := i) rfl hs rfl rfl rfl (by first | rfl | omega) (by omega)) ?_; refine LR rfl (Wt oR rfl hs hix.1 rfl rfl) ?_; refine Qs (cs := #[.int .u64 0, .int .u64 0, .int .u64 0, .int .u64 0, .slice none 0 0, .slice none 0 0, .int .i64 0]) rfl rfl rfl rfl fun rv => ?_; refine Qx rfl (Jc (k := 0) (n := 7) (ys := (XC items i).cells) rfl rfl rfl rfl rfl (XC items i).len rfl (XC items i).one rfl (Xj 6 [1] rfl rfl ?_)); refine LR rfl (Ju (j := 0) rfl hst rfl rfl rfl rfl (by omega)) ?_; refine LR rfl (Qp oR rfl hst hy0 rfl rfl) ?_; refine Qs (cs := #[.int .i64 0, .int .i64 0, .slice none 0 0]) rfl rfl rfl rfl fun rt => ?_; refine Jc (k := 0) (n := 3) (ys := (ins.getD 0 default).cells) rfl rfl rfl rfl rfl (ins.getD 0 default).len rfl (ins.getD 0 default).one rfl ?_; refine Goc 10 [2] rfl rfl ?_; refine cD (fun g => ?_) fun g => ?_
  ·refine X6 4 [2] rfl rfl ?_; refine LR rfl (Ju (j := X9 k 0 i) rfl hst rfl rfl rfl (by unfold X9; rw [if_pos (by assumption)]) (hx i hil)) ?_; refine LR rfl (Qp oR rfl hst hty.1 rfl rfl) ?_; refine Jc (k := 0) (n := 3) (ys := (JT k 0 ins i).cells) rfl rfl rfl rfl rfl (JT k 0 ins i).len (by rw [List.size_toArray]; exact Ty.len _) (JT k 0 ins i).one rfl ?_; refine JI 2 rfl ?_
   (have h7 : k = 7 := by assumption
    skip)
   refine Jo 2 rfl ?_; refine LR rfl (Jb (xs := (JT k 0 ins i).cells) (n := 3) rfl (kn 0 rfl) rfl rfl (JT k 0 ins i).len) ?_; refine LR rfl (Jb (xs := (XC items i).cells) (n := 7) rfl (kn 1 rfl) rfl rfl (XC items i).len) ?_; refine Jg rfl rfl rfl Jif hbi oR ?_; refine JN (vs := [_]) (zs := [_]) (r := [_]) rfl rfl rfl rfl rfl rfl rfl rfl rfl (by show (madeCells #[_] _).toList = _; rw [QX]; exact rfl) rfl fun r2 => ?_; refine KL (L0 := [_, _, _, _]) (xs := Wl (RS.take i)) (row := row) (n := i) (sz := 1) (b := 16) (news := [J5 sv]) (List.perm_append_comm (l₁ := [_, _, _, _])) rfl rfl rfl rfl (kn 0 rfl) rfl rfl rfl rfl rfl (by decide) rfl rfl rfl (by decide) hrow (by omega) (by omega) fun ra cap sp hra => ?_; refine JC 6 rfl ?_; refine J2 (show _ = Value.int .i64 ((i + 1 : Nat) : Int) from by rw [wrap_i64 (by omega) (by omega)]; congr 1 <;> omega) ?_; refine Jx 2 rfl ?_; refine Jz ?_; refine KZ [4, 0] (L' := [_, _]) (by decide) rfl ?_; exact Jv (i + 1, some (ra, cap, sp)) ⟨by simp only; omega, by simp only; rw [htki, YX]; exact hra⟩ (by simp only; omega) (lK rfl) (by simp only; rw [htki, YX]; exact List.Sublist.refl _) (fun _ _ h => h)
  ·refine JP 2 rfl ?_
   (have h7 : ¬ k = 7 := by assumption
    have e : ins.getD 0 default = JT k 0 ins i := by unfold JT X9; rw [if_neg h7, if_neg h8]
    rw [e])
   refine Jo 2 rfl ?_; refine LR rfl (Jb (xs := (JT k 0 ins i).cells) (n := 3) rfl (kn 0 rfl) rfl rfl (JT k 0 ins i).len) ?_; refine LR rfl (Jb (xs := (XC items i).cells) (n := 7) rfl (kn 1 rfl) rfl rfl (XC items i).len) ?_; refine Jg rfl rfl rfl Jif hbi oR ?_; refine JN (vs := [_]) (zs := [_]) (r := [_]) rfl rfl rfl rfl rfl rfl rfl rfl rfl (by show (madeCells #[_] _).toList = _; rw [QX]; exact rfl) rfl fun r3 => ?_; refine KL (L0 := [_, _, _, _]) (xs := Wl (RS.take i)) (row := row) (n := i) (sz := 1) (b := 16) (news := [J5 sv]) (List.perm_append_comm (l₁ := [_, _, _, _])) rfl rfl rfl rfl (kn 0 rfl) rfl rfl rfl rfl rfl (by decide) rfl rfl rfl (by decide) hrow (by omega) (by omega) fun ra cap sp hra => ?_; refine JC 6 rfl ?_; refine J2 (show _ = Value.int .i64 ((i + 1 : Nat) : Int) from by rw [wrap_i64 (by omega) (by omega)]; congr 1 <;> omega) ?_; refine Jx 2 rfl ?_; refine Jz ?_; refine KZ [4, 0] (L' := [_, _]) (by decide) rfl ?_; exact Jv (i + 1, some (ra, cap, sp)) ⟨by simp only; omega, by simp only; rw [htki, YX]; exact hra⟩ (by simp only; omega) (lK rfl) (by simp only; rw [htki, YX]; exact List.Sublist.refl _) (fun _ _ h => h)
 ·refine JP 6 rfl ?_
  obtain rfl : i = items.length := by omega
  rw [List.take_of_length_le (by omega)] at hrow ⊢; refine Kn 6 rfl ?_; refine pT rfl rfl rfl fun w1 hs1 => ?_; exact ⟨⟨row, hrow⟩, rfl, hs1.weakL (.cons _ (List.Sublist.refl _))⟩
abbrev jM (l : List BS) : Type := { row : QV // rowOk 1 l.length (Wl l) row }
def Jjc (l : List BS) : jM l := ⟨some (0, l.length, []), J09 (by unfold Wl; rw [List.length_map])⟩
abbrev rV {l : List BS} (x : jM l) : Value := KP l.length (Vd x.1)
abbrev rL {l : List BS} (x : jM l) : Jm := JR 9 (Wl l) x.1
theorem J1a {l : List BS} (x : jM l) : rV x = JE l.length x.1 := Xp _ _ fun h => by
 have h2 := x.2
 rw [h] at h2; exact h2.1
theorem Jqg (l : List BS) : (fun x : jM l => rV x) = fun x => JE l.length x.1 := funext fun x => J1a x
theorem Jqh {s : BS} (hl : s.length ≤ 1000000) : PureT (α := jM (Y0 s)) Tryz.prog 218 [J5 s].toArray (fun x => rV x) [] (fun x => rL x) [] := by
 have h := J06 hl
 rw [← YY] at h; rw [Jqg]; exact h
theorem zG {R : Jm} {k n : Int} {p : Pl} {ins : List Ty} {items : List Vl} {pi : Pl} (ht : Ty.In R (.mk k n p ins)) (h8 : k ≠ 8) (hs : Seg R items.length (Q7 items) pi) (hl : items.length ≤ 600) (hx : ∀ i, i < items.length → X9 k 0 i < ins.length)
  (hb : ∀ (i : Nat) x, items[i]? = some x → PureR Tryz.prog 100 [(JT k 0 ins i).val, x.val].toArray (J5 (KS x (JT k 0 ins i))) R) :
  PureT (α := jM (Ka items k 0 ins 0)) Tryz.prog 169 [Ty.val (.mk k n p ins), KP items.length pi].toArray (fun x => rV x) [] (fun x => rL x) R := by
 have h := Jqf ht h8 hs hl hx hb
 rw [Jqg]
 have e := Wf items k 0 ins 0
 generalize Ka items k 0 ins 0 = RS at h e ⊢
 rw [← e] at h; rw [← e]; exact h
theorem Jqi (t : Ty) : Pure Tryz.prog 215 [t.val].toArray (.bool (Xv t)) := by
 obtain ⟨k, n, p, ins⟩ := t
 refine Jk Tryz.func215 rfl rfl fun w => ?_; refine J8 ?_; refine Jo 2 rfl ?_; refine LN rfl fun r1 => ?_; refine Xj 9 [0] rfl rfl ?_
 refine J4 6 rfl (fun gb => ?_) (fun gb => ?_) <;> (try simp only [ZZ] at gb) <;> first | (refine LR rfl (JD rfl rfl rfl) ?_) | (refine LK rfl ?_)
 all_goals (
  refine LW 4 [0] rfl rfl (Jx 1 rfl (ZJ 2 rfl ?_)); refine pT rfl rfl rfl fun w1 hs1 => ?_; refine ⟨?_, hs1.keep⟩
  simp_all [JA, Xv, Ty.k]
  all_goals first | done | rfl
  skip)
theorem Jy0 (n : Nat) : ((n + 7) / 8 + 31) / 32 = (n + 255) / 256 := by omega
theorem Jjd {R : Jm} {l : List Bool} {k : Int} {n : Nat} {p pb : Pl} {ins : List Ty} (hl : l.length ≤ n) (hn : n ≤ 512) (hs : Seg R l.length (jt l) pb) :
  PureR Tryz.prog 165 [Ty.val (.mk k (n : Int) p ins), KP l.length pb].toArray (J5 (Ve (Y0 (WH l)) ((n + 255) / 256))) R := by
 obtain ⟨N, hN⟩ : ∃ N, N = (l.length + 7) / 8 := ⟨_, rfl⟩
 have hpB : WH l = KU l N l.length := by rw [hN]; rfl
 have hnb := qo (bits := l) (n := (n : Int)) (by omega)
 rw [Int.toNat_natCast] at hnb
 have hc32 := Zs (WH l)
 have hcut := Jqh (s := WH l) (by rw [Zh]; omega)
 rw [hpB] at hnb hc32 hcut ⊢; refine Ja Tryz.func165 rfl rfl fun w => ?_; refine J8 ?_; refine Jo 2 rfl ?_; refine LN rfl fun r1 => ?_; refine JC 6 rfl ?_; refine LR rfl (J3 rfl hs rfl) ?_
 refine Wo rfl ?_; refine J2 (show _ = Value.int .i64 ((l.length + 8 : Nat) : Int) from by rw [wrap_i64 (by omega) (by omega)]; congr 1 <;> omega) ?_
 refine Wo rfl ?_; refine J2 (show _ = Value.int .i64 ((l.length + 7 : Nat) : Int) from by rw [wrap_i64 (by omega) (by omega)]; congr 1 <;> omega) ?_; refine Wo rfl ?_; refine J2 (show _ = Value.int .i64 ((N : Nat) : Int) from congrArg (Value.int .i64) (by rw [QK (by omega) (by decide) (by omega), hN]; rfl)) ?_; refine WN (n := N) (b := 1) rfl rfl rfl rfl rfl rfl rfl rfl rfl (by omega) (by omega) fun rm => ?_; rw [show List.replicate N (Value.int .u8 0) = (KU l N 0).map bV from by rw [KU, List.map_replicate]; rfl]; refine JC 7 rfl ?_; refine LR rfl (J3 rfl hs rfl) ?_; refine JI 4 rfl ?_; refine J1 (σ := Nat) (fun i => i ≤ l.length) (fun i => [(2, XO r1), (5, .slice (some ⟨rm, 0, none⟩) N N), (14, KP l.length pb), (15, .int .i64 (l.length : Int)), (16, .int .i64 (i : Int))]) (fun i => [(rm, .cells ((KU l N i).map bV).toArray 5 (0, 0)), WD r1 (.mk k (n : Int) p ins)]) (fun _ _ _ => True) (fun i => l.length - i) 0 (Nat.zero_le _) (lK rfl) (List.Sublist.refl _) (fun _ _ h => h) ?_; intro i hi1; change HC _ _ _ ((rm, _) :: (r1, _) :: []) _ _ _; refine JP 6 rfl ?_; refine cD (fun g => ?_) fun g => ?_
 ·refine JP 5 rfl ?_
  have hil : i < l.length := by omega
  have hi8 : i / 8 < N := by omega
  have hyb : l[i]? = some (l.getD i false) := by rw [List.getD_eq_getElem?_getD, List.getElem?_eq_getElem hil]; rfl
  refine Jo 2 rfl ?_
  refine LR rfl (Ju (j := i) rfl hs rfl rfl rfl (by first | rfl | omega) (by omega)) ?_; refine LR rfl (XU oR rfl hs hyb rfl) ?_; refine JI 9 rfl ?_; refine cD (fun g => ?_) fun g => ?_
  ·have hbt : l.getD i false = true := by assumption
   have hst1 : KU l N (i + 1) = (KU l N i).set (i / 8) (UInt8.ofNat (((KU l N i).getD (i / 8) 0).toNat ||| 2 ^ (i % 8))) := by rw [KU, if_pos hbt]
   obtain ⟨Y, hY⟩ : ∃ Y, Y = KU l N i := ⟨_, rfl⟩
   have hYl : Y.length = N := by rw [hY]; exact Vn l N i
   rw [← hY] at hst1 ⊢
   refine JL [] [(0, .pure), (1, .pure), (2, .pure), (3, .pure), (5, .pure), (6, .pure), (7, .pure), (8, .pure), (9, .pure), (10, .turn)] 11 [0, 1, 2, 3, 4, 5, 6, 7, 8, 9, 10] (by kernel_rfl) (by kernel_rfl) (by first | exact (fun _ h => absurd h List.not_mem_nil) | simp [SubS] | (intro p hp; simp [hp])) ?_; refine Jn (k := 0) rfl rfl rfl rfl rfl (fun _ hS => (Ji rfl)) ?_; refine Jn (k := 1) rfl rfl rfl rfl rfl (fun _ hS => (Ji rfl)) ?_
   refine Jn (k := 2) rfl rfl rfl rfl rfl (fun _ _ => (J0 rfl rfl rfl)) ?_; refine Wu (show _ = Value.int .i64 ((i / 8 : Nat) : Int) from congrArg (Value.int .i64) (by first | exact WO _ _ | exact QK (by omega) (by decide) (by omega) | (rw [wrap_i64 (by omega) (by omega)]; omega))) ?_; refine Jn (k := 3) rfl rfl rfl rfl rfl (fun _ _ => JH (j := (i / 8)) (m := 1) (off' := (i / 8)) rfl rfl rfl rfl (by omega) (by omega) (by omega)) ?_; refine KB (k := 4) rfl rfl rfl rfl rfl (Jh rfl (kn 0 rfl) rfl (by rw [W6]; exact Yd (by omega))) ?_; refine Jn (k := 5) rfl rfl rfl rfl rfl (fun _ hS => (Ji rfl)) ?_
   refine Jn (k := 6) rfl rfl rfl rfl rfl (fun _ _ => (J0 rfl rfl rfl)) ?_; refine Wu (show _ = Value.int .i64 ((i % 8 : Nat) : Int) from congrArg (Value.int .i64) (by first | exact WO _ _ | exact QK (by omega) (by decide) (by omega) | (rw [wrap_i64 (by omega) (by omega)]; omega))) ?_; refine Jn (k := 7) rfl rfl rfl rfl rfl (fun _ _ => Jb9 (n := i % 8) (b := ((2 ^ (i % 8) : Nat) : Int)) rfl rfl rfl (show _ ≤ 8 from by omega) (Jp2 (by omega))) ?_; refine Jn (k := 8) rfl rfl rfl rfl rfl (fun _ _ => xH (op := .or) (m := (Y.getD (i / 8) 0).toNat) (n := 2 ^ (i % 8)) rfl rfl rfl (XS _) (Nat.pow_lt_pow_right (by decide) (by omega) : 2 ^ (i % 8) < 2 ^ 8) rfl) ?_; refine Wu (Ji6 _ (by omega)) ?_; refine Jn (k := 9) rfl rfl rfl rfl rfl (fun _ _ => JH (j := (i / 8)) (m := 1) (off' := (i / 8)) rfl rfl rfl rfl (by omega) (by omega) (by omega)) ?_; refine XW (k := 10) (q := 0) (cs' := ((KU l N (i + 1)).map bV).toArray) rfl rfl rfl rfl rfl rfl rfl rfl (by simp; omega) (by rw [zC, hst1]) rfl (fun _ h => nomatch h) ?_; refine Ko ?_; refine JC 5 rfl ?_; refine J2 (show _ = Value.int .i64 ((i + 1 : Nat) : Int) from by rw [wrap_i64 (by omega) (by omega)]; congr 1 <;> omega) ?_; refine Jx 2 rfl ?_; refine Jz ?_; exact Jv (i + 1) (by omega) (by omega) (lK rfl) (List.Sublist.refl _) (fun _ _ h => h)
  ·refine Jo 5 rfl ?_; refine J2 (show _ = Value.int .i64 ((i + 1 : Nat) : Int) from by rw [wrap_i64 (by omega) (by omega)]; congr 1 <;> omega) ?_; refine Jx 2 rfl ?_; refine Jz ?_
   (have hst0 : KU l N (i + 1) = KU l N i := by rw [KU, if_neg (by simp_all)]
    exact Jv (i + 1) (by omega) (by omega) (lK rfl) (by rw [hst0]; exact List.Sublist.refl _) (fun _ _ h => h))
 ·refine JP 6 rfl ?_
  obtain rfl : i = l.length := by omega
  refine JL [] [(0, .pure), (2, .grow (Qf (Jjc (Y0 (KU l N l.length))) (fun x => rV x) (fun x => rL x))), (3, .pure), (5, .pure), (6, .pure), (7, .pure), (8, .pure), (10, .pure)] 11 [0, 1, 3, 4, 5, 6, 7, 2, 8, 9, 10] (by kernel_rfl) (by kernel_rfl) (by first | exact (fun _ h => absurd h List.not_mem_nil) | simp [SubS] | (intro p hp; simp [hp])) ?_; refine Jn (k := 0) rfl rfl rfl rfl rfl (fun _ hS => (Ji rfl)) ?_; refine KB (k := 1) rfl rfl rfl rfl rfl (Q4 (b := KU l N l.length) (row := some (rm, N, [])) (e := 5) (show _ = some (JE (KU l N l.length).length _) from by rw [Vn]; rfl) ⟨by rw [List.length_map]; omega, by rw [Vn]; simp⟩ (fun p hp => .inl (by rw [List.mem_singleton.1 hp, List.append_nil]; exact List.mem_cons_self)) rfl rfl rfl) ?_
  refine Jn (k := 3) rfl rfl rfl rfl rfl (fun _ hS => (JD rfl rfl rfl)) ?_; refine KB (k := 4) rfl rfl rfl rfl rfl (Jh rfl (kn 1 rfl) rfl rfl) ?_
  refine Jn (k := 5) rfl rfl rfl rfl rfl (fun _ _ => (J0 rfl rfl rfl)) ?_; refine Wu (show _ = Value.int .i64 ((n + 8 : Nat) : Int) from congrArg (Value.int .i64) (by first | exact WO _ _ | exact QK (by omega) (by decide) (by omega) | (rw [wrap_i64 (by omega) (by omega)]; omega))) ?_
  refine Jn (k := 6) rfl rfl rfl rfl rfl (fun _ _ => (J0 rfl rfl rfl)) ?_; refine Wu (show _ = Value.int .i64 ((n + 7 : Nat) : Int) from congrArg (Value.int .i64) (by first | exact WO _ _ | exact QK (by omega) (by decide) (by omega) | (rw [wrap_i64 (by omega) (by omega)]; omega))) ?_
  refine Jn (k := 7) rfl rfl rfl rfl rfl (fun _ _ => (J0 rfl rfl rfl)) ?_; refine Wu (show _ = Value.int .i64 (((n + 7) / 8 : Nat) : Int) from congrArg (Value.int .i64) (by first | exact WO _ _ | exact QK (by omega) (by decide) (by omega) | (rw [wrap_i64 (by omega) (by omega)]; omega))) ?_; refine KT (k := 2) rfl rfl rfl rfl rfl (enters_of Tryz.func218 (by kernel_rfl) rfl) hcut oN fun x => ?_; refine Qq (k := 8) rfl rfl rfl rfl rfl (enters_of Tryz.func220 (by kernel_rfl) rfl) (Jqa (n := (n + 7) / 8) (by omega)) ?_; rw [Jy0]; refine KH (k := 9) rfl rfl rfl rfl rfl Jij (vw hnb (by omega) (KJ x.2 (by decide)) hc32) (fun q hq => .inl (List.mem_append_left _ hq)) ?_; refine Jn (k := 10) rfl rfl rfl rfl rfl (fun _ hS => (J9 rfl)) ?_; refine Ko ?_; refine Jx 3 rfl ?_; refine pT rfl rfl rfl fun w1 hs1 => ?_; exact ⟨rfl, hs1.keep⟩
section
variable {c : Cx} {l : Kv} {L E : Jm} {X : XP} {Q : Exit → Act → World → Prop} {d : List Deferred}
variable {ops : Array Oper} {rest : List Nat} {i k : Nat} {v : Value} {o : Oper} {tb : ZT} {S : Jm} {T : Jm → Act → Prop}
theorem Jl0 {f : Operand} {args : Array Operand} {at_ : Array TypeId} {g : FuncId} {vs : List Value} {Rl : Jm} {ty : TypeId} {ps : String} {af : Array Edge} {gd : Option (Nat × Bool)}
  (hk : WW ops.toList k = some ⟨some i, .call ⟨.value f, args, at_⟩, ty, ps, af, gd⟩) (hg : Kg l ops ⟨some i, .call ⟨.value f, args, at_⟩, ty, ps, af, gd⟩ = some true) (hi : Nat.ble (i + 1) c.n = true) (hA : tb k = .pure) (hca : Km l f args = some (g, vs)) (eg : Enters c.P g)
  (hp : PureR c.P g vs.toArray v Rl) (hR : ∀ p ∈ Rl, p ∈ S ∨ p ∈ c.R) (h : HB c d ((i, v) :: l) E X S ops tb rest T) : HB c d l E X S ops tb (k :: rest) T := fun a hf => by
 refine ⟨_, Q8 hk, ?_⟩; rw [hA]; exact ⟨v, .inl ⟨JF hf hg, fun E' hE' w hs => Wr hf hca eg ((hp.run w fun p hp => (hR p hp).elim (fun h => (hs.own _ (hE' p h)).2.2) hs.readR).mono fun _ _ ⟨he, hk⟩ => ⟨v, he, rfl, hk⟩)⟩, h _ (hf.put (Nat.le_of_ble_eq_true hi))⟩
end
theorem YZ {k : Int} (h7 : k ≠ 7) (h8 : k ≠ 8) (x : Ty) (i : Nat) : JT k 0 [x] i = x := by unfold JT X9; rw [if_neg h7, if_neg h8]; rfl
theorem Jl1 {l : List Vl} {x : Ty} {i : Nat} {v : Vl} (h : l[i]? = some v) : WR (l.take (i + 1)) x = WR (l.take i) x ++ Vp v x := by
 unfold WR
 rw [List.take_add_one, h]
 simp
theorem Jje {x : Ty} : ∀ {l : List Vl}, (∀ v ∈ l, (Vp v x).length ≤ 32) → (WR l x).length ≤ 32 * l.length
 | [], _ => by unfold WR; simp
 | v :: l, h => by
  have ih := Jje (l := l) fun y hy => h y (List.mem_cons_of_mem _ hy)
  have h1 := h v List.mem_cons_self
  unfold WR at ih ⊢
  rw [List.map_cons, List.flatten_cons, List.length_append, List.length_cons]; omega
theorem wP {x : Ty} {v : Vl} (hc : chk x 0 = 0) (hp : Xv x = true) (hf : KO v x = 0) : Ju0 x v = (Vp v x, 0) ∧ (Vp v x).length ≤ 32 := by
 obtain ⟨f1, f2, f3, f4⟩ := Zu hc hp
 have h1 := f4 v hf
 have h2 : (Vp v x).length ≤ 32 := by omega
 have h3 : V5 x v = 0 := by unfold V5; rw [if_pos hc]; exact hf
 unfold Ju0
 rw [if_neg (by rw [h3]; simp), if_neg (by omega)]; exact ⟨rfl, h2⟩
set_option maxHeartbeats 1000000 in
theorem Jy1 {R : Jm} {k : Int} {n : Nat} {p pi : Pl} {x0 : Ty} {items : List Vl} (ht : Ty.In R (.mk k (n : Int) p [x0])) (h7 : k ≠ 7) (h8 : k ≠ 8) (hc : chk x0 0 = 0) (hs : Seg R items.length (Q7 items) pi) (hl : items.length ≤ n) (hn : n ≤ 512)
  (hfit : ∀ v ∈ items, KO v x0 = 0) (hw : ∀ v ∈ items, Y6 v ≤ 20000) (hIn : ∀ v ∈ items, v.In R)
  (hb : ∀ (i : Nat) x, items[i]? = some x → PureR Tryz.prog 100 [x0.val, x.val].toArray (J5 (KS x x0)) R) :
  PureR Tryz.prog 161 [Ty.val (.mk k (n : Int) p [x0]), KP items.length pi].toArray (J5 (WS k (n : Int) [x0] items (Ka items k 0 [x0] 0))) R := by
 have hro := zG ht h8 hs (by omega) (fun i _ => by unfold X9; rw [if_neg h7, if_neg h8]; exact Nat.lt_succ_self 0) (fun i x hx => by rw [YZ h7 h8]; exact hb i x hx)
 have hrl := Wf items k 0 [x0] 0
 have hr32 : ∀ s ∈ Ka items k 0 [x0] 0, s.length = 32 := fun s hs => by
  obtain ⟨j, x, h1, rfl⟩ := Yf hs
  rw [YZ h7 h8]; exact Xc x x0 0 hc (hfit x (List.mem_of_getElem? h1))
 have hrt := fun (x : jM (Ka items k 0 [x0] 0)) => vw (m := n) (by omega) (by omega) (KJ (e := 9) x.2 (by decide)) hr32
 have hM : WS k (n : Int) [x0] items (Ka items k 0 [x0] 0) = if Xv x0 = true then Ve (Y0 (WR items x0)) ((n * (KV x0).toNat + 31) / 32) else Ve (Ka items k 0 [x0] 0) n := by
  unfold WS
  rw [if_neg h7]; rfl
 rw [hM]
 have hx0 := ht.sub x0 List.mem_cons_self
 have ht2 := ht
 cases ht with
 | @mk k n p ins hk hn2 hlt hst hit =>
 have hpl := Jqi x0
 refine Ja Tryz.func161 rfl rfl fun w => ?_; refine J8 ?_; refine Jo 2 rfl ?_; refine LN rfl fun r1 => ?_; refine Xj 8 [0] rfl rfl ?_
 refine LR rfl (Ju (j := 0) rfl hst rfl rfl rfl (by first | rfl | omega) (Nat.lt_succ_self 0)) ?_; refine LR rfl (Qp oR rfl hst (show [x0][0]? = some x0 from rfl) rfl rfl) ?_; refine Jl rfl rfl rfl (enters_of Tryz.func215 (by kernel_rfl) rfl) hpl ?_; refine JI 3 rfl ?_; refine cD (fun g => ?_) fun g => ?_
 refine JP 1 rfl ?_
 refine JL [] [(1, .pure), (2, .grow (Qf (Jjc (Ka items k 0 [x0] 0)) (fun x => rV x) (fun x => rL x))), (3, .pure), (6, .pure)] 7 [0, 1, 3, 4, 2, 5, 6] (by kernel_rfl) (by kernel_rfl) (by first | exact (fun _ h => absurd h List.not_mem_nil) | simp [SubS] | (intro p hp; simp [hp])) ?_; refine KB (k := 0) rfl rfl rfl rfl rfl (Jb (xs := (Ty.mk k (n : Int) p [x0]).cells) (n := 3) rfl (kn 0 rfl) rfl rfl (Ty.mk k (n : Int) p [x0]).len) ?_; refine Jn (k := 1) rfl rfl rfl rfl rfl (fun _ hS => (Ji rfl)) ?_
 refine Jn (k := 3) rfl rfl rfl rfl rfl (fun _ hS => (JD rfl rfl rfl)) ?_; refine KB (k := 4) rfl rfl rfl rfl rfl (Jh rfl (kn 0 rfl) rfl rfl) ?_; refine KT (k := 2) rfl rfl rfl rfl rfl (enters_of Tryz.func169 (by kernel_rfl) rfl) hro (fun q hq => .inr hq) fun x => ?_; refine KH (k := 5) rfl rfl rfl rfl rfl Jij (hrt x) (fun q hq => .inl (List.mem_append_left _ hq)) ?_; refine Jn (k := 6) rfl rfl rfl rfl rfl (fun _ hS => (J9 rfl)) ?_; refine Ko ?_; refine Jx 4 rfl ?_; refine pT rfl rfl rfl fun w1 hs1 => ?_; refine ⟨?_, hs1.keep⟩; rw [if_neg (by rw [Bool.not_eq_true]; assumption)]; rfl
 ·refine JP 3 rfl ?_
  have hp : Xv x0 = true := by assumption
  obtain ⟨f1, f2, f3, f4⟩ := Zu hc hp
  obtain ⟨z, hz⟩ : ∃ z, z = (KV x0).toNat := ⟨_, rfl⟩
  have hSz := Jpo hx0
  have hsz : zg x0 = (z : Int) := by unfold zg; rw [if_pos f1]; omega
  rw [hsz] at hSz
  have hnz : n * z ≤ 16384 := by
   have := Nat.mul_le_mul hn (show z ≤ 32 by omega)
   omega
  obtain ⟨C, hC⟩ : ∃ C, C = WR items x0 := ⟨_, rfl⟩
  have hCl : C.length = items.length * z := by rw [hC]; exact jL fun v hv => by have := f4 v (hfit v hv); omega
  have hCn : C.length ≤ n * z := by rw [hCl]; exact Nat.mul_le_mul_right _ hl
  have hcn : (Y0 C).length ≤ (n * z + 31) / 32 := by rw [YY]; unfold Jas; omega
  refine Jo 1 rfl ?_; refine LN rfl fun r2 => ?_; refine JC 6 rfl ?_; refine LR rfl (J3 rfl hs rfl) ?_; refine JI 4 rfl ?_; refine J1 (σ := Nat × QV × Bool) (fun q => q.1 ≤ items.length ∧ bOk (WR (items.take q.1) x0) q.2.1) (fun q => [(2, XO r1), (5, XO r2), (22, KP items.length pi), (23, .int .i64 (items.length : Int)), (24, .int .i64 (q.1 : Int))]) (fun q => WE r2 (WR (items.take q.1) x0) q.2.1 q.2.2 ++ [WD r1 (Ty.mk k (n : Int) p [x0])]) (fun _ _ _ => True) (fun q => items.length - q.1) (0, none, false) ⟨Nat.zero_le _, Jar⟩ (lK rfl) (List.Sublist.refl _) (fun _ _ h => h) ?_; rintro ⟨i, row, own⟩ ⟨hi1, hb1⟩; simp only at hi1 hb1; change HC _ _ [(2, _), (5, _), (22, _), (23, _), (24, .int .i64 (i : Int))] (WE r2 (WR (items.take i) x0) row own ++ [WD r1 (Ty.mk k (n : Int) p [x0])]) _ _ _; refine JP 6 rfl ?_; refine cD (fun g => ?_) fun g => ?_
  ·refine JP 5 rfl ?_
   have hil : i < items.length := by omega
   have hix := XD hil
   have hpr := wP hc hp (hfit _ hix.2)
   have hput := Jyw hx0 (hIn _ hix.2) (hw _ hix.2)
   rw [hpr.1] at hput
   have hsn := Jl1 (x := x0) hix.1
   have hcl := Jje (x := x0) (l := items.take i) fun v hv => (wP hc hp (hfit v (List.mem_of_mem_take hv))).2
   rw [List.length_take] at hcl
   have hp2 := hpr.2
   refine Jo 1 rfl ?_
   refine LR rfl (Ju (j := i) rfl hs rfl rfl rfl (by first | rfl | omega) (by omega)) ?_; refine LR rfl (Wt oR rfl hs hix.1 rfl rfl) ?_; refine Qs (cs := #[.int .u64 0, .int .u64 0, .int .u64 0, .int .u64 0, .slice none 0 0, .slice none 0 0, .int .i64 0]) rfl rfl rfl rfl fun rv => ?_; refine Jc (k := 0) (n := 7) (ys := (XC items i).cells) rfl rfl rfl rfl rfl (XC items i).len rfl (XC items i).one rfl ?_; refine JI 3 rfl ?_; refine JK 11 (by kernel_rfl) (by kernel_rfl) ?_
   refine Jd rfl rfl rfl (JD rfl rfl rfl) ?_; refine Jd rfl rfl rfl (Jh (v := KP 1 p) rfl (.inl (List.mem_cons_of_mem _ (List.mem_append_right _ List.mem_cons_self))) rfl rfl) ?_
   refine Jd rfl rfl rfl (Ju (j := 0) rfl hst rfl rfl rfl (by first | rfl | omega) (Nat.lt_succ_self 0)) ?_; refine Jd rfl rfl rfl (Qp oR rfl hst (show [x0][0]? = some x0 from rfl) rfl rfl) ?_; refine Jd rfl rfl rfl (Jb (xs := (XC items i).cells) (n := 7) rfl (kn 0 rfl) rfl rfl (XC items i).len) ?_; refine QZ rfl rfl rfl (enters_of Tryz.func216 (by kernel_rfl) rfl) hput oR ?_; refine Jd rfl rfl rfl (Ji rfl) ?_; refine Jd rfl rfl rfl (JM rfl rfl) ?_; refine Jd rfl rfl rfl (JM rfl rfl) ?_; refine Jd rfl rfl rfl (J9 rfl) ?_; refine Jd rfl rfl rfl (J9 rfl) ?_; refine JW ?_; refine JC 4 rfl ?_; refine Qh (T := WE r2 (WR (items.take i) x0) row own) (L0 := _ :: [WD r1 (Ty.mk k (n : Int) p [x0])]) (Rl := []) List.perm_middle.symm rfl rfl rfl Jim (vx hb1 (s2 := Vp (XC items i) x0) (by omega)) oN fun x => ?_
   obtain ⟨rowx, hbx⟩ := x
   refine JC 5 rfl ?_; refine J2 (show _ = Value.int .i64 ((i + 1 : Nat) : Int) from by rw [wrap_i64 (by omega) (by omega)]; congr 1 <;> omega) ?_; refine Jx 2 rfl ?_; refine Jz ?_; refine vu (L' := WE r2 (WR (items.take (i + 1)) x0) rowx true ++ [WD r1 (Ty.mk k (n : Int) p [x0])]) (by rw [hsn]; exact (List.Sublist.refl _).append (.cons _ (List.Sublist.refl _))) ?_; exact Jv (i + 1, rowx, true) ⟨by simp only; omega, by simp only; rw [hsn]; exact hbx⟩ (by simp only; omega) (lK rfl) (List.Sublist.refl _) (fun _ _ h => h)
  ·refine JP 6 rfl ?_
   obtain rfl : i = items.length := by omega
   rw [List.take_length, ← hC] at hb1; rw [List.take_length, ← hC]; refine JL [WD r1 (Ty.mk k (n : Int) p [x0])] [(0, .turn), (1, .grow (Qf (Jjc (Y0 C)) (fun x => rV x) (fun x => rL x))), (2, .pure), (3, .pure), (4, .pure), (5, .pure), (6, .pure), (7, .pure), (8, .pure), (9, .pure), (10, .pure)] 11 [2, 3, 4, 5, 6, 7, 0, 1, 8, 9, 10] (by kernel_rfl) (by kernel_rfl) (fun p hp => List.mem_append_right _ hp) ?_
   refine Jn (k := 2) rfl rfl rfl rfl rfl (fun _ hS => (JD rfl rfl rfl)) ?_; refine Jn (k := 3) rfl rfl rfl rfl rfl (fun E' hS => Jh (v := .int .i64 (n : Int)) rfl (.inl (hS _ List.mem_cons_self)) rfl rfl) ?_
   refine Jn (k := 4) rfl rfl rfl rfl rfl (fun _ hS => (JD rfl rfl rfl)) ?_; refine Jn (k := 5) rfl rfl rfl rfl rfl (fun E' hS => Jh (v := KP 1 p) rfl (.inl (hS _ List.mem_cons_self)) rfl rfl) ?_
   refine Jn (k := 6) rfl rfl rfl rfl rfl (fun E' hS => Ju (j := 0) rfl hst rfl rfl rfl (by first | rfl | omega) (Nat.lt_succ_self 0)) ?_; refine Jn (k := 7) rfl rfl rfl rfl rfl (fun E' hS => Qp oR rfl hst (show [x0][0]? = some x0 from rfl) rfl rfl) ?_; refine Jqe (k := 0) (T0 := WE r2 C row own) (L0 := [WD r1 (Ty.mk k (n : Int) p [x0])]) (Rl := []) (List.Perm.refl _) rfl rfl rfl rfl rfl Jo8 (Jgh hb1 (by omega)) oN (fun _ p hp => hp) fun u => ?_; refine KT (k := 1) rfl rfl rfl rfl rfl (enters_of Tryz.func218 (by kernel_rfl) rfl) (Jqh (s := C) (by omega)) oN fun x => ?_; refine Jl0 (k := 8) rfl rfl rfl rfl rfl (enters_of Tryz.func221 (by kernel_rfl) rfl) hSz (fun q hq => .inr hq) ?_; refine Jn (k := 9) rfl rfl rfl rfl rfl (fun _ _ => (J0 rfl rfl rfl)) ?_; refine Wu (show _ = Value.int .i64 ((n * z : Nat) : Int) from congrArg (Value.int .i64) (by rw [← Int.natCast_mul]; exact wrap_i64 (by omega) (by omega))) ?_; refine Qq (k := 10) rfl rfl rfl rfl rfl (enters_of Tryz.func220 (by kernel_rfl) rfl) (Jqa (n := n * z) (by omega)) ?_; refine Ko ?_; refine Jg rfl rfl rfl Jij (vw hcn (by omega) (KJ x.2 (by decide)) (Zs _)) (fun q hq => .inl (List.mem_append_left _ hq)) ?_; refine Jx 4 rfl ?_; refine pT rfl rfl rfl fun w1 hs1 => ?_; refine ⟨?_, hs1.keep⟩; rw [if_pos hp]; (try rw [← hz]); (try rw [← hC]); rfl
section
variable {R : Jm} {k n : Int} {p : Pl} {ins : List Ty} {a b c d : Nat} {bits : List Bool} {pb : Pl} {items : List Vl} {pi : Pl} {pick : Int} {s : BS}
theorem J2s (h : PureR Tryz.prog 161 [Ty.val (.mk k n p ins), KP items.length pi].toArray (J5 s) R) : PureR Tryz.prog 160 [Ty.val (.mk k n p ins), Vl.val (.mk a b c d bits pb items pi pick)].toArray (J5 s) R := by
 refine Ja Tryz.func160 rfl rfl fun w => ?_; refine J8 ?_; refine Jo 2 rfl ?_; refine LN rfl fun r1 => ?_; refine LN rfl fun r2 => ?_; refine JC 5 rfl ?_; refine LR rfl (Jb (xs := (Ty.mk k n p ins).cells) (n := 3) rfl (kn 1 rfl) rfl rfl (Ty.mk k n p ins).len) ?_
 refine LS 2 [0] rfl rfl ?_; refine Jg rfl rfl rfl (enters_of Tryz.func161 (by kernel_rfl) rfl) h oR ?_; refine Jx 4 rfl ?_; refine pT rfl rfl rfl fun w1 hs1 => ?_; exact ⟨rfl, hs1.keep⟩
theorem J2t (hs : Seg R items.length (Q7 items) pi) (h32 : s.length = 32) (hl : items.length ≤ 512) (h : PureR Tryz.prog 161 [Ty.val (.mk k n p ins), KP items.length pi].toArray (J5 s) R) : PureR Tryz.prog 162 [Ty.val (.mk k n p ins), Vl.val (.mk a b c d bits pb items pi pick)].toArray (J5 (Yx s items.length)) R := by
 refine Ja Tryz.func162 rfl rfl fun w => ?_; refine J8 ?_; refine Jo 2 rfl ?_; refine LN rfl fun r1 => ?_; refine LN rfl fun r2 => ?_; refine JI 4 rfl ?_
 refine JL [] [(1, .pure), (4, .pure), (6, .pure), (7, .pure), (8, .pure)] 9 [0, 1, 2, 4, 5, 6, 3, 7, 8] (by kernel_rfl) (by kernel_rfl) (by first | exact (fun _ h => absurd h List.not_mem_nil) | simp [SubS] | (intro p hp; simp [hp])) ?_; refine KB (k := 0) rfl rfl rfl rfl rfl (Jb (xs := (Ty.mk k n p ins).cells) (n := 3) rfl (kn 1 rfl) rfl rfl (Ty.mk k n p ins).len) ?_
 refine Jn (k := 1) rfl rfl rfl rfl rfl (fun _ hS => (JD rfl rfl rfl)) ?_; refine KB (k := 2) rfl rfl rfl rfl rfl (Jh rfl (kn 0 rfl) rfl rfl) ?_
 refine Jn (k := 4) rfl rfl rfl rfl rfl (fun _ hS => (JD rfl rfl rfl)) ?_; refine KB (k := 5) rfl rfl rfl rfl rfl (Jh rfl (kn 0 rfl) rfl rfl) ?_; refine Jn (k := 6) rfl rfl rfl rfl rfl (fun _ hS => (J3 rfl hs rfl)) ?_; refine KH (k := 3) rfl rfl rfl rfl rfl (enters_of Tryz.func161 (by kernel_rfl) rfl) h oR ?_; refine Qq (k := 7) rfl rfl rfl rfl rfl Jo6 (Jpz (by omega) (by omega)) ?_; refine Jn (k := 8) rfl rfl rfl rfl rfl (fun _ hS => (J9 rfl)) ?_; refine Ko ?_; refine Jx 3 rfl ?_; refine pT rfl rfl rfl fun w1 hs1 => ?_; exact ⟨rfl, hs1.keep⟩
theorem J2u (h : PureR Tryz.prog 165 [Ty.val (.mk k n p ins), KP bits.length pb].toArray (J5 s) R) : PureR Tryz.prog 164 [Ty.val (.mk k n p ins), Vl.val (.mk a b c d bits pb items pi pick)].toArray (J5 s) R := by
 refine Ja Tryz.func164 rfl rfl fun w => ?_; refine J8 ?_; refine Jo 2 rfl ?_; refine LN rfl fun r1 => ?_; refine LN rfl fun r2 => ?_; refine JC 5 rfl ?_; refine LR rfl (Jb (xs := (Ty.mk k n p ins).cells) (n := 3) rfl (kn 1 rfl) rfl rfl (Ty.mk k n p ins).len) ?_
 refine LS 2 [0] rfl rfl ?_; refine Jg rfl rfl rfl (enters_of Tryz.func165 (by kernel_rfl) rfl) h oR ?_; refine Jx 4 rfl ?_; refine pT rfl rfl rfl fun w1 hs1 => ?_; exact ⟨rfl, hs1.keep⟩
theorem J2v (hs : Seg R bits.length (jt bits) pb) (h32 : s.length = 32) (hl : bits.length ≤ 512) (h : PureR Tryz.prog 165 [Ty.val (.mk k n p ins), KP bits.length pb].toArray (J5 s) R) : PureR Tryz.prog 166 [Ty.val (.mk k n p ins), Vl.val (.mk a b c d bits pb items pi pick)].toArray (J5 (Yx s bits.length)) R := by
 refine Ja Tryz.func166 rfl rfl fun w => ?_; refine J8 ?_; refine Jo 2 rfl ?_; refine LN rfl fun r1 => ?_; refine LN rfl fun r2 => ?_; refine JI 4 rfl ?_
 refine JL [] [(1, .pure), (4, .pure), (6, .pure), (7, .pure), (8, .pure)] 9 [0, 1, 2, 4, 5, 6, 3, 7, 8] (by kernel_rfl) (by kernel_rfl) (by first | exact (fun _ h => absurd h List.not_mem_nil) | simp [SubS] | (intro p hp; simp [hp])) ?_; refine KB (k := 0) rfl rfl rfl rfl rfl (Jb (xs := (Ty.mk k n p ins).cells) (n := 3) rfl (kn 1 rfl) rfl rfl (Ty.mk k n p ins).len) ?_
 refine Jn (k := 1) rfl rfl rfl rfl rfl (fun _ hS => (JD rfl rfl rfl)) ?_; refine KB (k := 2) rfl rfl rfl rfl rfl (Jh rfl (kn 0 rfl) rfl rfl) ?_
 refine Jn (k := 4) rfl rfl rfl rfl rfl (fun _ hS => (JD rfl rfl rfl)) ?_; refine KB (k := 5) rfl rfl rfl rfl rfl (Jh rfl (kn 0 rfl) rfl rfl) ?_; refine Jn (k := 6) rfl rfl rfl rfl rfl (fun _ hS => (J3 rfl hs rfl)) ?_; refine KH (k := 3) rfl rfl rfl rfl rfl (enters_of Tryz.func165 (by kernel_rfl) rfl) h oR ?_; refine Qq (k := 7) rfl rfl rfl rfl rfl Jo6 (Jpz (by omega) (by omega)) ?_; refine Jn (k := 8) rfl rfl rfl rfl rfl (fun _ hS => (J9 rfl)) ?_; refine Ko ?_; refine Jx 3 rfl ?_; refine pT rfl rfl rfl fun w1 hs1 => ?_; exact ⟨rfl, hs1.keep⟩
theorem J2w {l : List BS} (hst : Seg R ins.length (Jco ins) p) (hl : l.length ≤ ins.length) (hn : ins.length ≤ 16) (h32 : ∀ s ∈ l, s.length = 32) (h : PureT (α := jM l) Tryz.prog 169 [Ty.val (.mk k n p ins), KP items.length pi].toArray (fun x => rV x) [] (fun x => rL x) R) :
  PureR Tryz.prog 167 [Ty.val (.mk k n p ins), Vl.val (.mk a b c d bits pb items pi pick)].toArray (J5 (Ve l ins.length)) R := by
 refine Ja Tryz.func167 rfl rfl fun w => ?_; refine J8 ?_; refine Jo 2 rfl ?_; refine LN rfl fun r1 => ?_; refine LN rfl fun r2 => ?_; refine JI 4 rfl ?_
 refine JL [] [(1, .pure), (3, .grow (Qf (Jjc l) (fun x => rV x) (fun x => rL x))), (4, .pure), (6, .pure), (8, .pure)] 9 [0, 1, 2, 4, 5, 6, 3, 7, 8] (by kernel_rfl) (by kernel_rfl) (by first | exact (fun _ h => absurd h List.not_mem_nil) | simp [SubS] | (intro p hp; simp [hp])) ?_; refine KB (k := 0) rfl rfl rfl rfl rfl (Jb (xs := (Ty.mk k n p ins).cells) (n := 3) rfl (kn 1 rfl) rfl rfl (Ty.mk k n p ins).len) ?_
 refine Jn (k := 1) rfl rfl rfl rfl rfl (fun _ hS => (JD rfl rfl rfl)) ?_; refine KB (k := 2) rfl rfl rfl rfl rfl (Jh rfl (kn 0 rfl) rfl rfl) ?_
 refine Jn (k := 4) rfl rfl rfl rfl rfl (fun _ hS => (JD rfl rfl rfl)) ?_; refine KB (k := 5) rfl rfl rfl rfl rfl (Jh rfl (kn 1 rfl) rfl rfl) ?_; refine Jn (k := 6) rfl rfl rfl rfl rfl (fun _ hS => (J3 rfl hst rfl)) ?_; refine KT (k := 3) rfl rfl rfl rfl rfl (enters_of Tryz.func169 (by kernel_rfl) rfl) h (fun q hq => .inr hq) fun x => ?_; refine KH (k := 7) rfl rfl rfl rfl rfl Jij (vw hl (by omega) (KJ x.2 (by decide)) h32) (fun q hq => .inl (List.mem_append_left _ hq)) ?_; refine Jn (k := 8) rfl rfl rfl rfl rfl (fun _ hS => (J9 rfl)) ?_; refine Ko ?_; refine Jx 3 rfl ?_; refine pT rfl rfl rfl fun w1 hs1 => ?_; exact ⟨rfl, hs1.keep⟩
theorem J2x {m : Nat} {y : Ty} {x : Vl} (hst : Seg R ins.length (Jco ins) p) (hs : Seg R items.length (Q7 items) pi) (hm : m ≤ 8) (hy : ins[m]? = some y) (hx : items[0]? = some x) (h32 : s.length = 32) (h : PureR Tryz.prog 100 [y.val, x.val].toArray (J5 s) R) :
  PureR Tryz.prog 170 [Ty.val (.mk k n p ins), Vl.val (.mk a b c d bits pb items pi (m : Int))].toArray (J5 (Yx s m)) R := by
 have hm1 := (List.getElem?_eq_some_iff.1 hy).1
 have hm2 := (List.getElem?_eq_some_iff.1 hx).1
 refine Ja Tryz.func170 rfl rfl fun w => ?_; refine J8 ?_; refine Jo 2 rfl ?_; refine LN rfl fun r1 => ?_; refine LN rfl fun r2 => ?_; refine JI 4 rfl ?_
 refine JL [] [(0, .pure), (2, .pure), (4, .pure), (6, .pure), (8, .pure), (11, .pure), (13, .pure), (14, .pure)] 15 [0, 1, 2, 3, 4, 5, 6, 7, 8, 9, 11, 12, 10, 13, 14] (by kernel_rfl) (by kernel_rfl) (by first | exact (fun _ h => absurd h List.not_mem_nil) | simp [SubS] | (intro p hp; simp [hp])) ?_
 refine Jn (k := 0) rfl rfl rfl rfl rfl (fun _ hS => (JD rfl rfl rfl)) ?_; refine KB (k := 1) rfl rfl rfl rfl rfl (Jh rfl (kn 1 rfl) rfl rfl) ?_
 refine Jn (k := 2) rfl rfl rfl rfl rfl (fun _ hS => (JD rfl rfl rfl)) ?_; refine KB (k := 3) rfl rfl rfl rfl rfl (Jh rfl (kn 0 rfl) rfl rfl) ?_; refine Jn (k := 4) rfl rfl rfl rfl rfl (fun E' hS => Ju (j := m) rfl hst rfl rfl rfl rfl hm1) ?_; refine KB (k := 5) rfl rfl rfl rfl rfl (Qp oR rfl hst hy rfl rfl) ?_
 refine Jn (k := 6) rfl rfl rfl rfl rfl (fun _ hS => (JD rfl rfl rfl)) ?_; refine KB (k := 7) rfl rfl rfl rfl rfl (Jh rfl (kn 0 rfl) rfl rfl) ?_
 refine Jn (k := 8) rfl rfl rfl rfl rfl (fun E' hS => Ju (j := 0) rfl hs rfl rfl rfl (by first | rfl | omega) hm2) ?_; refine KB (k := 9) rfl rfl rfl rfl rfl (Wt oR rfl hs hx rfl rfl) ?_
 refine Jn (k := 11) rfl rfl rfl rfl rfl (fun _ hS => (JD rfl rfl rfl)) ?_; refine KB (k := 12) rfl rfl rfl rfl rfl (Jh rfl (kn 0 rfl) rfl rfl) ?_; refine KH (k := 10) rfl rfl rfl rfl rfl Jif h oR ?_; refine Qq (k := 13) rfl rfl rfl rfl rfl Jo6 (Jpz (by omega) (by omega)) ?_; refine Jn (k := 14) rfl rfl rfl rfl rfl (fun _ hS => (J9 rfl)) ?_; refine Ko ?_; refine Jx 3 rfl ?_; refine pT rfl rfl rfl fun w1 hs1 => ?_; exact ⟨rfl, hs1.keep⟩
theorem XE {g : FuncId} (hlk : Kw XV (.int .i64 k) (rootM.toList.map QU) = some (.func (.func g) #[] #[])) (eg : Enters Tryz.prog g) (hg : PureR Tryz.prog g [Ty.val (.mk k n p ins), Vl.val (.mk a b c d bits pb items pi pick)].toArray (J5 s) R) :
  PureR Tryz.prog 100 [Ty.val (.mk k n p ins), Vl.val (.mk a b c d bits pb items pi pick)].toArray (J5 s) R := by
 refine Ja Tryz.func100 rfl rfl fun w => ?_; refine J8 ?_; refine Jo 2 rfl ?_; refine LN rfl fun r1 => ?_; refine LN rfl fun r2 => ?_; refine JC 5 rfl ?_; refine ZK rfl rfl fun rm => ?_; refine KF (q := 0) (key := .int .i64 1) (val := .func (.func 159) #[] #[]) (Wa (t := 3) (by kernel_rfl)) rfl rfl rfl rfl rfl rfl ⟨_, rfl⟩ (by intro e he; simp at he) rfl rfl ?_
 refine KF (q := 0) (key := .int .i64 2) (val := .func (.func 159) #[] #[]) (Wa (t := 3) (by kernel_rfl)) rfl rfl rfl rfl rfl rfl ⟨_, rfl⟩ (by intro e he; simp at he; rcases he with rfl <;> exact ⟨_, rfl⟩) rfl rfl ?_
 refine KF (q := 0) (key := .int .i64 3) (val := .func (.func 160) #[] #[]) (Wa (t := 3) (by kernel_rfl)) rfl rfl rfl rfl rfl rfl ⟨_, rfl⟩ (by intro e he; simp at he; rcases he with rfl | rfl <;> exact ⟨_, rfl⟩) rfl rfl ?_
 refine KF (q := 0) (key := .int .i64 4) (val := .func (.func 162) #[] #[]) (Wa (t := 3) (by kernel_rfl)) rfl rfl rfl rfl rfl rfl ⟨_, rfl⟩ (by intro e he; simp at he; rcases he with rfl | rfl | rfl <;> exact ⟨_, rfl⟩) rfl rfl ?_
 refine KF (q := 0) (key := .int .i64 5) (val := .func (.func 164) #[] #[]) (Wa (t := 3) (by kernel_rfl)) rfl rfl rfl rfl rfl rfl ⟨_, rfl⟩ (by intro e he; simp at he; rcases he with rfl | rfl | rfl | rfl <;> exact ⟨_, rfl⟩) rfl rfl ?_
 refine KF (q := 0) (key := .int .i64 6) (val := .func (.func 166) #[] #[]) (Wa (t := 3) (by kernel_rfl)) rfl rfl rfl rfl rfl rfl ⟨_, rfl⟩ (by intro e he; simp at he; rcases he with rfl | rfl | rfl | rfl | rfl <;> exact ⟨_, rfl⟩) rfl rfl ?_
 refine KF (q := 0) (key := .int .i64 7) (val := .func (.func 167) #[] #[]) (Wa (t := 3) (by kernel_rfl)) rfl rfl rfl rfl rfl rfl ⟨_, rfl⟩ (by intro e he; simp at he; rcases he with rfl | rfl | rfl | rfl | rfl | rfl <;> exact ⟨_, rfl⟩) rfl rfl ?_
 refine KF (q := 0) (key := .int .i64 8) (val := .func (.func 170) #[] #[]) (Wa (t := 3) (by kernel_rfl)) rfl rfl rfl rfl rfl rfl ⟨_, rfl⟩ (by intro e he; simp at he; rcases he with rfl | rfl | rfl | rfl | rfl | rfl | rfl <;> exact ⟨_, rfl⟩) rfl rfl ?_; change HL _ _ _ ((rm, .map rootM 8) :: _) _ _ _ _; refine Xj 9 [2] rfl rfl ?_; refine LR rfl (Vz (v := .func (.func g) #[] #[]) (Wa (t := 3) (by kernel_rfl)) rfl rfl (kn 0 rfl) rfl rfl ⟨_, rfl⟩ Jlt (by show (Kw XV (.int .i64 k) (rootM.toList.map QU)).getD _ = _; rw [hlk]; rfl)) ?_; refine LS 2 [2, 1] rfl rfl ?_; refine Jg rfl rfl rfl eg hg oR ?_; refine Jx 4 rfl ?_; refine pT rfl rfl rfl fun w1 hs1 => ?_; exact ⟨rfl, hs1.keep⟩
end
theorem Jl2 {l : List Vl} {k pick : Int} {ins : List Ty} (h : l.length = 1) : (Ka l k pick ins 0).headD [] = KS (XC l 0) (JT k pick ins 0) := by
 match l, h with
 | [x], _ => rw [Ka]; rfl
theorem Jqj {a b c d : Nat} {bits : List Bool} {pb : Pl} {items : List Vl} {pi : Pl} {pick k n : Int} {p : Pl} {ins : List Ty} (hcz : chk (.mk k n p ins) 0 = 0) (hfit : KO (.mk a b c d bits pb items pi pick) (.mk k n p ins) = 0) (hk : k = 3 ∨ k = 4 ∨ k = 7) : (WS k n ins items (Ka items k 0 ins 0)).length = 32 := by
 obtain ⟨q1, q2, q3⟩ := wI hcz hfit
 have hrow := fun (j : Nat) x (h : items[j]? = some x) => Ji8 hcz hfit (by omega) h
 have hrs : ∀ s ∈ Ka items k 0 ins 0, s.length = 32 := fun s hs => by
  obtain ⟨j, x, h1, rfl⟩ := Yf hs
  rw [Nat.zero_add]
  obtain ⟨_, r1, r2, r3⟩ := hrow j x h1
  exact Xc x _ 0 r2 r3
 have hrl := Wf items k 0 ins 0
 unfold WS
 by_cases h7 : k = 7
 ·rw [if_pos h7]
  exact VH (by have := q3 h7; omega) hrs
 ·rw [if_neg h7]
  obtain ⟨w1, w2, w3, w4⟩ := q1 (by omega)
  match ins, w4 with
  | [x0], _ =>
  rw [show [x0].getD 0 default = x0 from rfl]
  by_cases hp : Xv x0 = true
  ·rw [if_pos hp]
   have hc0 := Zt hcz _ List.mem_cons_self
   obtain ⟨f1, f2, f3, f4⟩ := Zu hc0 hp
   refine VH ?_ (Zs _); rw [YY]
   unfold Jas
   have hz : ∀ v ∈ items, (Vp v x0).length = (KV x0).toNat := fun v hv => by
    obtain ⟨j, hj⟩ := List.getElem?_of_mem hv
    have hg := (hrow j v hj).2.2.2
    rw [YZ h7 (by omega)] at hg
    have := f4 v hg
    omega
   rw [jL hz]
   have hm : items.length * (KV x0).toNat ≤ n.toNat * (KV x0).toNat := Nat.mul_le_mul_right _ (by omega)
   omega
  ·rw [if_neg hp]
   exact VH (by omega) hrs
set_option maxHeartbeats 1000000 in
theorem Jy2 {R : Jm} {v : Vl} (hv : v.In R) : ∀ (t : Ty) (dp : Nat), t.In R → chk t (dp : Int) = 0 → KO v t = 0 → Y6 v ≤ 20000 → PureR Tryz.prog 100 [t.val, v.val].toArray (J5 (KS v t)) R := by
 have hv0 := hv
 induction hv with
 | @mk a b c d bits pb items pi pick ha hb hcc hd hlb hsb hl hs hp hi ih =>
 intro t dp ht hck hfit hw
 obtain ⟨k, n, p, ins⟩ := t
 have ht0 := ht
 cases ht with
 | mk hk hn hlt hst hit =>
 obtain ⟨hk8, ho, h6, hci⟩ := Va hck
 obtain ⟨hf1, hf2, hf3⟩ := Xa hfit
 obtain ⟨m1, m2, m3, m4⟩ := Jd9 hck hfit
 obtain ⟨q1, q2, q3⟩ := wI hck hfit
 have hcz := Jat hck
 have hrow := fun (h8 : k ≠ 8) (j : Nat) x (h : items[j]? = some x) => Ji8 hcz hfit h8 h
 have hwi : ∀ x ∈ items, Y6 x ≤ 20000 := fun x hx => Nat.le_trans (Jgi hx) hw
 have hrec : k ≠ 8 → ∀ (i : Nat) x, items[i]? = some x → PureR Tryz.prog 100 [(JT k 0 ins i).val, x.val].toArray (J5 (KS x (JT k 0 ins i))) R := fun h8 i x hx => by
  obtain ⟨_, r1, r2, r3⟩ := hrow h8 i x hx
  have hm := List.mem_of_getElem? hx
  exact ih x hm (hi x hm) _ 0 (hit _ r1) r2 r3 (hwi x hm)
 have hlen := Xc _ _ dp hck hfit
 rw [Xw] at hlen ⊢
 by_cases h1 : k = 1
 ·subst h1
  rw [if_pos (.inl rfl)]; exact XE rfl (enters_of Tryz.func159 (by kernel_rfl) rfl) (Jd3 _ hv0).toR
 by_cases h2 : k = 2
 ·subst h2
  rw [if_pos (.inr rfl)]; exact XE rfl (enters_of Tryz.func159 (by kernel_rfl) rfl) (Jd3 _ hv0).toR
 rw [if_neg (by omega)] at hlen ⊢
 have hone : k ≠ 7 → k ≠ 8 → ∀ x0, ins = [x0] → ∀ N : Nat, n = (N : Int) → N ≤ 512 → items.length ≤ N → PureR Tryz.prog 161 [Ty.val (.mk k n p ins), KP items.length pi].toArray (J5 (WS k n ins items (Ka items k 0 ins 0))) R := fun h7 h8 x0 e N en hN hle => by
  subst e; subst en; refine Jy1 ht0 h7 h8 (Zt hcz _ List.mem_cons_self) hs hle hN (fun v hv => ?_) hwi hi fun i x hx => ?_
  ·obtain ⟨j, hj⟩ := List.getElem?_of_mem hv
   have := (hrow h8 j v hj).2.2.2
   rwa [YZ h7 h8] at this
  ·have := hrec h8 i x hx
   rwa [YZ h7 h8] at this
 by_cases h4 : k = 4
 ·subst h4
  obtain ⟨w1, w2, w3, w4⟩ := q1 (.inr rfl)
  rw [if_pos rfl, wG (by decide)] at hlen ⊢
  have hrl : (WS 4 n ins items (Ka items 4 0 ins 0)).length = 32 := Jqj hcz hfit (.inr (.inl rfl))
  obtain ⟨x0, hx0⟩ := List.length_eq_one_iff.1 w4
  exact XE rfl (enters_of Tryz.func162 (by kernel_rfl) rfl) (J2t hs hrl m1 (hone (by decide) (by decide) x0 hx0 n.toNat (by omega) (by omega) (by omega)))
 rw [if_neg h4] at hlen ⊢
 by_cases h5 : k = 5
 ·subst h5
  obtain ⟨w1, w2, w3⟩ := q2 (.inl rfl)
  rw [if_pos rfl] at hlen ⊢; refine XE rfl (enters_of Tryz.func164 (by kernel_rfl) rfl) (J2u ?_)
  have := Jjd (k := 5) (p := p) (ins := ins) (l := bits) (n := n.toNat) (by omega) (by omega) hsb
  rwa [show ((n.toNat : Nat) : Int) = n by omega] at this
 rw [if_neg h5] at hlen ⊢
 by_cases h6 : k = 6
 ·subst h6
  obtain ⟨w1, w2, w3⟩ := q2 (.inr rfl)
  rw [if_pos rfl] at hlen ⊢; refine XE rfl (enters_of Tryz.func166 (by kernel_rfl) rfl) (J2v hsb (VH (qo w3) (Zs _)) m2 ?_)
  have := Jjd (k := 6) (p := p) (ins := ins) (l := bits) (n := n.toNat) (by omega) (by omega) hsb
  rwa [show ((n.toNat : Nat) : Int) = n by omega] at this
 rw [if_neg h6] at hlen ⊢
 by_cases h8 : k = 8
 ·subst h8
  obtain ⟨w1, w2, w3, w4⟩ := m4 rfl
  obtain ⟨m, rfl⟩ : ∃ m : Nat, pick = (m : Int) := ⟨pick.toNat, by omega⟩
  have hx8 := XD (l := items) (i := 0) (by omega)
  have hg := Xt (j := 0) hf3 hx8.1
  have hin := qm (v := .mk a b c d bits pb items pi (m : Int)) (i := 0) hcz hf2 (show 0 < items.length by omega)
  have hty := QR hin
  have hX := ih _ hx8.2 (hi _ hx8.2) _ 0 (hit _ hty.2) (Zt hcz _ hty.2) hg (hwi _ hx8.2)
  have hXl := Xc _ _ 0 (Zt hcz _ hty.2) hg
  rw [if_pos rfl, Jl2 w1, Int.toNat_natCast]; exact XE rfl (enters_of Tryz.func170 (by kernel_rfl) rfl) (J2x hst hs (by omega) (show ins[m]? = some _ from hty.1) hx8.1 hXl hX)
 rw [if_neg h8, wG h8] at hlen ⊢
 by_cases h3 : k = 3
 ·subst h3
  obtain ⟨w1, w2, w3, w4⟩ := q1 (.inl rfl)
  obtain ⟨x0, hx0⟩ := List.length_eq_one_iff.1 w4
  exact XE rfl (enters_of Tryz.func160 (by kernel_rfl) rfl) (J2s (hone (by decide) (by decide) x0 hx0 n.toNat (by omega) (by omega) (by omega)))
 have h7 : k = 7 := by omega
 subst h7
 obtain ⟨w1, w2, w3⟩ := q3 rfl
 have hM : WS 7 n ins items (Ka items 7 0 ins 0) = Ve (Ka items 7 0 ins 0) ins.length := by unfold WS; rw [if_pos rfl]
 rw [hM]
 have hrl := Wf items 7 0 ins 0
 refine XE rfl (enters_of Tryz.func167 (by kernel_rfl) rfl) (J2w hst (by omega) w3 (fun s hs => ?_) (zG ht0 (by decide) hs (by omega) (fun i hi => ?_) (hrec (by decide))))
 ·obtain ⟨j, x, h1, rfl⟩ := Yf hs
  rw [Nat.zero_add]
  obtain ⟨_, r1, r2, r3⟩ := hrow (by decide) j x h1
  exact Xc x _ 0 r2 r3
 ·show i < ins.length
  omega
def Yh (t : Ty) (v : Vl) : BS × Int := if V5 t v ≠ 0 then ([], V5 t v) else (KS v t, 0)
theorem Jvj {R : Jm} {t : Ty} {v : Vl} (ht : t.In R) (hv : v.In R) (hw : Y6 v ≤ 20000) : PureR Tryz.prog 45 [t.val, v.val].toArray (Zy (Yh t v)) R := by
 have h1 := Jpq ht hv
 have h2 := fun h => Jy2 hv t 0 ht (Yz (t := t) (v := v) h).1 (Yz h).2 hw
 unfold Yh
 generalize V5 t v = e at h1 h2 ⊢
 generalize KS v t = s at h2 ⊢
 obtain ⟨k, n, p, ins⟩ := t
 obtain ⟨a, b, c, d, bits, pb, items, pi, pick⟩ := v
 refine Ja Tryz.func45 rfl rfl fun w => ?_; refine J8 ?_; refine Jo 2 rfl ?_; refine LN rfl fun r1 => ?_; refine LN rfl fun r2 => ?_; refine Xj 9 [1, 0] rfl rfl ?_; refine Jg rfl rfl rfl (enters_of Tryz.func99 (by kernel_rfl) rfl) h1 oR ?_; refine JI 9 rfl ?_; refine cD (fun g => ?_) fun g => ?_
 refine Kn 9 rfl ?_; refine Jf rfl rfl (.cons (Jj rfl) (.cons (Jj rfl) .nil)) (fun w1 hs1 => ?_); refine ⟨?_, hs1.keep⟩; rw [if_pos (by omega)]; rfl
 ·refine X6 6 [1, 0] rfl rfl ?_; refine Jg rfl rfl rfl Jif (h2 (by omega)) oR ?_; refine Jx 5 rfl ?_; refine Jf rfl rfl (.cons (Jj rfl) (.cons (Jj rfl) .nil)) (fun w1 hs1 => ?_); refine ⟨?_, hs1.keep⟩; rw [if_neg (by omega)]; rfl
theorem Jjf (l : List Vl) : (vz l).length = l.length := by rw [WT, List.length_map]
theorem Jxj : ∀ l : List Vl, (∀ x ∈ l, Y6 (ZD x) = Y6 x) → wL (vz l) = wL l
 | [], _ => by rw [vz]
 | x :: xs, h => by rw [vz, wL, wL, h x List.mem_cons_self, Jxj xs fun y hy => h y (List.mem_cons_of_mem _ hy)]
theorem J1b (v : Vl) : Y6 (ZD v) = Y6 v := by
 induction v using Vl.ind with
 | h a b c d bits pb items pi pick ih => rw [WF, Y6, Y6, Jxj items ih]
theorem Jjg (k pick : Int) (ins : List Ty) : ∀ (l : List Vl), (∀ x ∈ l, ∀ t, KO (ZD x) t = KO x t) → ∀ i : Nat, QE (vz l) k pick ins i = QE l k pick ins i
 | [], _, i => by rw [vz]
 | x :: xs, h, i => by rw [vz, QE, QE, h x List.mem_cons_self, Jjg k pick ins xs fun y hy => h y (List.mem_cons_of_mem _ hy)]
theorem Jy3 (k n : Int) (m : Nat) (v : Vl) : ofT k n m (ZD v) = ofT k n m v := by
 obtain ⟨a, b, c, d, bits, pb, items, pi, pick⟩ := v
 rw [WF]; rw [Vv k n m a b c d bits none (vz items) none pick _ rfl, Vv k n m a b c d bits pb items pi pick _ rfl]; simp only [Vf, Jjf]
theorem Jy4 (v : Vl) : ∀ t, KO (ZD v) t = KO v t := by
 induction v using Vl.ind with
 | h a b c d bits pb items pi pick ih =>
 intro t
 obtain ⟨k, n, p, ins⟩ := t
 have hl := Jjf items
 have ho := Jy3 k n ins.length (.mk a b c d bits pb items pi pick)
 rw [WF] at ho ⊢; rw [KO, KO, hl, Jjg k pick ins items ih, ho]
theorem Jqk (t : Ty) : (Y2 t).k = t.k := by cases t; rw [Y2]; rfl
theorem Jxk (t : Ty) : (Y2 t).n = t.n := by cases t; rw [Y2]; rfl
theorem Jjh (t : Ty) : (Y2 t).ins = WU t.ins := by cases t; rw [Y2]; rfl
theorem erT_def : Y2 default = default := by show Y2 (.mk 0 0 none []) = .mk 0 0 none []; rw [Y2, WU]
mutual
theorem Jax : ∀ (t : Ty) (d : Int), chk (Y2 t) d = chk t d
 | .mk k n p ins, d => by rw [Y2, chk, chk, Jef ins, wO]
theorem Jef : ∀ (l : List Ty) (d : Int), XJ (WU l) d = XJ l d
 | [], _ => by rw [WU]
 | x :: xs, d => by rw [WU, XJ, XJ, Jax x, Jef xs]
end
mutual
theorem Jeg : ∀ (t : Ty), Xk (Y2 t) = Xk t
 | .mk k n p ins => by rw [Y2, Xk, Xk, Jeh ins]
theorem Jeh : ∀ (l : List Ty), qd (WU l) = qd l
 | [] => by rw [WU]
 | x :: xs => by rw [WU, qd, qd, Jeg x, Jeh xs]
end
mutual
theorem wQ : ∀ (t : Ty), KV (Y2 t) = KV t
 | .mk k n p ins => by rw [Y2, KV, KV, Jei ins]
theorem Jei : ∀ (l : List Ty), VP (WU l) = VP l
 | [] => by rw [WU]
 | x :: xs => by rw [WU, VP, VP, wQ x, Jei xs]
end
theorem zH (t : Ty) : V1 (Y2 t) = V1 t := by unfold V1; rw [Jax, Jeg]
theorem Jql (t : Ty) : yJ (Y2 t) = yJ t := by unfold yJ; rw [zH, wQ]
theorem Jej : ∀ l : List Ty, Vg (l.map Y2) = Vg l
 | [] => rfl
 | x :: xs => by rw [List.map_cons, Vg, Vg, Jql, Jej xs]
theorem Jek (ins : List Ty) (i : Nat) : (WU ins).getD i default = Y2 (ins.getD i default) := by
 rw [wM, List.getD_eq_getElem?_getD, List.getD_eq_getElem?_getD, List.getElem?_map]
 cases ins[i]? with
 | none => exact erT_def.symm
 | some x => rfl
theorem wR (k pick : Int) (ins : List Ty) (i : Nat) : JT k pick (WU ins) i = Y2 (JT k pick ins i) := by unfold JT; exact Jek ins _
mutual
theorem Jji : ∀ (v : Vl) (t : Ty), KO v (Y2 t) = KO v t
 | .mk a b c d bits pb items pi pick, .mk k n p ins => by rw [Y2, KO, KO, wO, Jel items]
theorem Jel : ∀ (l : List Vl) (k pick : Int) (ins : List Ty) (i : Nat), QE l k pick (WU ins) i = QE l k pick ins i
 | [], _, _, _, _ => by rw [QE, QE]
 | x :: xs, k, pick, ins, i => by rw [QE, QE, wR, Jji x, Jel xs]
end
theorem Jqm (t : Ty) (v : Vl) : V5 (Y2 t) v = V5 t v := by unfold V5; rw [Jax, Jji]
theorem wT (h : Nat) : ∀ (l : List (Ty × BS)) (f th : BS), Zz h (l.map fun p => (Y2 p.1, p.2)) f th = Zz h l f th
 | [], f, th => rfl
 | (x, s) :: l, f, th => by rw [List.map_cons, Zz, Zz, zH, wT h l, wT h l]
mutual
theorem Jjj : ∀ (v : Vl) (t : Ty), Vp v (Y2 t) = Vp v t
 | .mk a b c d bits pb items pi pick, t => by
  have h1 : ((Qj items t.k pick t.ins 0).map fun p => (Y2 p.1, p.2)).headD (default, []) = (fun p : Ty × BS => (Y2 p.1, p.2)) ((Qj items t.k pick t.ins 0).headD (default, [])) := by
   cases Qj items t.k pick t.ins 0 with
   | nil => show (default, []) = (Y2 default, []); rw [erT_def]
   | cons x l => rfl
  have h2 : (((Qj items t.k pick t.ins 0).map fun p => (Y2 p.1, p.2)).map Prod.fst) = ((Qj items t.k pick t.ins 0).map Prod.fst).map Y2 := by rw [List.map_map, List.map_map]; rfl
  rw [Vp, Vp, Jqk, Jxk, Jjh, Jem items, wT, h1, h2, Jej]
theorem Jem : ∀ (l : List Vl) (k pick : Int) (ins : List Ty) (i : Nat), Qj l k pick (WU ins) i = (Qj l k pick ins i).map fun p => (Y2 p.1, p.2)
 | [], _, _, _, _ => by rw [Qj, Qj]; rfl
 | x :: xs, k, pick, ins, i => by rw [Qj, Qj, wR, Jjj x, Jem xs]; rfl
end
theorem Jqn (items : List Vl) (x : Ty) : WR items (Y2 x) = WR items x := by unfold WR; rw [List.map_congr_left fun v _ => Jjj v x]
theorem Jqo (k n : Int) (ins : List Ty) (items : List Vl) (rs : List BS) : WS k n (WU ins) items rs = WS k n ins items rs := by
 unfold WS Xv
 rw [Jek, wO, Jqk, Jqn, wQ]
mutual
theorem Jen : ∀ (v : Vl) (t : Ty), KS v (Y2 t) = KS v t
 | .mk a b c d bits pb items pi pick, t => by rw [KS, KS, Jqk, Jxk, Jjh, zI items, Jqo]
theorem zI : ∀ (l : List Vl) (k pick : Int) (ins : List Ty) (i : Nat), Ka l k pick (WU ins) i = Ka l k pick ins i
 | [], _, _, _, _ => by rw [Ka, Ka]
 | x :: xs, k, pick, ins, i => by rw [Ka, Ka, wR, Jen x, zI xs]
end
theorem Jl3 (t : Ty) (v : Vl) : Yh (Y2 t) v = Yh t v := by unfold Yh; rw [Jqm, Jen]
def wU (x : BS × BS) : Vl := KY [yN x.1, yN x.2] 0
def acV (a : AcE) : Vl := KY [yN a.addr, .mk a.nonce 0 0 0 [] none [] none 0, .mk a.bal.a a.bal.b a.bal.c a.bal.d [] none [] none 0, yN a.code, KY (a.slots.map wU) 0] 0
def Za (l : List AcE) : Vl := KY (l.map acV) 0
theorem Jjk : chk qp 0 = 0 := by decide +kernel
def Q3 (l : List AcE) : BS × Int := if KR l ≠ 0 then ([], KR l) else Yh qp (Za l)
theorem Vl.In.up {R R' : Jm} {v : Vl} (h : v.In R) (hs : ∀ q ∈ R, q ∈ R') : v.In R' := h.mono hs
theorem J1c {s : BS} {r : Nat} {Lr : Jm} (hl : s.length ≤ 100000) (h : (r, Obj.cells (Q7 (s.map ZV)).toArray 0 (0, 0)) ∈ Lr) : Vl.In Lr (.mk 0 0 0 0 [] none (s.map ZV) (some (⟨r, 0, none⟩, s.length)) 0) :=
 .mk u0 u0 u0 u0 (by decide) rfl (by rw [List.length_map]; omega) ⟨by rw [List.length_map]; exact Nat.le_refl _, fun _ => ⟨rfl, _, 0, (0, 0), h, by rw [List.drop_zero, List.toList_toArray, List.take_length]⟩⟩ i0 fun x hx => by
  obtain ⟨b, _, rfl⟩ := List.mem_map.1 hx
  exact (Jxh b).mono fun q hq => absurd hq List.not_mem_nil
def Jqp {s : BS} (hl : s.length ≤ 100000) : VR (yN s) := ⟨_, [(0, .cells (Q7 (s.map ZV)).toArray 0 (0, 0))], J1c hl (List.mem_singleton_self _), Jxi s _⟩
theorem Jqq {Lr : Jm} {its : List Vl} {r e n : Nat} (h : (r, Obj.cells (Q7 its).toArray e (0, 0)) ∈ Lr) (hn : its.length = n) (hl : n ≤ 1000) (hi : ∀ x ∈ its, x.In Lr) : Vl.In Lr (.mk 0 0 0 0 [] none its (some (⟨r, 0, none⟩, n)) 0) :=
 .mk u0 u0 u0 u0 (by decide) rfl (by omega) ⟨Nat.le_of_eq hn, fun _ => ⟨rfl, _, e, (0, 0), h, by rw [List.drop_zero, List.toList_toArray, List.take_length]⟩⟩ i0 hi
theorem Jy5 {us : List Vl} {F yL zL : Jm} {y z : Vl} {rb e : Nat} (hin : ∀ x ∈ us, x.In F) (hy : y.In yL) (hz : z.In zL) {q : Vl} (hq : q ∈ us ++ [Vl.mk 0 0 0 0 [] none [y, z] (some (⟨rb, 0, none⟩, 2)) 0]) : q.In ((rb, Obj.cells (Q7 [y, z]).toArray e (0, 0)) :: (zL ++ (yL ++ F))) := by
 rcases List.mem_append.1 hq with hq | hq
 ·exact (hin q hq).mono fun p hp => by simp [hp]
 ·rw [List.mem_singleton.1 hq]
  refine Jqq List.mem_cons_self rfl (by decide) fun x hx => ?_; simp only [List.mem_cons, List.not_mem_nil, or_false] at hx
  rcases hx with rfl | rfl
  ·exact hy.mono fun p hp => by simp [hp]
  ·exact hz.mono fun p hp => by simp [hp]
theorem Jy6 {slots : List (BS × BS)} {j : Nat} {us : List Vl} {k v : BS} {y z : Vl} {p : Pl} (her : us.map ZD = (slots.take j).map wU) (hx : slots[j]? = some (k, v)) (hy : ZD y = yN k) (hz : ZD z = yN v) : (us ++ [Vl.mk 0 0 0 0 [] none [y, z] p 0]).map ZD = (slots.take (j + 1)).map wU := by
 rw [List.map_append, her, ZP hx, List.map_append]
 congr 1
 show [ZD _] = [wU (k, v)]
 rw [WF, WT, List.map_cons, List.map_cons, List.map_nil, hy, hz]; rfl
theorem Jy7 {vs us : List Vl} {E F U yL zL : Jm} {y z : Vl} {rb e nonce ba bb bc bd n : Nat} {p : Pl} (hin : ∀ x ∈ vs, x.In E) (hs : Seg U n (Q7 us) p) (hn : us.length = n) (hn2 : n ≤ 100000) (hin2 : ∀ x ∈ us, x.In F) (hnu : VK nonce) (hba : W4.ok ⟨ba, bb, bc, bd⟩) (hy : y.In yL) (hz : z.In zL) {q : Vl}
  (hq : q ∈ vs ++ [Vl.mk 0 0 0 0 [] none [y, .mk nonce 0 0 0 [] none [] none 0, .mk ba bb bc bd [] none [] none 0, z, .mk 0 0 0 0 [] none us p 0] (some (⟨rb, 0, none⟩, 5)) 0]) : q.In ((rb, Obj.cells (Q7 [y, .mk nonce 0 0 0 [] none [] none 0, .mk ba bb bc bd [] none [] none 0, z, .mk 0 0 0 0 [] none us p 0]).toArray e (0, 0)) :: (zL ++ (yL ++ (U ++ (F ++ E))))) := by
 rcases List.mem_append.1 hq with hq | hq
 ·exact (hin q hq).mono fun p hp => by simp [hp]
 ·rw [List.mem_singleton.1 hq]
  refine Jqq List.mem_cons_self rfl (by decide) fun x hx => ?_; simp only [List.mem_cons, List.not_mem_nil, or_false] at hx
  rcases hx with rfl | rfl | rfl | rfl | rfl
  ·exact hy.mono fun p hp => by simp [hp]
  ·exact .mk hnu u0 u0 u0 (by decide) rfl (by decide) rfl i0 (fun x hx => nomatch hx)
  ·exact .mk hba.a hba.b hba.c hba.d (by decide) rfl (by decide) rfl i0 (fun x hx => nomatch hx)
  ·exact hz.mono fun p hp => by simp [hp]
  ·refine .mk u0 u0 u0 u0 (by decide) rfl (by omega) (by rw [hn]; exact hs.mono fun p hp => by simp [hp]) i0 fun x hx => (hin2 x hx).mono fun p hp => by simp [hp]
theorem Jy8 {accts : List AcL} {i : Nat} {vs us : List Vl} {addr code : BS} {nonce ba bb bc bd : Nat} {slots : List (BS × BS)} {ap p p2 : Pl} {y z : Vl} (her : vs.map ZD = (accts.take i).map fun a => acV a.er) (hx : accts[i]? = some ⟨addr, nonce, ⟨ba, bb, bc, bd⟩, code, slots, ap⟩) (hy : ZD y = yN addr) (hz : ZD z = yN code) (hu : us.map ZD = (slots.take slots.length).map wU) :
  (vs ++ [Vl.mk 0 0 0 0 [] none [y, .mk nonce 0 0 0 [] none [] none 0, .mk ba bb bc bd [] none [] none 0, z, .mk 0 0 0 0 [] none us p 0] p2 0]).map ZD = (accts.take (i + 1)).map fun a => acV a.er := by
 rw [List.map_append, her, ZP hx, List.map_append]
 congr 1
 show [ZD _] = [acV (AcL.er ⟨addr, nonce, ⟨ba, bb, bc, bd⟩, code, slots, ap⟩)]
 rw [List.take_length] at hu; simp only [WF, WT, List.map_cons, List.map_nil, hy, hz, hu]
 rfl
theorem Jy9 (accts : List AcL) : Vl.mk 0 0 0 0 [] none (accts.map fun a => acV a.er) none 0 = Za (accts.map AcL.er) := by
 unfold Za KY
 rw [List.map_map]; rfl
open Classical in
theorem Jvk {α : Type} (a b : α) (Z Y M U W : List α) : (a :: b :: (Z ++ (Y ++ (M ++ (U ++ W))))).Perm (U ++ (a :: b :: (M ++ (Z ++ (Y ++ W))))) := by
 rw [List.perm_iff_count]; intro x; simp only [List.count_append, List.count_cons]; omega
open Classical in
theorem Jvl {α : Type} (a b : α) (Z Y M U F V E : List α) : (a :: b :: (Z ++ (Y ++ (M ++ (U ++ (F ++ (V ++ E))))))).Perm (V ++ (a :: b :: (M ++ (Z ++ (Y ++ (U ++ (F ++ E))))))) := by
 rw [List.perm_iff_count]; intro x; simp only [List.count_append, List.count_cons]; omega
open Classical in
theorem Jvm {α : Type} (r a b : α) (M Z Y F W : List α) : (r :: a :: b :: (M ++ (Z ++ (Y ++ (F ++ W))))).Perm (a :: (M ++ (r :: ((b :: (Z ++ (Y ++ F))) ++ W)))) := by
 rw [List.perm_iff_count]; intro x; simp only [List.count_append, List.count_cons]; omega
open Classical in
theorem Jvn {α : Type} (r a b : α) (M W : List α) : (r :: a :: b :: (M ++ W)).Perm (a :: (M ++ (r :: (b :: W)))) := by
 rw [List.perm_iff_count]; intro x; simp only [List.count_append, List.count_cons]; omega
def Ac1 (a : AcL) : Prop := a.addr.length ≤ 100000 ∧ a.code.length ≤ 100000 ∧ a.slots.length ≤ 100000 ∧ ∀ x ∈ a.slots, x.1.length ≤ 100000 ∧ x.2.length ≤ 100000
set_option maxHeartbeats 2000000 in
theorem Jvo {R : Jm} {accts : List AcL} {p : Pl} (hs : StL.In R ⟨accts, p⟩) (hn : accts.length ≤ 100000) (hb : ∀ a ∈ accts, Ac1 a) : PureT (α := VR (Za (accts.map AcL.er))) Tryz.prog 47 [KP accts.length p].toArray (fun y => y.x.val) [] (fun y => y.L) R := by
 have hseg : Seg R accts.length (KW accts) p := hs.seg
 refine Jt Tryz.func47 rfl rfl fun w => ?_; refine J8 ?_; refine Jo 2 rfl ?_; refine LN rfl fun r1 => ?_; refine JC 4 rfl ?_; refine LN rfl fun r2 => ?_; refine JC 6 rfl ?_; refine LR rfl (J3 rfl hseg rfl) ?_; refine JI 4 rfl ?_; refine J1 (σ := Nat × List Vl × QV × Jm) (fun q => q.1 ≤ accts.length ∧ rowOk 7 q.1 (Q7 q.2.1) q.2.2.1 ∧ (∀ x ∈ q.2.1, Vl.In q.2.2.2 x) ∧ q.2.1.map ZD = (accts.take q.1).map fun a => acV a.er) (fun q => [(2, XO r1), (3, XO r2), (9, KP accts.length p), (10, .int .i64 (accts.length : Int)), (11, .int .i64 (q.1 : Int))]) (fun q => (r2, .cells #[.int .u64 0, .int .u64 0, .int .u64 0, .int .u64 0, .slice none 0 0, JE q.1 q.2.2.1, .int .i64 0] 89 (0, 0)) :: (r1, .cells #[.int .u64 0, .int .u64 0, .int .u64 0, .int .u64 0, .slice none 0 0, .slice none 0 0, .int .i64 0] 89 (0, 0)) :: (JR 89 (Q7 q.2.1) q.2.2.1 ++ q.2.2.2)) (fun _ _ _ => True) (fun q => accts.length - q.1) (0, [], none, []) ⟨Nat.zero_le _, ⟨rfl, rfl⟩, fun x hx => (nomatch hx), rfl⟩ (lK rfl) (by simp only [JR, List.nil_append, List.append_nil]; exact List.Sublist.refl _) (fun _ _ h => h) ?_; rintro ⟨i, vs, row, E⟩ ⟨hi1, hrow, hin, her⟩; simp only at hi1 hrow hin her; refine JP 6 rfl ?_; refine cD (fun g => ?_) fun g => ?_
 ·refine JP 5 rfl ?_
  obtain ⟨a, ha, hma⟩ := QM (show i < accts.length by omega)
  have ha2 := hs.accts a hma
  obtain ⟨hb1, hb2, hb3, hb4⟩ := hb a hma
  obtain ⟨addr, nonce, ⟨ba, bb, bc, bd⟩, code, slots, ap⟩ := a
  have hnu : VK nonce := ha2.nonce
  have hba : W4.ok ⟨ba, bb, bc, bd⟩ := ha2.bal
  have hsg : Seg R slots.length (Jtt slots) ap := ha2.seg
  simp only at hb1 hb2 hb3 hb4; refine Jo 1 rfl ?_
  refine LR rfl (Ju (j := i) rfl hseg rfl rfl rfl (by first | rfl | omega) (by omega)) ?_; refine LR rfl (Kp AcL.len oR rfl hseg ha rfl rfl) ?_; refine LN rfl fun r3 => ?_
  refine LT 0 rfl rfl ?_; refine JC 4 rfl ?_; refine LN rfl fun r4 => ?_; refine Xj 7 [1] rfl rfl ?_; refine LR rfl (J3 rfl hsg rfl) ?_; refine JI 4 rfl ?_; refine J1 (σ := Nat × List Vl × QV × Jm) (fun q => q.1 ≤ slots.length ∧ rowOk 7 q.1 (Q7 q.2.1) q.2.2.1 ∧ (∀ x ∈ q.2.1, Vl.In q.2.2.2 x) ∧ q.2.1.map ZD = (slots.take q.1).map wU) (fun q => [(2, XO r1), (3, XO r2), (5, XO r3), (6, XO r4), (9, KP accts.length p), (10, .int .i64 (accts.length : Int)), (11, .int .i64 (i : Int)), (16, KP slots.length ap), (17, .int .i64 (slots.length : Int)), (18, .int .i64 (q.1 : Int))]) (fun q => (r4, .cells #[.int .u64 0, .int .u64 0, .int .u64 0, .int .u64 0, .slice none 0 0, JE q.1 q.2.2.1, .int .i64 0] 89 (0, 0)) :: (r3, .cells #[J5 addr, uV nonce, uV ba, uV bb, uV bc, uV bd, J5 code, KP slots.length ap] 48 (0, 0)) :: (r2, .cells #[.int .u64 0, .int .u64 0, .int .u64 0, .int .u64 0, .slice none 0 0, JE i row, .int .i64 0] 89 (0, 0)) :: (r1, .cells #[.int .u64 0, .int .u64 0, .int .u64 0, .int .u64 0, .slice none 0 0, .slice none 0 0, .int .i64 0] 89 (0, 0)) :: (JR 89 (Q7 q.2.1) q.2.2.1 ++ (q.2.2.2 ++ (JR 89 (Q7 vs) row ++ E)))) (fun _ _ _ => True) (fun q => slots.length - q.1) (0, [], none, []) ⟨Nat.zero_le _, ⟨rfl, rfl⟩, fun x hx => (nomatch hx), rfl⟩ (lK rfl) (by simp only [JR, List.nil_append, List.append_nil]; exact List.Sublist.refl _) (fun _ _ h => h) ?_; rintro ⟨j, us, rw2, F⟩ ⟨hj1, hrow2, hin2, her2⟩; simp only at hj1 hrow2 hin2 her2; refine JP 6 rfl ?_; refine cD (fun g => ?_) fun g => ?_
  ·refine JP 5 rfl ?_
   obtain ⟨⟨k, v⟩, hx, hmx⟩ := QM (show j < slots.length by omega)
   obtain ⟨hk1, hv1⟩ := hb4 _ hmx
   simp only at hk1 hv1; refine Jo 1 rfl ?_
   refine LR rfl (Ju (j := j) rfl hsg rfl rfl rfl (by first | rfl | omega) (by omega)) ?_; refine LR rfl (Kp Kl oR rfl hsg hx rfl rfl) ?_; refine LN rfl fun r5 => ?_
   refine LT 0 rfl rfl ?_; refine JI 2 rfl ?_
   refine JL [(r4, .cells #[.int .u64 0, .int .u64 0, .int .u64 0, .int .u64 0, .slice none 0 0, JE j rw2, .int .i64 0] 89 (0, 0)), (r5, .cells #[J5 k, J5 v] 97 (0, 0))] [(0, .pure), (1, .pure), (2, .pure), (3, .pure), (4, .grow (Qf (Jqp hk1) (fun y => y.x.val) (fun y => y.L))), (5, .pure), (6, .pure), (7, .grow (Qf (Jqp hv1) (fun y => y.x.val) (fun y => y.L))), (8, .dep [26, 29] (Jcr 2 89)), (9, .pure), (10, .dep [31] (Jcr 1 89))] 11 [0, 1, 2, 3, 5, 6, 4, 7, 8, 9, 10] (by kernel_rfl) (by kernel_rfl) (by first | exact (fun _ h => absurd h List.not_mem_nil) | simp [SubS] | (intro p hp; simp [hp])) ?_
   refine Jn (k := 0) rfl rfl rfl rfl rfl (fun _ hS => (JD rfl rfl rfl)) ?_; refine Jn (k := 1) rfl rfl rfl rfl rfl (fun _ hS => (Jh rfl (.inl (hS _ (Jr (n := 0) rfl))) rfl rfl)) ?_
   refine Jn (k := 2) rfl rfl rfl rfl rfl (fun _ hS => (JD rfl rfl rfl)) ?_; refine Jn (k := 3) rfl rfl rfl rfl rfl (fun _ hS => (Jh rfl (.inl (hS _ (Jr (n := 1) rfl))) rfl rfl)) ?_
   refine Jn (k := 5) rfl rfl rfl rfl rfl (fun _ hS => (JD rfl rfl rfl)) ?_; refine Jn (k := 6) rfl rfl rfl rfl rfl (fun _ hS => (Jh rfl (.inl (hS _ (Jr (n := 1) rfl))) rfl rfl)) ?_; refine KT (k := 4) rfl rfl rfl rfl rfl Jig (Jaw hk1) oN fun y => ?_
   obtain ⟨⟨ya, yb, yc, yd, ybits, ypb, yitems, ypi, ypick⟩, yL, yok, yer⟩ := y
   refine KT (k := 7) rfl rfl rfl rfl rfl Jig (Jaw hv1) oN fun y => ?_
   obtain ⟨⟨za, zb, zc, zd, zbits, zpb, zitems, zpi, zpick⟩, zL, zok, zer⟩ := y
   refine Vb (k := 8) (dv := [_, _]) (n := 2) (sz := 7) (vs := [_, _]) (zs := [_, _, _, _, _, _, _, _, _, _, _, _, _, _]) (r := [uV ya, uV yb, uV yc, uV yd, KP ybits.length ypb, KP yitems.length ypi, .int .i64 ypick, uV za, uV zb, uV zc, uV zd, KP zbits.length zpb, KP zitems.length zpi, .int .i64 zpick]) rfl rfl rfl rfl rfl rfl rfl rfl rfl rfl rfl rfl rfl (by rw [Ky]; exact rfl) rfl fun rb => ?_; refine Jn (k := 9) rfl rfl rfl rfl rfl (fun _ hS => (Js (r := [_, _, _, _, _, _, _]) rfl rfl)) ?_; refine Vb (k := 10) (dv := [_]) (n := 1) (sz := 7) (vs := [_]) (zs := [_, _, _, _, _, _, _]) (r := [.int .u64 0, .int .u64 0, .int .u64 0, .int .u64 0, .slice none 0 0, .slice (some ⟨rb, 0, none⟩) 2 2, .int .i64 0]) rfl rfl rfl rfl rfl rfl rfl rfl rfl rfl rfl rfl rfl (by rw [Ky]; exact rfl) rfl fun rc => ?_; refine Ko ?_; refine JY (Jvk (M := [_, _, _, _, _]) ..) ?_; refine KL (L0 := _) (xs := Q7 us) (row := rw2) (n := j) (sz := 7) (b := 88) (news := [_, _, _, _, _, _, _]) (List.Perm.refl _) rfl rfl rfl rfl (kn 0 rfl) rfl rfl rfl rfl rfl (by decide) rfl rfl rfl (by decide) hrow2 (by omega) (by omega) fun ra cap sp hra => ?_
   refine LS 1 [] rfl rfl ?_; refine KC (k := 4) (cs' := #[.int .u64 0, .int .u64 0, .int .u64 0, .int .u64 0, .slice none 0 0, JE (j + 1) (some (ra, cap, sp)), .int .i64 0]) rfl rfl rfl rfl rfl rfl rfl rfl rfl rfl ?_; refine JC 5 rfl ?_; refine J2 (show _ = Value.int .i64 ((j + 1 : Nat) : Int) from by rw [wrap_i64 (by omega) (by omega)]; congr 1 <;> omega) ?_; refine Jx 2 rfl ?_; refine Jz ?_
   have hvc : Q7 us ++ Vl.cells (.mk 0 0 0 0 [] none [(.mk ya yb yc yd ybits ypb yitems ypi ypick), (.mk za zb zc zd zbits zpb zitems zpi zpick)] (some (⟨rb, 0, none⟩, 2)) 0) = Q7 (us ++ [.mk 0 0 0 0 [] none [(.mk ya yb yc yd ybits ypb yitems ypi ypick), (.mk za zb zc zd zbits zpb zitems zpi zpick)] (some (⟨rb, 0, none⟩, 2)) 0]) := by unfold Q7; rw [List.flatMap_append]; simp
   refine Jed (Jvm (M := [_, _, _, _, _]) ..) ?_; exact Jv (j + 1, us ++ [.mk 0 0 0 0 [] none [(.mk ya yb yc yd ybits ypb yitems ypi ypick), (.mk za zb zc zd zbits zpb zitems zpi zpick)] (some (⟨rb, 0, none⟩, 2)) 0], some (ra, cap, sp), _ :: (zL ++ (yL ++ F))) ⟨by simp only; omega, by simp only; rw [← hvc]; exact hra, fun z hz => Jy5 hin2 yok zok hz, Jy6 her2 hx yer zer⟩ (by simp only; omega) (lK rfl) (by simp only; rw [← hvc]; exact .cons _ (.cons _ (List.Sublist.refl _))) (fun _ _ h => h)
  ·refine JP 5 rfl ?_
   obtain rfl : j = slots.length := by omega
   have hul : us.length = slots.length := by have := congrArg List.length her2; simpa using this
   have hvr2 : JE slots.length rw2 = KP us.length (Vd rw2) := by rw [hul]; exact (Xp _ _ (fun h => by rw [h] at hrow2; exact hrow2.1)).symm
   rw [hvr2]
   refine JL [(r2, .cells #[.int .u64 0, .int .u64 0, .int .u64 0, .int .u64 0, .slice none 0 0, JE i row, .int .i64 0] 89 (0, 0)), (r3, .cells #[J5 addr, uV nonce, uV ba, uV bb, uV bc, uV bd, J5 code, KP slots.length ap] 48 (0, 0)), (r4, .cells #[.int .u64 0, .int .u64 0, .int .u64 0, .int .u64 0, .slice none 0 0, KP us.length (Vd rw2), .int .i64 0] 89 (0, 0))] [(0, .pure), (1, .pure), (2, .pure), (3, .pure), (4, .grow (Qf (Jqp hb1) (fun y => y.x.val) (fun y => y.L))), (5, .pure), (6, .pure), (7, .pure), (8, .pure), (9, .pure), (10, .pure), (11, .pure), (12, .pure), (13, .pure), (14, .grow (Qf (Jqp hb2) (fun y => y.x.val) (fun y => y.L))), (15, .pure), (16, .dep [40, 44, 47, 50, 51] (Jcr 5 89)), (17, .pure), (18, .dep [53] (Jcr 1 89))] 19 [0, 1, 2, 3, 5, 6, 9, 10, 11, 12, 13, 15, 4, 7, 8, 14, 16, 17, 18] (by kernel_rfl) (by kernel_rfl) (by first | exact (fun _ h => absurd h List.not_mem_nil) | simp [SubS] | (intro p hp; simp [hp])) ?_
   refine Jn (k := 0) rfl rfl rfl rfl rfl (fun _ hS => (JD rfl rfl rfl)) ?_; refine Jn (k := 1) rfl rfl rfl rfl rfl (fun _ hS => (Jh rfl (.inl (hS _ (Jr (n := 0) rfl))) rfl rfl)) ?_
   refine Jn (k := 2) rfl rfl rfl rfl rfl (fun _ hS => (JD rfl rfl rfl)) ?_; refine Jn (k := 3) rfl rfl rfl rfl rfl (fun _ hS => (Jh rfl (.inl (hS _ (Jr (n := 1) rfl))) rfl rfl)) ?_
   refine Jn (k := 5) rfl rfl rfl rfl rfl (fun _ hS => (JD rfl rfl rfl)) ?_; refine Jn (k := 6) rfl rfl rfl rfl rfl (fun _ hS => (Jh rfl (.inl (hS _ (Jr (n := 1) rfl))) rfl rfl)) ?_
   refine Jn (k := 9) rfl rfl rfl rfl rfl (fun _ hS => (JD rfl rfl rfl)) ?_; refine Jn (k := 10) rfl rfl rfl rfl rfl (fun _ hS => (Jp (vs := [_, _, _, _]) rfl (.inl (hS _ (Jr (n := 1) rfl))) rfl rfl rfl rfl)) ?_; refine Jn (k := 11) rfl rfl rfl rfl rfl (fun _ hS => (Js (r := [_, _, _, _, _, _, _]) rfl rfl)) ?_
   refine Jn (k := 12) rfl rfl rfl rfl rfl (fun _ hS => (JD rfl rfl rfl)) ?_; refine Jn (k := 13) rfl rfl rfl rfl rfl (fun _ hS => (Jh rfl (.inl (hS _ (Jr (n := 1) rfl))) rfl rfl)) ?_; refine Jn (k := 15) rfl rfl rfl rfl rfl (fun _ hS => (Jp (vs := [_, _, _, _, _, _, _]) rfl (.inl (hS _ (Jr (n := 2) rfl))) rfl rfl rfl rfl)) ?_; refine KT (k := 4) rfl rfl rfl rfl rfl Jig (Jaw hb1) oN fun y => ?_
   obtain ⟨⟨ya, yb, yc, yd, ybits, ypb, yitems, ypi, ypick⟩, yL, yok, yer⟩ := y
   refine Qq (k := 7) rfl rfl rfl rfl rfl jD (Vo _) ?_; refine Jn (k := 8) rfl rfl rfl rfl rfl (fun _ hS => (Js (r := [_, _, _, _, _, _, _]) rfl rfl)) ?_; refine KT (k := 14) rfl rfl rfl rfl rfl Jig (Jaw hb2) oN fun y => ?_
   obtain ⟨⟨za, zb, zc, zd, zbits, zpb, zitems, zpi, zpick⟩, zL, zok, zer⟩ := y
   refine Vb (k := 16) (dv := [_, _, _, _, _]) (n := 5) (sz := 7) (vs := [_, _, _, _, _]) (zs := [_, _, _, _, _, _, _, _, _, _, _, _, _, _, _, _, _, _, _, _, _, _, _, _, _, _, _, _, _, _, _, _, _, _, _]) (r := [uV ya, uV yb, uV yc, uV yd, KP ybits.length ypb, KP yitems.length ypi, .int .i64 ypick, uV nonce, uV 0, uV 0, uV 0, .slice none 0 0, .slice none 0 0, .int .i64 0, uV ba, uV bb, uV bc, uV bd, .slice none 0 0, .slice none 0 0, .int .i64 0, uV za, uV zb, uV zc, uV zd, KP zbits.length zpb, KP zitems.length zpi, .int .i64 zpick, uV 0, uV 0, uV 0, uV 0, .slice none 0 0, KP us.length (Vd rw2), .int .i64 0]) rfl rfl rfl rfl rfl rfl rfl rfl rfl rfl rfl rfl rfl (by rw [Ky]; exact rfl) rfl fun rb => ?_; refine Jn (k := 17) rfl rfl rfl rfl rfl (fun _ hS => (Js (r := [_, _, _, _, _, _, _]) rfl rfl)) ?_; refine Vb (k := 18) (dv := [_]) (n := 1) (sz := 7) (vs := [_]) (zs := [_, _, _, _, _, _, _]) (r := [.int .u64 0, .int .u64 0, .int .u64 0, .int .u64 0, .slice none 0 0, .slice (some ⟨rb, 0, none⟩) 5 5, .int .i64 0]) rfl rfl rfl rfl rfl rfl rfl rfl rfl rfl rfl rfl rfl (by rw [Ky]; exact rfl) rfl fun rc => ?_; refine Ko ?_; refine JY (Jvl (M := [_, _, _, _]) ..) ?_; refine KL (L0 := _) (xs := Q7 vs) (row := row) (n := i) (sz := 7) (b := 88) (news := [_, _, _, _, _, _, _]) (List.Perm.refl _) rfl rfl rfl rfl (kn 0 rfl) rfl rfl rfl rfl rfl (by decide) rfl rfl rfl (by decide) hrow (by omega) (by omega) fun ra cap sp hra => ?_
   refine LS 1 [] rfl rfl ?_; refine KC (k := 5) (cs' := #[.int .u64 0, .int .u64 0, .int .u64 0, .int .u64 0, .slice none 0 0, JE (i + 1) (some (ra, cap, sp)), .int .i64 0]) rfl rfl rfl rfl rfl rfl rfl rfl rfl rfl ?_; refine JC 5 rfl ?_; refine J2 (show _ = Value.int .i64 ((i + 1 : Nat) : Int) from by rw [wrap_i64 (by omega) (by omega)]; congr 1 <;> omega) ?_; refine Jx 2 rfl ?_; refine Jz ?_
   have hvc : Q7 vs ++ Vl.cells (.mk 0 0 0 0 [] none [(.mk ya yb yc yd ybits ypb yitems ypi ypick), (.mk nonce 0 0 0 [] none [] none 0), (.mk ba bb bc bd [] none [] none 0), (.mk za zb zc zd zbits zpb zitems zpi zpick), .mk 0 0 0 0 [] none us (Vd rw2) 0] (some (⟨rb, 0, none⟩, 5)) 0) = Q7 (vs ++ [.mk 0 0 0 0 [] none [(.mk ya yb yc yd ybits ypb yitems ypi ypick), (.mk nonce 0 0 0 [] none [] none 0), (.mk ba bb bc bd [] none [] none 0), (.mk za zb zc zd zbits zpb zitems zpi zpick), .mk 0 0 0 0 [] none us (Vd rw2) 0] (some (⟨rb, 0, none⟩, 5)) 0]) := by unfold Q7; rw [List.flatMap_append]; simp
   refine Jed (Jvn (M := [_, _, _, _]) ..) ?_; exact Jv (i + 1, vs ++ [.mk 0 0 0 0 [] none [(.mk ya yb yc yd ybits ypb yitems ypi ypick), (.mk nonce 0 0 0 [] none [] none 0), (.mk ba bb bc bd [] none [] none 0), (.mk za zb zc zd zbits zpb zitems zpi zpick), .mk 0 0 0 0 [] none us (Vd rw2) 0] (some (⟨rb, 0, none⟩, 5)) 0], some (ra, cap, sp), _ :: (zL ++ (yL ++ (_ ++ (F ++ E))))) ⟨by simp only; omega, by simp only; rw [← hvc]; exact hra, fun z hz => Jy7 hin (KJ hrow2 (by decide)) hul hb3 hin2 hnu hba yok zok hz, Jy8 her ha yer zer her2⟩ (by simp only; omega) (lK rfl) (by simp only; rw [← hvc]; exact .cons _ (.cons _ (.cons _ (List.Sublist.refl _)))) (fun _ _ h => h)
 ·refine JP 6 rfl ?_
  have honeV : ([.int .u64 0, .int .u64 0, .int .u64 0, .int .u64 0, .slice none 0 0, JE i row, .int .i64 0] : List Value).all Q6 = true := by cases row <;> rfl
  refine Jo 1 rfl ?_; refine LR rfl (Jb (xs := [.int .u64 0, .int .u64 0, .int .u64 0, .int .u64 0, .slice none 0 0, JE i row, .int .i64 0]) (n := 7) rfl (kn 0 rfl) rfl rfl rfl) ?_; refine Jc (k := 1) (n := 7) (ys := [.int .u64 0, .int .u64 0, .int .u64 0, .int .u64 0, .slice none 0 0, JE i row, .int .i64 0]) rfl rfl rfl rfl rfl rfl rfl honeV rfl ?_; refine Jx 3 rfl ?_; refine Jf rfl rfl (.cons (Jq (vs := [_, _, _, _, _, _, _]) rfl (kn 1 rfl) rfl rfl) .nil) (fun w1 hs1 => ?_)
  have hiM : i = accts.length := by omega
  have hvl : vs.length = i := by have := congrArg List.length her; simp at this; omega
  rw [hiM, List.take_length] at her; rw [← hvl] at hrow
  have hvr : JE i row = KP vs.length (Vd row) := by rw [← hvl]; exact (Xp _ _ (fun h => by rw [h] at hrow; exact hrow.1)).symm
  exact ⟨⟨.mk 0 0 0 0 [] none vs (Vd row) 0, JR 89 (Q7 vs) row ++ E, Jec (by omega) (KJ hrow (by decide)) hin i0, by rw [WF, WT, her]; exact Jy9 ..⟩, congrArg (fun z => Ending.returned (Value.agg #[.int .u64 0, .int .u64 0, .int .u64 0, .int .u64 0, .slice none 0 0, z, .int .i64 0])) hvr, hs1.weakL (.cons _ (.cons _ (List.Sublist.refl _)))⟩
def vA (x : AcL) : Value := .agg (AcL.cells x).toArray
theorem Jay (x : AcL) : Pure Tryz.prog 98 [vA x].toArray (J5 (AcL.addr x)) := by
 refine Jk Tryz.func98 rfl rfl fun w => ?_; refine J8 ?_; refine Jo 2 rfl ?_; refine LN rfl fun r1 => ?_; refine Goq 11 [0] rfl rfl ?_; refine pT rfl rfl rfl fun w1 hs1 => ?_; exact ⟨rfl, hs1.keep⟩
theorem Jqr {R : Jm} {xs : List AcL} {p : Pl} (hl : xs.length ≤ 9223372036854775807) (hs : Seg R xs.length (xs.flatMap AcL.cells) p) {g : FuncId} {caps : List Value} {pr : AcL → Bool} (eg : Enters Tryz.prog g) (hg : ∀ x ∈ xs, PureR Tryz.prog g (vA x :: caps).toArray (.bool (pr x)) R) :
  PureR Tryz.prog 42 [KP xs.length p, .func (.func g) #[] caps.toArray].toArray (.int .i64 (Yu pr xs)) R := by
 refine Ja Tryz.func42 rfl rfl fun w => ?_; refine J8 ?_; refine Jo 9 rfl ?_; refine LR rfl (J3 rfl hs rfl) ?_; refine JI 4 rfl ?_; refine J1 (σ := Nat) (fun i => i ≤ xs.length ∧ ∀ j, j < i → ∀ y, xs[j]? = some y → pr y = false) (fun i => [(0, KP xs.length p), (1, .func (.func g) #[] caps.toArray), (7, .int .i64 (xs.length : Int)), (8, .int .i64 (i : Int))]) (fun _ => []) (fun _ _ _ => True) (fun i => xs.length - i) 0 ⟨by omega, fun j hj => absurd hj (by omega)⟩ (lK rfl) (List.nil_sublist _) (fun _ _ h => h) ?_; rintro i ⟨hi1, hinv⟩; refine JP 6 rfl ?_; refine cD (fun h6 => ?_) fun h6 => ?_
 refine JP 11 rfl ?_
 obtain ⟨x, hx, hmx⟩ := QM (show i < xs.length by omega)
 refine Jo 4 rfl ?_
 refine LR rfl (Ju (j := i) rfl hs rfl rfl rfl (by first | rfl | omega) (by omega)) ?_; refine LR rfl (Kp AcL.len oR rfl hs hx rfl rfl) ?_; refine Jg rfl rfl rfl eg (hg x hmx) oR ?_; refine JI 2 rfl ?_; refine cD (fun h10 => ?_) fun h10 => ?_
 refine Kn 12 rfl ?_; refine pT rfl rfl rfl fun w1 hs1 => ?_; refine ⟨?_, hs1.keep⟩; rw [Jda hx (by assumption) hinv]; rfl
 refine Jo 5 rfl ?_; refine Je (by omega) (by omega) ?_; refine Jx 2 rfl ?_; refine Jz ?_
 exact Jv (i + 1) ⟨by omega, fun j hj y hy => by
  rcases Nat.lt_succ_iff_lt_or_eq.1 hj with hj | rfl
  exact hinv j hj y hy
  rw [hx] at hy; cases hy; assumption⟩ (by omega) (lK rfl) (List.nil_sublist _) (fun _ _ h => h)
 ·refine Kn 11 rfl ?_; refine pT rfl rfl rfl fun w1 hs1 => ?_; refine ⟨?_, hs1.keep⟩; rw [Jc9 fun j x hx => hinv j (by have := (List.getElem?_eq_some_iff.1 hx).1; omega) x hx]; rfl
theorem Jqs {R : Jm} {xs : List AcL} {p : Pl} (hl : xs.length ≤ 9223372036854775807) (hs : Seg R xs.length (xs.flatMap AcL.cells) p) :
  PureR Tryz.prog 97 [KP xs.length p, fV 98].toArray (.bool (QN AcL.addr xs)) R := by
 refine Ja Tryz.func97 rfl rfl fun w => ?_; refine J8 ?_; refine JP 12 rfl ?_; refine J1 (σ := Nat) (fun i => (i = 0 ∨ i < xs.length) ∧ ∀ j x y, j < i → xs[j]? = some x → xs[j + 1]? = some y → Op.bytesLess (AcL.addr x) (AcL.addr y) = true) (fun i => [(0, KP xs.length p), (1, fV 98), (5, .int .i64 ((i + 1 : Nat) : Int))]) (fun _ => []) (fun _ _ _ => True) (fun i => xs.length - i) 0 ⟨.inl rfl, fun j _ _ hj => absurd hj (by omega)⟩ (lK rfl) (List.nil_sublist _) (fun _ _ h => h) ?_; rintro i ⟨hi1, hinv⟩; refine Jo 5 rfl ?_; refine LR rfl (J3 rfl hs rfl) ?_; refine JI 3 rfl ?_; refine cD (fun g => ?_) fun g => ?_
 refine JP 5 rfl ?_
 obtain ⟨x, hx, hmx⟩ := QM (show i < xs.length by omega)
 obtain ⟨y, hy, hmy⟩ := QM (show i + 1 < xs.length by omega)
 refine JK 14 (by kernel_rfl) (by kernel_rfl) ?_; refine Jd rfl rfl rfl (Ji rfl) ?_; refine Jd rfl rfl rfl (Ji rfl) ?_; refine Jd rfl rfl rfl (Ji rfl) ?_; refine Jd rfl rfl rfl (J0 rfl rfl rfl) ?_; refine QH (by omega) (by omega) ?_
 refine Jd rfl rfl rfl (Ju (j := i) rfl hs rfl rfl rfl (by first | rfl | omega) (by omega)) ?_; refine Jd rfl rfl rfl (Kp AcL.len oR rfl hs hx rfl rfl) ?_; refine Kz rfl rfl rfl Jui (Jay x) ?_; refine Jd rfl rfl rfl (Ji rfl) ?_; refine Jd rfl rfl rfl (Ji rfl) ?_; refine Jd rfl rfl rfl (Ji rfl) ?_
 refine Jd rfl rfl rfl (Ju (j := (i + 1)) rfl hs rfl rfl rfl (by first | rfl | omega) (by omega)) ?_; refine Jd rfl rfl rfl (Kp AcL.len oR rfl hs hy rfl rfl) ?_; refine Kz rfl rfl rfl Jui (Jay y) ?_; refine Jd rfl rfl rfl (Jh6 rfl rfl) ?_; refine JW ?_; refine JI 2 rfl ?_; refine cD (fun g => ?_) fun g => ?_
 refine Kn 11 rfl ?_; refine pT rfl rfl rfl fun w1 hs1 => ?_; refine ⟨?_, hs1.keep⟩; rw [j8 hx hy (by simp_all)]; rfl
 refine Jo 6 rfl ?_; refine Je (by omega) (by omega) ?_; refine Jx 2 rfl ?_; refine Jz ?_
 exact Jv (i + 1) ⟨.inr (by omega), fun j u v hj hu hv => by
  rcases Nat.lt_succ_iff_lt_or_eq.1 hj with hj | rfl
  exact hinv j u v hj hu hv
  rw [hx] at hu; rw [hy] at hv; cases hu; cases hv; simp_all⟩ (by omega) (lK rfl) (List.nil_sublist _) (fun _ _ h => h)
 ·refine Kn 11 rfl ?_; refine pT rfl rfl rfl fun w1 hs1 => ?_; refine ⟨?_, hs1.keep⟩; rw [Zn fun j u v hu hv => hinv j u v (by have := (List.getElem?_eq_some_iff.1 hv).1; omega) hu hv]; rfl
def vS (x : (BS × BS)) : Value := .agg (Q9 x).toArray
theorem Jaz (x : (BS × BS)) : Pure Tryz.prog 156 [vS x].toArray (J5 (Prod.fst x)) := by
 refine Jk Tryz.func156 rfl rfl fun w => ?_; refine J8 ?_; refine Jo 2 rfl ?_; refine LN rfl fun r1 => ?_; refine Goq 11 [0] rfl rfl ?_; refine pT rfl rfl rfl fun w1 hs1 => ?_; exact ⟨rfl, hs1.keep⟩
theorem wW {R : Jm} {xs : List (BS × BS)} {p : Pl} (hl : xs.length ≤ 9223372036854775807) (hs : Seg R xs.length (xs.flatMap Q9) p) {g : FuncId} {caps : List Value} {pr : (BS × BS) → Bool} (eg : Enters Tryz.prog g) (hg : ∀ x ∈ xs, PureR Tryz.prog g (vS x :: caps).toArray (.bool (pr x)) R) :
  PureR Tryz.prog 114 [KP xs.length p, .func (.func g) #[] caps.toArray].toArray (.int .i64 (Yu pr xs)) R := by
 refine Ja Tryz.func114 rfl rfl fun w => ?_; refine J8 ?_; refine Jo 9 rfl ?_; refine LR rfl (J3 rfl hs rfl) ?_; refine JI 4 rfl ?_; refine J1 (σ := Nat) (fun i => i ≤ xs.length ∧ ∀ j, j < i → ∀ y, xs[j]? = some y → pr y = false) (fun i => [(0, KP xs.length p), (1, .func (.func g) #[] caps.toArray), (7, .int .i64 (xs.length : Int)), (8, .int .i64 (i : Int))]) (fun _ => []) (fun _ _ _ => True) (fun i => xs.length - i) 0 ⟨by omega, fun j hj => absurd hj (by omega)⟩ (lK rfl) (List.nil_sublist _) (fun _ _ h => h) ?_; rintro i ⟨hi1, hinv⟩; refine JP 6 rfl ?_; refine cD (fun h6 => ?_) fun h6 => ?_
 refine JP 11 rfl ?_
 obtain ⟨x, hx, hmx⟩ := QM (show i < xs.length by omega)
 refine Jo 4 rfl ?_
 refine LR rfl (Ju (j := i) rfl hs rfl rfl rfl (by first | rfl | omega) (by omega)) ?_; refine LR rfl (Kp Kl oR rfl hs hx rfl rfl) ?_; refine Jg rfl rfl rfl eg (hg x hmx) oR ?_; refine JI 2 rfl ?_; refine cD (fun h10 => ?_) fun h10 => ?_
 refine Kn 12 rfl ?_; refine pT rfl rfl rfl fun w1 hs1 => ?_; refine ⟨?_, hs1.keep⟩; rw [Jda hx (by assumption) hinv]; rfl
 refine Jo 5 rfl ?_; refine Je (by omega) (by omega) ?_; refine Jx 2 rfl ?_; refine Jz ?_
 exact Jv (i + 1) ⟨by omega, fun j hj y hy => by
  rcases Nat.lt_succ_iff_lt_or_eq.1 hj with hj | rfl
  exact hinv j hj y hy
  rw [hx] at hy; cases hy; assumption⟩ (by omega) (lK rfl) (List.nil_sublist _) (fun _ _ h => h)
 ·refine Kn 11 rfl ?_; refine pT rfl rfl rfl fun w1 hs1 => ?_; refine ⟨?_, hs1.keep⟩; rw [Jc9 fun j x hx => hinv j (by have := (List.getElem?_eq_some_iff.1 hx).1; omega) x hx]; rfl
theorem Jqt {R : Jm} {xs : List (BS × BS)} {p : Pl} (hl : xs.length ≤ 9223372036854775807) (hs : Seg R xs.length (xs.flatMap Q9) p) :
  PureR Tryz.prog 155 [KP xs.length p, fV 156].toArray (.bool (QN Prod.fst xs)) R := by
 refine Ja Tryz.func155 rfl rfl fun w => ?_; refine J8 ?_; refine JP 12 rfl ?_; refine J1 (σ := Nat) (fun i => (i = 0 ∨ i < xs.length) ∧ ∀ j x y, j < i → xs[j]? = some x → xs[j + 1]? = some y → Op.bytesLess (Prod.fst x) (Prod.fst y) = true) (fun i => [(0, KP xs.length p), (1, fV 156), (5, .int .i64 ((i + 1 : Nat) : Int))]) (fun _ => []) (fun _ _ _ => True) (fun i => xs.length - i) 0 ⟨.inl rfl, fun j _ _ hj => absurd hj (by omega)⟩ (lK rfl) (List.nil_sublist _) (fun _ _ h => h) ?_; rintro i ⟨hi1, hinv⟩; refine Jo 5 rfl ?_; refine LR rfl (J3 rfl hs rfl) ?_; refine JI 3 rfl ?_; refine cD (fun g => ?_) fun g => ?_
 refine JP 5 rfl ?_
 obtain ⟨x, hx, hmx⟩ := QM (show i < xs.length by omega)
 obtain ⟨y, hy, hmy⟩ := QM (show i + 1 < xs.length by omega)
 refine JK 14 (by kernel_rfl) (by kernel_rfl) ?_; refine Jd rfl rfl rfl (Ji rfl) ?_; refine Jd rfl rfl rfl (Ji rfl) ?_; refine Jd rfl rfl rfl (Ji rfl) ?_; refine Jd rfl rfl rfl (J0 rfl rfl rfl) ?_; refine QH (by omega) (by omega) ?_
 refine Jd rfl rfl rfl (Ju (j := i) rfl hs rfl rfl rfl (by first | rfl | omega) (by omega)) ?_; refine Jd rfl rfl rfl (Kp Kl oR rfl hs hx rfl rfl) ?_; refine Kz rfl rfl rfl Jii (Jaz x) ?_; refine Jd rfl rfl rfl (Ji rfl) ?_; refine Jd rfl rfl rfl (Ji rfl) ?_; refine Jd rfl rfl rfl (Ji rfl) ?_
 refine Jd rfl rfl rfl (Ju (j := (i + 1)) rfl hs rfl rfl rfl (by first | rfl | omega) (by omega)) ?_; refine Jd rfl rfl rfl (Kp Kl oR rfl hs hy rfl rfl) ?_; refine Kz rfl rfl rfl Jii (Jaz y) ?_; refine Jd rfl rfl rfl (Jh6 rfl rfl) ?_; refine JW ?_; refine JI 2 rfl ?_; refine cD (fun g => ?_) fun g => ?_
 refine Kn 11 rfl ?_; refine pT rfl rfl rfl fun w1 hs1 => ?_; refine ⟨?_, hs1.keep⟩; rw [j8 hx hy (by simp_all)]; rfl
 refine Jo 6 rfl ?_; refine Je (by omega) (by omega) ?_; refine Jx 2 rfl ?_; refine Jz ?_
 exact Jv (i + 1) ⟨.inr (by omega), fun j u v hj hu hv => by
  rcases Nat.lt_succ_iff_lt_or_eq.1 hj with hj | rfl
  exact hinv j u v hj hu hv
  rw [hx] at hu; rw [hy] at hv; cases hu; cases hv; simp_all⟩ (by omega) (lK rfl) (List.nil_sublist _) (fun _ _ h => h)
 ·refine Kn 11 rfl ?_; refine pT rfl rfl rfl fun w1 hs1 => ?_; refine ⟨?_, hs1.keep⟩; rw [Zn fun j u v hu hv => hinv j u v (by have := (List.getElem?_eq_some_iff.1 hv).1; omega) hu hv]; rfl
theorem Jvp (a : BS) : (!decide (a = a)) = false := by simp
theorem Jjl (a : BS) : Pure Tryz.prog 126 [J5 a].toArray (.bool false) := by
 refine Jk Tryz.func126 rfl rfl fun w => ?_; refine J8 ?_; refine Jo 9 rfl ?_; refine LR rfl (jo rfl rfl) ?_; refine J2 (congrArg Value.bool (Jvp a)) ?_; refine Jx 4 rfl ?_; refine pT rfl rfl rfl fun w1 hs1 => ?_; exact ⟨rfl, hs1.keep⟩
theorem zJ (a b : BS) : Pure Tryz.prog 76 [J5 a, J5 b].toArray (.int .i64 (XZ a b)) := by
 refine Jk Tryz.func76 rfl rfl fun w => ?_; refine J8 ?_; refine Jo 8 rfl ?_; refine Jl rfl rfl rfl (enters_of Tryz.func126 (by kernel_rfl) rfl) (Jjl a) ?_; refine JC 6 rfl ?_; refine Jl rfl rfl rfl (enters_of Tryz.func126 (by kernel_rfl) rfl) (Jjl b) ?_; refine JI 9 rfl ?_; refine Jw rfl (fun g => ?_) (fun g => ?_)
 try exact Bool.noConfusion g
 ·try simp only [ZZ] at g
  refine JP 8 rfl ?_; refine Jw rfl (fun g => ?_) (fun g => ?_)
  try exact Bool.noConfusion g
  ·try simp only [ZZ] at g
   refine Jo 7 rfl ?_; refine LR rfl (Jtd rfl rfl) ?_; refine JI 2 rfl ?_; refine cD (fun g => ?_) fun g => ?_
   refine Kn 7 rfl ?_; refine pT rfl rfl rfl fun w1 hs1 => ?_; refine ⟨?_, hs1.keep⟩
   unfold XZ
   simp_all [JA]
   ·refine Jo 7 rfl ?_; refine LR rfl (Jt0 rfl rfl) ?_; refine JI 2 rfl ?_; refine cD (fun g => ?_) fun g => ?_
    refine Kn 7 rfl ?_; refine pT rfl rfl rfl fun w1 hs1 => ?_; refine ⟨?_, hs1.keep⟩
    unfold XZ
    simp_all [JA]
    ·refine Kn 8 rfl ?_; refine pT rfl rfl rfl fun w1 hs1 => ?_; refine ⟨?_, hs1.keep⟩
     unfold XZ
     simp_all [JA]
theorem Jqu : Lib.repeatL [0] 32 = Vc := by decide +kernel
theorem Jgm : Pure Tryz.prog 116 [].toArray (J5 Vc) := by
 rw [← Jqu]; refine Jk Tryz.func116 rfl rfl fun w => ?_; refine J8 ?_; refine Jo 7 rfl ?_; refine Jl rfl rfl rfl (enters_of Tryz.func189 (by kernel_rfl) rfl) (zx (n := 32) (by decide)) ?_; refine Jx 4 rfl ?_; refine pT rfl rfl rfl fun w1 hs1 => ?_; exact ⟨rfl, hs1.keep⟩
theorem J1d {R : Jm} {rb e : Nat} (hb : (rb, Obj.cells #[fV 98] e (0, 0)) ∈ R) (x : AcL) (k : BS) : PureR Tryz.prog 351 [vA x, J5 k, .pointer (some ⟨rb, 0, none⟩)].toArray (.int .i64 (XZ (AcL.addr x) k)) R := by
 refine Ja Tryz.func351 rfl rfl fun w => ?_; refine J8 ?_; refine Jo 2 rfl ?_; refine LN rfl fun r1 => ?_; refine JC 5 rfl ?_; refine LR rfl (Jh rfl (Or.inr hb) rfl rfl) ?_; refine LR rfl (Jp (vs := [_, _, _, _, _, _, _, _]) rfl (kn 0 rfl) rfl rfl rfl rfl) ?_; refine Jl rfl rfl rfl Jui (Jay x) ?_; refine Qx rfl (Jl rfl rfl rfl (enters_of Tryz.func76 (by kernel_rfl) rfl) (zJ (AcL.addr x) k) (Jx 4 rfl ?_)); refine pT rfl rfl rfl fun w1 hs1 => ?_; exact ⟨rfl, hs1.keep⟩
theorem Jl4 {R : Jm} {xs : List AcL} {p : Pl} (hl : xs.length ≤ 1000) (hs : Seg R xs.length (xs.flatMap AcL.cells) p) (hso : Kx AcL.addr xs) {k : BS} {g : FuncId} {caps : List Value} (eg : Enters Tryz.prog g) (hg : ∀ x ∈ xs, PureR Tryz.prog g (vA x :: J5 k :: caps).toArray (.int .i64 (XZ (AcL.addr x) k)) R) :
  PureR Tryz.prog 350 [KP xs.length p, J5 k, .func (.func g) #[] caps.toArray].toArray (.tuple #[.int .i64 (ZU AcL.addr k xs : Nat), .bool (VB AcL.addr k xs)]) R := by
 refine Ja Tryz.func350 rfl rfl fun w => ?_; refine J8 ?_; refine Jo 9 rfl ?_; refine LR rfl (J3 rfl hs rfl) ?_; refine JI 12 rfl ?_; refine J1 (σ := Nat × Nat) (fun s => (s.1 ≤ s.2 ∧ s.2 ≤ xs.length) ∧ (∀ q y, q < s.1 → xs[q]? = some y → Op.bytesLess (AcL.addr y) k = true) ∧ ∀ q y, s.2 ≤ q → xs[q]? = some y → Op.bytesLess (AcL.addr y) k = false) (fun s => [(0, KP xs.length p), (1, J5 k), (2, .func (.func g) #[] caps.toArray), (8, .int .i64 (xs.length : Int)), (9, .int .i64 (s.1 : Int)), (10, .int .i64 (s.2 : Int))]) (fun _ => []) (fun _ _ _ => True) (fun s => s.2 - s.1) (0, xs.length) ⟨⟨Nat.zero_le _, Nat.le_refl _⟩, fun q _ hq => absurd hq (Nat.not_lt_zero q), fun q y hq hy => absurd (List.getElem?_eq_some_iff.1 hy).1 (by omega)⟩ (lK rfl) (List.nil_sublist _) (fun _ _ h => h) ?_; rintro ⟨i, j⟩ ⟨⟨hi0, hj0⟩, hi1, hi2⟩; simp only at hi0 hj0 hi1 hi2; change HC _ _ [(0, _), (1, _), (2, _), (8, _), (9, .int .i64 (i : Int)), (10, .int .i64 (j : Int))] _ _ _ _; refine JP 8 rfl ?_; refine cD (fun h7 => ?_) fun h7 => ?_
 refine Jo 8 rfl ?_; refine Je (by omega) (by omega) ?_; refine Wo rfl (Wp (by omega) (by omega) (LR rfl (vN (n := 1) (b := (((i + j) / 2 : Nat) : Int)) rfl rfl rfl (by decide) (by omega) (by omega)) ?_)); refine Wo rfl (Je (by omega) (by omega) (JI 4 rfl ?_))
 obtain ⟨x, hx, hmx⟩ := QM (show (i + j) / 2 < xs.length by omega)
 refine Jo 4 rfl ?_
 refine LR rfl (Ju (j := ((i + j) / 2)) rfl hs rfl rfl rfl (by first | rfl | omega) (by omega)) ?_; refine LR rfl (Kp AcL.len oR rfl hs hx rfl rfl) ?_; refine Qx rfl (Jg rfl rfl rfl eg (hg x hmx) oR ?_); refine Wo rfl (J2 (congrArg Value.bool (vt (AcL.addr x) k)) (JI 2 rfl ?_)); refine cD (fun h10 => ?_) fun h10 => ?_
 refine Jo 3 rfl ?_; refine Je (by omega) (by omega) ?_; refine Jx 3 rfl ?_; refine Jz ?_; exact Jv ((i + j) / 2 + 1, j) ⟨⟨by simp only; omega, hj0⟩, Jdc hso hx (by assumption), hi2⟩ (by simp only; omega) (lK rfl) (List.nil_sublist _) (fun _ _ h => h)
 refine Kn 5 rfl ?_; refine Jz ?_; exact Jv (i, (i + j) / 2) ⟨⟨by simp only; omega, by simp only; omega⟩, hi1, Jdd hso hx (by assumption)⟩ (by simp only; omega) (lK rfl) (List.nil_sublist _) (fun _ _ h => h)
 ·refine JP 6 rfl ?_
  have hij : i = j := by omega
  have hlo : i = ZU AcL.addr k xs := Joj (by omega) hi1 (fun y hy => hi2 i y (by omega) hy)
  refine Jo 6 rfl ?_
  refine J4 39 rfl (fun gb => ?_) (fun gb => ?_) <;> (try simp only [ZZ] at gb) <;> first | (refine Qx rfl ?_) | (refine LK rfl ?_)
  all_goals refine LW 2 [] rfl rfl ?_
  all_goals first | (obtain ⟨x, hx, hmx⟩ := QM (show i < xs.length by omega); refine LR rfl (Ju (j := i) rfl hs rfl rfl rfl (by first | rfl | omega) (by omega)) ?_) | refine LK rfl ?_
  all_goals first | refine LR rfl (Kp AcL.len oR rfl hs hx rfl rfl) ?_ | refine LK rfl ?_
  all_goals refine LW 1 [] rfl rfl ?_
  all_goals first | refine Jg rfl rfl rfl eg (hg x hmx) oR ?_ | refine LK rfl ?_
  all_goals first | (refine Wo rfl ?_; refine J2 (congrArg Value.bool (Jdb (AcL.addr x) k)) ?_) | refine LK rfl ?_
  all_goals (
   refine LW 1 [] rfl rfl (Jx 3 rfl (ZJ 2 rfl ?_)); refine Jf rfl rfl (.cons (Jj rfl) (.cons (Jj rfl) .nil)) (fun w1 hs1 => ?_); refine ⟨?_, hs1.keep⟩
   first | (rw [← Jde (kf := AcL.addr) (hlo ▸ hx), ← hlo]; rfl) | (rw [ql (kf := AcL.addr) (by omega), ← hlo]; rfl)
   skip)
theorem Jqv {R : Jm} {xs : List AcL} {p : Pl} (hl : xs.length ≤ 1000) (hs : Seg R xs.length (xs.flatMap AcL.cells) p) (hso : Kx AcL.addr xs) {k : BS} :
  PureR Tryz.prog 322 [KP xs.length p, J5 k, fV 98].toArray (.tuple #[.int .i64 (ZU AcL.addr k xs : Nat), .bool (VB AcL.addr k xs)]) R := by
 refine Ja Tryz.func322 rfl rfl fun w => ?_; refine J8 ?_; refine Jo 2 rfl ?_; refine LN rfl fun r1 => ?_; refine JC 8 rfl ?_; refine LR rfl (JB rfl rfl) ?_; refine Jg (Rl := (r1, Obj.cells #[fV 98] _ (0, 0)) :: R) rfl rfl rfl (enters_of Tryz.func350 (by kernel_rfl) rfl) (Jl4 (caps := [.pointer (some ⟨r1, 0, none⟩)]) hl (hs.mono fun q hq => List.mem_cons_of_mem _ hq) hso (enters_of Tryz.func351 (by kernel_rfl) rfl) (fun x hx => J1d List.mem_cons_self x k)) (fun q hq => (List.mem_cons.1 hq).elim (fun h => Or.inl (by rw [h]; exact List.mem_cons_self)) Or.inr) ?_; refine Jx 7 rfl ?_; refine Jf rfl rfl (.cons (Jj rfl) (.cons (Jj rfl) .nil)) (fun w1 hs1 => ?_); exact ⟨rfl, hs1.keep⟩
theorem J1e {R : Jm} {rb e : Nat} (hb : (rb, Obj.cells #[fV 156] e (0, 0)) ∈ R) (x : (BS × BS)) (k : BS) : PureR Tryz.prog 355 [vS x, J5 k, .pointer (some ⟨rb, 0, none⟩)].toArray (.int .i64 (XZ (Prod.fst x) k)) R := by
 refine Ja Tryz.func355 rfl rfl fun w => ?_; refine J8 ?_; refine Jo 2 rfl ?_; refine LN rfl fun r1 => ?_; refine JC 5 rfl ?_; refine LR rfl (Jh rfl (Or.inr hb) rfl rfl) ?_; refine LR rfl (Jp (vs := [_, _]) rfl (kn 0 rfl) rfl rfl rfl rfl) ?_; refine Jl rfl rfl rfl Jii (Jaz x) ?_; refine Qx rfl (Jl rfl rfl rfl (enters_of Tryz.func76 (by kernel_rfl) rfl) (zJ (Prod.fst x) k) (Jx 4 rfl ?_)); refine pT rfl rfl rfl fun w1 hs1 => ?_; exact ⟨rfl, hs1.keep⟩
theorem Jl5 {R : Jm} {xs : List (BS × BS)} {p : Pl} (hl : xs.length ≤ 1000) (hs : Seg R xs.length (xs.flatMap Q9) p) (hso : Kx Prod.fst xs) {k : BS} {g : FuncId} {caps : List Value} (eg : Enters Tryz.prog g) (hg : ∀ x ∈ xs, PureR Tryz.prog g (vS x :: J5 k :: caps).toArray (.int .i64 (XZ (Prod.fst x) k)) R) :
  PureR Tryz.prog 354 [KP xs.length p, J5 k, .func (.func g) #[] caps.toArray].toArray (.tuple #[.int .i64 (ZU Prod.fst k xs : Nat), .bool (VB Prod.fst k xs)]) R := by
 refine Ja Tryz.func354 rfl rfl fun w => ?_; refine J8 ?_; refine Jo 9 rfl ?_; refine LR rfl (J3 rfl hs rfl) ?_; refine JI 12 rfl ?_; refine J1 (σ := Nat × Nat) (fun s => (s.1 ≤ s.2 ∧ s.2 ≤ xs.length) ∧ (∀ q y, q < s.1 → xs[q]? = some y → Op.bytesLess (Prod.fst y) k = true) ∧ ∀ q y, s.2 ≤ q → xs[q]? = some y → Op.bytesLess (Prod.fst y) k = false) (fun s => [(0, KP xs.length p), (1, J5 k), (2, .func (.func g) #[] caps.toArray), (8, .int .i64 (xs.length : Int)), (9, .int .i64 (s.1 : Int)), (10, .int .i64 (s.2 : Int))]) (fun _ => []) (fun _ _ _ => True) (fun s => s.2 - s.1) (0, xs.length) ⟨⟨Nat.zero_le _, Nat.le_refl _⟩, fun q _ hq => absurd hq (Nat.not_lt_zero q), fun q y hq hy => absurd (List.getElem?_eq_some_iff.1 hy).1 (by omega)⟩ (lK rfl) (List.nil_sublist _) (fun _ _ h => h) ?_; rintro ⟨i, j⟩ ⟨⟨hi0, hj0⟩, hi1, hi2⟩; simp only at hi0 hj0 hi1 hi2; change HC _ _ [(0, _), (1, _), (2, _), (8, _), (9, .int .i64 (i : Int)), (10, .int .i64 (j : Int))] _ _ _ _; refine JP 8 rfl ?_; refine cD (fun h7 => ?_) fun h7 => ?_
 refine Jo 8 rfl ?_; refine Je (by omega) (by omega) ?_; refine Wo rfl (Wp (by omega) (by omega) (LR rfl (vN (n := 1) (b := (((i + j) / 2 : Nat) : Int)) rfl rfl rfl (by decide) (by omega) (by omega)) ?_)); refine Wo rfl (Je (by omega) (by omega) (JI 4 rfl ?_))
 obtain ⟨x, hx, hmx⟩ := QM (show (i + j) / 2 < xs.length by omega)
 refine Jo 4 rfl ?_
 refine LR rfl (Ju (j := ((i + j) / 2)) rfl hs rfl rfl rfl (by first | rfl | omega) (by omega)) ?_; refine LR rfl (Kp Kl oR rfl hs hx rfl rfl) ?_; refine Qx rfl (Jg rfl rfl rfl eg (hg x hmx) oR ?_); refine Wo rfl (J2 (congrArg Value.bool (vt (Prod.fst x) k)) (JI 2 rfl ?_)); refine cD (fun h10 => ?_) fun h10 => ?_
 refine Jo 3 rfl ?_; refine Je (by omega) (by omega) ?_; refine Jx 3 rfl ?_; refine Jz ?_; exact Jv ((i + j) / 2 + 1, j) ⟨⟨by simp only; omega, hj0⟩, Jdc hso hx (by assumption), hi2⟩ (by simp only; omega) (lK rfl) (List.nil_sublist _) (fun _ _ h => h)
 refine Kn 5 rfl ?_; refine Jz ?_; exact Jv (i, (i + j) / 2) ⟨⟨by simp only; omega, by simp only; omega⟩, hi1, Jdd hso hx (by assumption)⟩ (by simp only; omega) (lK rfl) (List.nil_sublist _) (fun _ _ h => h)
 ·refine JP 6 rfl ?_
  have hij : i = j := by omega
  have hlo : i = ZU Prod.fst k xs := Joj (by omega) hi1 (fun y hy => hi2 i y (by omega) hy)
  refine Jo 6 rfl ?_
  refine J4 39 rfl (fun gb => ?_) (fun gb => ?_) <;> (try simp only [ZZ] at gb) <;> first | (refine Qx rfl ?_) | (refine LK rfl ?_)
  all_goals refine LW 2 [] rfl rfl ?_
  all_goals first | (obtain ⟨x, hx, hmx⟩ := QM (show i < xs.length by omega); refine LR rfl (Ju (j := i) rfl hs rfl rfl rfl (by first | rfl | omega) (by omega)) ?_) | refine LK rfl ?_
  all_goals first | refine LR rfl (Kp Kl oR rfl hs hx rfl rfl) ?_ | refine LK rfl ?_
  all_goals refine LW 1 [] rfl rfl ?_
  all_goals first | refine Jg rfl rfl rfl eg (hg x hmx) oR ?_ | refine LK rfl ?_
  all_goals first | (refine Wo rfl ?_; refine J2 (congrArg Value.bool (Jdb (Prod.fst x) k)) ?_) | refine LK rfl ?_
  all_goals (
   refine LW 1 [] rfl rfl (Jx 3 rfl (ZJ 2 rfl ?_)); refine Jf rfl rfl (.cons (Jj rfl) (.cons (Jj rfl) .nil)) (fun w1 hs1 => ?_); refine ⟨?_, hs1.keep⟩
   first | (rw [← Jde (kf := Prod.fst) (hlo ▸ hx), ← hlo]; rfl) | (rw [ql (kf := Prod.fst) (by omega), ← hlo]; rfl)
   skip)
theorem Jqw {R : Jm} {xs : List (BS × BS)} {p : Pl} (hl : xs.length ≤ 1000) (hs : Seg R xs.length (xs.flatMap Q9) p) (hso : Kx Prod.fst xs) {k : BS} :
  PureR Tryz.prog 324 [KP xs.length p, J5 k, fV 156].toArray (.tuple #[.int .i64 (ZU Prod.fst k xs : Nat), .bool (VB Prod.fst k xs)]) R := by
 refine Ja Tryz.func324 rfl rfl fun w => ?_; refine J8 ?_; refine Jo 2 rfl ?_; refine LN rfl fun r1 => ?_; refine JC 8 rfl ?_; refine LR rfl (JB rfl rfl) ?_; refine Jg (Rl := (r1, Obj.cells #[fV 156] _ (0, 0)) :: R) rfl rfl rfl (enters_of Tryz.func354 (by kernel_rfl) rfl) (Jl5 (caps := [.pointer (some ⟨r1, 0, none⟩)]) hl (hs.mono fun q hq => List.mem_cons_of_mem _ hq) hso (enters_of Tryz.func355 (by kernel_rfl) rfl) (fun x hx => J1e List.mem_cons_self x k)) (fun q hq => (List.mem_cons.1 hq).elim (fun h => Or.inl (by rw [h]; exact List.mem_cons_self)) Or.inr) ?_; refine Jx 7 rfl ?_; refine Jf rfl rfl (.cons (Jj rfl) (.cons (Jj rfl) .nil)) (fun w1 hs1 => ?_); exact ⟨rfl, hs1.keep⟩
end Go.Proofs.YtfaagelglpgpkaaGreatDoor
