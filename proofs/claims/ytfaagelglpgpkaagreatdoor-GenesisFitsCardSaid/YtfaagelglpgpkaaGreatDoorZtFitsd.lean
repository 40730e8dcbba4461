import Derived.Test.YtfaagelglpgpkaaGreatDoorZtFitsc
set_option maxRecDepth 100000
namespace Go.Proofs.YtfaagelglpgpkaaGreatDoor
set_option linter.all false
open Go.SL Go.RowKit Go.Shelf
theorem Jpc {k m : Nat} : 2 ^ k < m ↔ k < lg m := by
 constructor
 ·intro h
  rcases Nat.lt_or_ge k (lg m) with h1 | h1
  ·exact h1
  ·have h2 := Jhy m
   have h3 : 2 ^ lg m ≤ 2 ^ k := Nat.pow_le_pow_right (by decide) h1
   omega
 ·exact Jwg
theorem zm (l : List BS) : ∀ {i : Nat}, 2 * i + 1 < l.length → (SL.pairUp l).take (i + 1) = (SL.pairUp l).take i ++ [Wz (l.getD (2 * i) [] ++ l.getD (2 * i + 1) [])] := by
 induction l using SL.pairUp.induct with
 | case1 a b l ih =>
  intro i hi
  cases i with
  | zero => rw [SL.pairUp]; rfl
  | succ i =>
   rw [SL.pairUp, List.take_succ_cons, List.take_succ_cons, ih (by simp only [List.length_cons] at hi; omega), show 2 * (i + 1) = 2 * i + 1 + 1 by omega, show 2 * i + 1 + 1 + 1 = 2 * i + 1 + 1 + 1 by rfl]
   rfl
 | case2 l h =>
  intro i hi
  match l, h with
  | [], _ => simp at hi
  | [a], _ => simp at hi
  | a :: b :: l, h => exact absurd rfl (h a b l)
theorem qB (l : List BS) (z : BS) : (Qk l z).length % 2 = 0 := by rw [Xj]; omega
theorem wq {l : List BS} {z : BS} (h : ∀ x ∈ l, x.length = 32) (hz : z.length = 32) : ∀ x ∈ Qk l z, x.length = 32 := by
 intro x hx
 unfold Qk at hx
 split at hx
 ·rcases List.mem_append.1 hx with hx | hx
  ·exact h x hx
  ·rw [List.mem_singleton.1 hx]; exact hz
 ·exact h x hx
theorem j3 {l : List BS} (h : ∀ x ∈ l, x.length = 32) {i : Nat} (hi : i < l.length) : (l.getD i []).length = 32 := h _ (List.mem_of_getElem? (wp hi))
theorem Jdf {n : Nat} (h : n ≤ 65536) : IntKind.i64.wrap ((n : Int) * 2) = ((n * 2 : Nat) : Int) := by
 rw [wrap_i64 (by omega) (by omega)]; omega
structure TreeI (l0 : List BS) (m : Nat) (k : Nat) (ls : List BS) (row : QU) (z : BS) : Prop where
  le : k ≤ lg m
  ok : rowOk 1 ls.length (Wk ls) row
  eq : Vw (lg m - k) ls z = Vd l0 m
  len : ls.length ≤ 2 ^ (lg m - k)
  mem : ∀ x ∈ ls, x.length = 32
  zl : z.length = 32
set_option maxHeartbeats 1000000 in
theorem vn {R : Ji} {l : List BS} {p : Pl} {m : Nat} (hl : l.length ≤ m) (hm2 : m ≤ 65536) (hs : Seg R l.length (Wk l) p) (h32 : ∀ s ∈ l, s.length = 32) :
  PureR Tryz.prog 168 [KL l.length p, .int .i64 (m : Int)].toArray (J4 (Vd l m)) R := by
 have hlg : lg m ≤ 16 := Jzu (by simpa using hm2)
 have h0 := jw hl
 refine Ja Tryz.func168 rfl rfl fun w => ?_; refine JA ?_; refine Jq 8 rfl ?_; refine Kz rfl rfl rfl (enters_of Tryz.func223 (by kernel_rfl) rfl) (Jpb (by omega) hs) oR fun x => ?_
 obtain ⟨row, hrow⟩ := x
 refine Kx (List.perm_append_comm (l₂ := [])) ?_; change HL _ _ ((11, JE l.length row) :: _) (JP 9 (Wk l) row) _ _ _ _; refine JG 5 rfl ?_; refine Jn rfl rfl rfl Jon (Jfw (s := []) (by decide)) ?_; refine J3 (show _ = J4 z32 from rfl) ?_; refine JK 10 rfl ?_; refine Joa (σ := Nat × List BS × QU × BS × List Nat) (fun q => q.2.2.2.2.map VT ++ []) (fun q => TreeI l m q.1 q.2.1 q.2.2.1 q.2.2.2.1) (fun q => [(0, JE q.2.1.length q.2.2.1), (1, .int .i64 (m : Int)), (5, J4 q.2.2.2.1), (6, .int .i64 ((2 ^ q.1 : Nat) : Int))]) (fun q => W3 q.2.2.2.2 ++ JP 9 (Wk q.2.1) q.2.2.1) (fun _ _ _ => True) (fun q => lg m - q.1) (0, l, row, z32, []) rfl ⟨Nat.zero_le _, hrow, h0, Nat.le_trans hl (Jhy m), h32, rfl⟩ (lK rfl) (List.Sublist.refl _) (fun _ _ h => h) ?_; rintro ⟨k, ls, row, z, Ds⟩ hi; refine inK ?_; simp only at hi; change HC _ (Ds.map VT ++ []) [(0, JE ls.length row), (1, _), (5, J4 z), (6, .int .i64 ((2 ^ k : Nat) : Int))] (W3 Ds ++ JP _ (Wk ls) row) _ _ _; refine JN 8 rfl ?_; refine cD (fun g => ?_) fun g => ?_
 ·refine JN 6 rfl ?_
  have hk : k < lg m := Jpc.1 (by omega)
  obtain ⟨K, hK⟩ : ∃ K, lg m - k = K + 1 := ⟨lg m - k - 1, by omega⟩
  have heq := hi.eq
  have hlen := hi.len
  rw [hK, Vw] at heq; rw [hK, Nat.pow_succ] at hlen
  have hK16 : 2 ^ K ≤ 65536 := by have := Nat.pow_le_pow_right (n := 2) (i := K) (j := 16) (by decide) (by omega); simpa using this
  have hzl := hi.zl
  have hk16 : 2 ^ k ≤ 65536 := by have := Nat.pow_le_pow_right (n := 2) (i := k) (j := 16) (by decide) (by omega); simpa using this
  refine Jq 2 rfl ?_; refine LR rfl (WZ rfl hi.ok.zero rfl) ?_; refine VQ rfl (J3 (show _ = Value.int .i64 ((ls.length % 2 : Nat) : Int) from congrArg (Value.int .i64) (WI _ 2)) (JK 3 rfl ?_)); refine cD (fun g => ?_) fun g => ?_
  ·refine Jq 3 rfl ?_; refine JM (vs := [_]) (zs := [_]) (r := [_]) rfl rfl rfl rfl rfl rfl rfl rfl rfl (by show (madeCells #[_] _).toList = _; rw [QW]; exact rfl) rfl fun r1 => ?_; refine KI (L0 := _ :: W3 Ds) (xs := Wk ls) (row := row) (n := ls.length) (sz := 1) (b := 16) (news := [_]) (List.perm_append_comm (l₁ := _ :: W3 Ds)) rfl rfl rfl rfl (kn 0 rfl) rfl rfl rfl rfl rfl (by decide) rfl rfl rfl (by decide) hi.ok (by omega) (by omega) fun ra cap sp hra => ?_; refine JK 4 rfl ?_
   (have e : Qk ls z = ls ++ [z] := by unfold Qk; rw [if_pos (by omega)]
    refine Jhw (List.perm_append_comm (l₁ := [_])) ?_; refine Jti (L' := W3 Ds ++ JP 9 (Wk ls ++ [J4 z]) (some (ra, cap, sp))) (.cons _ (List.Sublist.refl _)) ?_; change HC _ _ ((0, JE (ls.length + 1) (some (ra, cap, sp))) :: _) _ _ _ _
    generalize hn2 : ls.length + 1 = n2 at hra ⊢
    generalize hc2 : Wk ls ++ [J4 z] = xs2 at hra ⊢
    generalize (some (ra, cap, sp) : QU) = row2 at hra ⊢
    obtain rfl : n2 = (Qk ls z).length := by rw [e, ← hn2, List.length_append]; rfl
    obtain rfl : xs2 = Wk (Qk ls z) := by rw [e, ← hc2]; unfold Wk; rw [List.map_append]; rfl)
   have hm2e := wq hi.mem hi.zl
   have hev := qB ls z
   have hl2 := Xj ls z
   obtain ⟨ls2, hls2⟩ : ∃ x, x = Qk ls z := ⟨_, rfl⟩
   rw [← hls2] at hm2e hev hl2 hra heq ⊢
   have hl2b : ls2.length ≤ 2 ^ K * 2 := by omega
   refine Jq 1 rfl ?_; refine LN rfl fun r1 => ?_; refine JG 6 rfl ?_; refine JQ rfl rfl rfl (enters_of Tryz.func224 (by kernel_rfl) rfl) (Jdd ls2.length row2) fun rb => ?_; refine Kx ((List.Perm.swap _ _ _).trans (List.Perm.cons _ List.perm_middle.symm)) ?_; change HL _ _ _ ((r1, .cells #[.slice none 0 0] 184 (0, 0)) :: (W3 Ds ++ ((rb, .cells #[JE ls2.length row2] 184 (0, 0)) :: JP 9 (Wk ls2) row2))) _ _ _ _; refine JK 3 rfl ?_; refine VU (τ := Unit) (fun i (s : Nat × List Value × QU) => 2 * i ≤ ls2.length ∧ s.1 = i ∧ s.2.1 = Wk ((SL.pairUp ls2).take i) ∧ rowOk 1 i s.2.1 s.2.2) (fun s => (r1, .cells #[JE s.1 s.2.2] 184 (0, 0)) :: JP 9 s.2.1 s.2.2) (fun _ _ => False) (fun _ => []) (W3 Ds ++ ((rb, .cells #[JE ls2.length row2] 184 (0, 0)) :: JP 9 (Wk ls2) row2)) (0, [], none) rfl rfl (enters_of Tryz.func306 (by kernel_rfl) rfl) (Jde (by omega) hra rb) zk rfl (fun q hq => .inl (List.mem_append_right _ hq)) rfl ⟨Nat.zero_le _, rfl, rfl, rfl, rfl⟩ ?_ ?_ ?_
   rintro q Xr Xb w3 i _ _ _ ⟨n, xs, row3⟩ ⟨hii, rfl, rfl, rfl⟩ ⟨h2i, hn, hxs, hr3⟩ Kr hKr; refine xj ?_
   simp only at hn hxs hr3; rw [← hn] at hr3; refine Ko 8 rfl ?_; refine hKr _ _ ?_; refine JA ?_; clear hKr; refine JN 1 rfl ?_
   have hg1 := j3 hm2e (i := 2 * i) (by omega)
   have hg2 := j3 hm2e (i := 2 * i + 1) (by omega)
   have hkc := wo (s := ls2.getD (2 * i) [] ++ ls2.getD (2 * i + 1) []) (by rw [List.length_append]; omega)
   obtain ⟨sv, hsv⟩ : ∃ x, x = Wz (ls2.getD (2 * i) [] ++ ls2.getD (2 * i + 1) []) := ⟨_, rfl⟩
   rw [← hsv] at hkc; refine Jbt [(r1, .cells #[JE n row3] 184 (0, 0))] [(0, .pure), (1, .pure), (2, .pure), (3, .pure), (4, .pure), (5, .act (Jg3 (slV 1) (.cells #[J4 sv] 9 (0, 0))))] 6 (by kernel_rfl) (by kernel_rfl) (fun p hp => List.mem_singleton.1 hp ▸ List.mem_cons_self) ?_; refine Jbu rfl rfl rfl rfl (fun _ hS => (Jd rfl (.inl (hS _ (Jr (n := 0) rfl))) rfl rfl)) ?_; refine Jbu rfl rfl rfl rfl (fun _ hS => (Jf rfl)) ?_; refine Jbu rfl rfl rfl rfl (fun _ hS => (Jf rfl)) ?_; refine Jbu rfl rfl rfl rfl (fun _ hS => (QA (a := ls2.getD (2 * i) []) (b := ls2.getD (2 * i + 1) []) rfl rfl (by omega))) ?_; refine Jbv rfl rfl rfl rfl Jfo hkc ?_; refine Zv (n := 1) (sz := 1) (vs := [_]) (zs := [_]) (r := [J4 sv]) rfl rfl rfl rfl rfl rfl rfl rfl rfl rfl (by show (madeCells #[_] _).toList = _; rw [QW]; exact rfl) rfl (fun p hp => List.mem_singleton.1 hp ▸ List.mem_cons_self) fun rv => ?_; refine Jmy ?_; refine KI (L0 := [_, _]) (xs := xs) (row := row3) (n := n) (sz := 1) (b := 16) (news := [J4 sv]) (List.perm_append_comm (l₁ := [_, _])) rfl rfl rfl rfl (kn 0 rfl) rfl rfl rfl rfl rfl (by decide) rfl rfl rfl (by decide) hr3 (by omega) (by omega) fun ra cap sp hra => ?_; refine KP (k := 2) (cs' := #[JE (n + 1) (some (ra, cap, sp))]) rfl rfl rfl rfl rfl rfl rfl rfl rfl rfl ?_; refine Jw 2 rfl ?_; refine KZ [2, 0] (L' := [_, _]) (by decide) rfl ?_; exact Ki (n + 1, xs ++ [J4 sv], some (ra, cap, sp)) ⟨by omega, by simp only; omega, by simp only; rw [zm ls2 hii, ← hsv, hxs]; unfold Wk; rw [List.map_append]; rfl, by rw [← hn]; exact hra⟩ rfl
   rintro D i ⟨n, xs, row3⟩ hfi ⟨h2i, hn, hxs, hr3⟩
   simp only at hn hxs hr3
   have hi2 : 2 * i = ls2.length := by omega
   have hpl := Wd ls2
   rw [List.take_of_length_le (by omega)] at hxs
   obtain rfl : n = (SL.pairUp ls2).length := by omega
   subst hxs; rw [← hn] at hr3; refine Y6 2 rfl ?_
   have hkz := wo (s := z ++ z) (by rw [List.length_append]; omega)
   obtain ⟨z2, hz2⟩ : ∃ x, x = Wz (z ++ z) := ⟨_, rfl⟩
   rw [← hz2] at hkz heq; refine JD 7 (by kernel_rfl) (by kernel_rfl) ?_; refine Jb rfl rfl rfl (Jd (v := JE (SL.pairUp ls2).length row3) rfl (kn 1 rfl) rfl rfl) ?_; refine Jb rfl rfl rfl (Jf rfl) ?_; refine Jb rfl rfl rfl (Jf rfl) ?_; refine Jb rfl rfl rfl (QA (a := z) (b := z) rfl rfl (by omega)) ?_; refine Kl rfl rfl rfl Jfo hkz ?_; refine Jb rfl rfl rfl (J6 rfl) ?_; refine Jb rfl rfl rfl (J6 rfl) ?_; refine JS ?_; refine JG 6 rfl ?_; refine J3 (show _ = Value.int .i64 ((2 ^ (k + 1) : Nat) : Int) from congrArg (Value.int .i64) ((Jdf hk16).trans (by rw [Nat.pow_succ]))) ?_; refine Jw 2 rfl ?_; refine Jx ?_; refine zT (List.Perm.cons _ (VJ (_ :: JP 9 (Wk (SL.pairUp ls2)) row3) (W3 Ds) _)) ?_; exact zf (k + 1, SL.pairUp ls2, row3, z2, D :: Ds) rfl ⟨hk, hr3, by rw [show lg m - (k + 1) = K by omega]; exact heq, by rw [show lg m - (k + 1) = K by omega]; simp only; omega, ZF ls2, by rw [hz2]; exact Zb _⟩ (by simp only; omega) (lK rfl) (.cons_cons _ ((List.Sublist.refl _).append (.cons _ (List.sublist_append_left _ _)))) (fun _ _ h => h)
   exact fun _ _ _ h => h.elim
  ·refine JN 3 rfl ?_
   (have e : Qk ls z = ls := by unfold Qk; rw [if_neg (by omega)]
    have hra := hi.ok
    generalize row = row2 at hra ⊢
    generalize hn2 : ls.length = n2 at hra ⊢
    generalize hc2 : Wk ls = xs2 at hra ⊢
    obtain rfl : n2 = (Qk ls z).length := by rw [e, ← hn2]
    obtain rfl : xs2 = Wk (Qk ls z) := by rw [e, ← hc2])
   have hm2e := wq hi.mem hi.zl
   have hev := qB ls z
   have hl2 := Xj ls z
   obtain ⟨ls2, hls2⟩ : ∃ x, x = Qk ls z := ⟨_, rfl⟩
   rw [← hls2] at hm2e hev hl2 hra heq ⊢
   have hl2b : ls2.length ≤ 2 ^ K * 2 := by omega
   refine Jq 1 rfl ?_; refine LN rfl fun r1 => ?_; refine JG 6 rfl ?_; refine JQ rfl rfl rfl (enters_of Tryz.func224 (by kernel_rfl) rfl) (Jdd ls2.length row2) fun rb => ?_; refine Kx ((List.Perm.swap _ _ _).trans (List.Perm.cons _ List.perm_middle.symm)) ?_; change HL _ _ _ ((r1, .cells #[.slice none 0 0] 184 (0, 0)) :: (W3 Ds ++ ((rb, .cells #[JE ls2.length row2] 184 (0, 0)) :: JP 9 (Wk ls2) row2))) _ _ _ _; refine JK 3 rfl ?_; refine VU (τ := Unit) (fun i (s : Nat × List Value × QU) => 2 * i ≤ ls2.length ∧ s.1 = i ∧ s.2.1 = Wk ((SL.pairUp ls2).take i) ∧ rowOk 1 i s.2.1 s.2.2) (fun s => (r1, .cells #[JE s.1 s.2.2] 184 (0, 0)) :: JP 9 s.2.1 s.2.2) (fun _ _ => False) (fun _ => []) (W3 Ds ++ ((rb, .cells #[JE ls2.length row2] 184 (0, 0)) :: JP 9 (Wk ls2) row2)) (0, [], none) rfl rfl (enters_of Tryz.func306 (by kernel_rfl) rfl) (Jde (by omega) hra rb) zk rfl (fun q hq => .inl (List.mem_append_right _ hq)) rfl ⟨Nat.zero_le _, rfl, rfl, rfl, rfl⟩ ?_ ?_ ?_
   rintro q Xr Xb w3 i _ _ _ ⟨n, xs, row3⟩ ⟨hii, rfl, rfl, rfl⟩ ⟨h2i, hn, hxs, hr3⟩ Kr hKr; refine xj ?_
   simp only at hn hxs hr3; rw [← hn] at hr3; refine Ko 8 rfl ?_; refine hKr _ _ ?_; refine JA ?_; clear hKr; refine JN 1 rfl ?_
   have hg1 := j3 hm2e (i := 2 * i) (by omega)
   have hg2 := j3 hm2e (i := 2 * i + 1) (by omega)
   have hkc := wo (s := ls2.getD (2 * i) [] ++ ls2.getD (2 * i + 1) []) (by rw [List.length_append]; omega)
   obtain ⟨sv, hsv⟩ : ∃ x, x = Wz (ls2.getD (2 * i) [] ++ ls2.getD (2 * i + 1) []) := ⟨_, rfl⟩
   rw [← hsv] at hkc; refine Jbt [(r1, .cells #[JE n row3] 184 (0, 0))] [(0, .pure), (1, .pure), (2, .pure), (3, .pure), (4, .pure), (5, .act (Jg3 (slV 1) (.cells #[J4 sv] 9 (0, 0))))] 6 (by kernel_rfl) (by kernel_rfl) (fun p hp => List.mem_singleton.1 hp ▸ List.mem_cons_self) ?_; refine Jbu rfl rfl rfl rfl (fun _ hS => (Jd rfl (.inl (hS _ (Jr (n := 0) rfl))) rfl rfl)) ?_; refine Jbu rfl rfl rfl rfl (fun _ hS => (Jf rfl)) ?_; refine Jbu rfl rfl rfl rfl (fun _ hS => (Jf rfl)) ?_; refine Jbu rfl rfl rfl rfl (fun _ hS => (QA (a := ls2.getD (2 * i) []) (b := ls2.getD (2 * i + 1) []) rfl rfl (by omega))) ?_; refine Jbv rfl rfl rfl rfl Jfo hkc ?_; refine Zv (n := 1) (sz := 1) (vs := [_]) (zs := [_]) (r := [J4 sv]) rfl rfl rfl rfl rfl rfl rfl rfl rfl rfl (by show (madeCells #[_] _).toList = _; rw [QW]; exact rfl) rfl (fun p hp => List.mem_singleton.1 hp ▸ List.mem_cons_self) fun rv => ?_; refine Jmy ?_; refine KI (L0 := [_, _]) (xs := xs) (row := row3) (n := n) (sz := 1) (b := 16) (news := [J4 sv]) (List.perm_append_comm (l₁ := [_, _])) rfl rfl rfl rfl (kn 0 rfl) rfl rfl rfl rfl rfl (by decide) rfl rfl rfl (by decide) hr3 (by omega) (by omega) fun ra cap sp hra => ?_; refine KP (k := 2) (cs' := #[JE (n + 1) (some (ra, cap, sp))]) rfl rfl rfl rfl rfl rfl rfl rfl rfl rfl ?_; refine Jw 2 rfl ?_; refine KZ [2, 0] (L' := [_, _]) (by decide) rfl ?_; exact Ki (n + 1, xs ++ [J4 sv], some (ra, cap, sp)) ⟨by omega, by simp only; omega, by simp only; rw [zm ls2 hii, ← hsv, hxs]; unfold Wk; rw [List.map_append]; rfl, by rw [← hn]; exact hra⟩ rfl
   rintro D i ⟨n, xs, row3⟩ hfi ⟨h2i, hn, hxs, hr3⟩
   simp only at hn hxs hr3
   have hi2 : 2 * i = ls2.length := by omega
   have hpl := Wd ls2
   rw [List.take_of_length_le (by omega)] at hxs
   obtain rfl : n = (SL.pairUp ls2).length := by omega
   subst hxs; rw [← hn] at hr3; refine Y6 2 rfl ?_
   have hkz := wo (s := z ++ z) (by rw [List.length_append]; omega)
   obtain ⟨z2, hz2⟩ : ∃ x, x = Wz (z ++ z) := ⟨_, rfl⟩
   rw [← hz2] at hkz heq; refine JD 7 (by kernel_rfl) (by kernel_rfl) ?_; refine Jb rfl rfl rfl (Jd (v := JE (SL.pairUp ls2).length row3) rfl (kn 1 rfl) rfl rfl) ?_; refine Jb rfl rfl rfl (Jf rfl) ?_; refine Jb rfl rfl rfl (Jf rfl) ?_; refine Jb rfl rfl rfl (QA (a := z) (b := z) rfl rfl (by omega)) ?_; refine Kl rfl rfl rfl Jfo hkz ?_; refine Jb rfl rfl rfl (J6 rfl) ?_; refine Jb rfl rfl rfl (J6 rfl) ?_; refine JS ?_; refine JG 6 rfl ?_; refine J3 (show _ = Value.int .i64 ((2 ^ (k + 1) : Nat) : Int) from congrArg (Value.int .i64) ((Jdf hk16).trans (by rw [Nat.pow_succ]))) ?_; refine Jw 2 rfl ?_; refine Jx ?_; refine zT (List.Perm.cons _ (VJ (_ :: JP 9 (Wk (SL.pairUp ls2)) row3) (W3 Ds) _)) ?_; exact zf (k + 1, SL.pairUp ls2, row3, z2, D :: Ds) rfl ⟨hk, hr3, by rw [show lg m - (k + 1) = K by omega]; exact heq, by rw [show lg m - (k + 1) = K by omega]; simp only; omega, ZF ls2, by rw [hz2]; exact Zb _⟩ (by simp only; omega) (lK rfl) (.cons_cons _ ((List.Sublist.refl _).append (.cons _ (List.sublist_append_left _ _)))) (fun _ _ h => h)
   exact fun _ _ _ h => h.elim
 ·refine JN 7 rfl ?_
  have hkl : ¬ k < lg m := fun h => by have := Jpc.2 h; omega
  obtain rfl : k = lg m := by have := hi.le; omega
  have heq := hi.eq
  have hlen := hi.len
  rw [Nat.sub_self] at heq hlen; refine Jq 2 rfl ?_; refine LR rfl (WZ rfl hi.ok.zero rfl) ?_; refine JK 3 rfl ?_; refine cD (fun g => ?_) fun g => ?_
  refine Ko 8 rfl ?_; refine wg Ds ?_; refine pT rfl rfl rfl fun w1 hs1 => ?_; refine ⟨?_, hs1.keep⟩
  (obtain rfl : ls = [] := List.eq_nil_of_length_eq_zero (by omega)
   rw [← heq]; rfl)
  ·refine JN 3 rfl ?_
   obtain ⟨s0, hls1⟩ : ∃ s0, ls = [s0] := by
    match ls, hlen with
    | [a], _ => exact ⟨a, rfl⟩
    | [], _ => exact absurd rfl (by assumption)
    | _ :: _ :: _, h => simp at h
   refine Jq 2 rfl ?_; refine LR rfl (Jp (p := Vc row) (j := 0) (show _ = some (KL ls.length (Vc row)) from by rw [Xi _ _ hi.ok.zero]; rfl) (KF (e := 9) hi.ok (by decide)) rfl rfl rfl rfl (by omega)) ?_; refine LR rfl (VX (p := Vc row) (fun q hq => Or.inl (List.mem_append_right _ hq)) rfl (KF (e := 9) hi.ok (by decide)) (by omega) rfl (xX (show ls[0]? = some s0 from by rw [hls1]; rfl))) ?_; refine Jw 4 rfl ?_; refine wg Ds ?_; refine pT rfl rfl rfl fun w1 hs1 => ?_; refine ⟨?_, hs1.keep⟩; rw [← heq, hls1]; rfl
abbrev fV1 (f : FuncId) : Value := .func (.func f) #[] #[]
def Ys (root : BS) (n : Nat) : BS := Wz (root ++ yv (jf n 8))
theorem le8 {n : Nat} (h : n < 18446744073709551616) : yw n 8 = (jf n 8, 0) := by
 unfold yw
 rw [if_neg]
 ·rfl
 ·have := (Jil (n := n) (k := 8) h (by decide)).2 (by simpa using h)
  omega
theorem Jpd {root : BS} (hr : root.length ≤ 1000) {n : Nat} (hn : n ≤ 9223372036854775807) : Pure Tryz.prog 163 [J4 root, .int .i64 (n : Int)].toArray (J4 (Ys root n)) := by
 have hk := wo (s := root ++ yv (jf n 8)) (by rw [List.length_append, vP (by rw [Vk]; decide)]; omega)
 change Pure _ _ _ (J4 (Ys root n)) at hk
 have hp := vP (s := jf n 8) (by rw [Vk]; decide)
 generalize Ys root n = z at hk
 refine Jm Tryz.func163 rfl rfl fun w => ?_; refine JA ?_; refine Jq 9 rfl ?_; refine J3 (show _ = uV n from congrArg (Value.int .u64) (wrap_u64 (z := (n : Int)) (by omega) (by omega))) ?_; refine Jn rfl rfl rfl Jto (j0 (n := n) (by omega) 8) ?_; refine J3 (show _ = Value.tuple #[J4 (jf n 8), .int .i64 0] from by rw [le8 (by omega)]; rfl) ?_; refine JG 11 rfl ?_; refine Jn rfl rfl rfl Jon (Jfw (s := jf n 8) (by rw [Vk]; decide)) ?_; refine LR rfl (QA (a := root) (b := yv (jf n 8)) rfl rfl (by omega)) ?_; refine Jn rfl rfl rfl Jfo hk ?_; refine Jw 4 rfl ?_; refine pT rfl rfl rfl fun w1 hs1 => ?_; exact ⟨rfl, hs1.keep⟩
theorem YM (l : List BS) (s : BS) : Wk (l ++ [s]) = Wk l ++ [J4 s] := by unfold Wk; rw [List.map_append]; rfl
theorem XX {Y : BS} {i : Nat} (h : i < Y.length) : (Y.map bV)[i]? = some (bV (Y.getD i 0)) := by
 rw [List.getElem?_map, List.getD_eq_getElem?_getD, List.getElem?_eq_getElem h]; rfl
def Yt (xs : BS) : Nat → BS
 | 0 => xs
 | i + 1 => ((Yt xs i).set i ((Yt xs i).getD (xs.length - 1 - i) 0)).set (xs.length - 1 - i) ((Yt xs i).getD i 0)
theorem XY (xs : BS) : ∀ i, (Yt xs i).length = xs.length
 | 0 => rfl
 | i + 1 => by rw [Yt, List.length_set, List.length_set, XY xs i]
theorem getD_set {Y : BS} {i j : Nat} {b : UInt8} (hi : i < Y.length) : (Y.set i b).getD j 0 = if i = j then b else Y.getD j 0 := by
 rw [List.getD_eq_getElem?_getD, List.getElem?_set, List.getD_eq_getElem?_getD]
 split
 ·first | rfl | (rw [if_pos hi]; rfl) | simp [hi]
 ·rfl
theorem j4 (xs : BS) : ∀ {i j : Nat}, 2 * i ≤ xs.length → j < xs.length → (Yt xs i).getD j 0 = if j < i ∨ xs.length - 1 - j < i then xs.getD (xs.length - 1 - j) 0 else xs.getD j 0
 | 0, j, _, hj => by rw [Yt, if_neg (by omega)]
 | i + 1, j, hi, hj => by
  have h1 := XY xs i
  have ga := j4 xs (i := i) (j := xs.length - 1 - i) (by omega) (by omega)
  have gb := j4 xs (i := i) (j := i) (by omega) (by omega)
  have gj := j4 xs (i := i) (j := j) (by omega) hj
  rw [if_neg (by omega)] at ga gb; rw [Yt, getD_set (by rw [List.length_set, h1]; omega), getD_set (by rw [h1]; omega), ga, gb, gj]
  by_cases e1 : xs.length - 1 - i = j
  ·rw [if_pos e1, if_pos (by omega)]
   congr 1; omega
  ·rw [if_neg e1]
   by_cases e2 : i = j
   ·rw [if_pos e2, if_pos (by omega)]
    congr 1; omega
   ·rw [if_neg e2]
    by_cases e3 : j < i ∨ xs.length - 1 - j < i
    ·rw [if_pos e3, if_pos (by omega)]
    ·rw [if_neg e3, if_neg (by omega)]
theorem Jdg {xs : BS} {i : Nat} (h1 : 2 * i ≤ xs.length) (h2 : xs.length ≤ 2 * i + 1) : Yt xs i = xs.reverse := by
 apply List.ext_getElem?
 intro j
 by_cases hj : j < xs.length
 ·have e1 : (Yt xs i)[j]? = some ((Yt xs i).getD j 0) := by rw [List.getD_eq_getElem?_getD, List.getElem?_eq_getElem (by rw [XY]; exact hj)]; rfl
  rw [e1, j4 xs h1 hj, List.getElem?_reverse hj]
  have e2 : xs[xs.length - 1 - j]? = some (xs.getD (xs.length - 1 - j) 0) := by rw [List.getD_eq_getElem?_getD, List.getElem?_eq_getElem (by omega)]; rfl
  rw [e2]
  by_cases e3 : j < i ∨ xs.length - 1 - j < i
  ·rw [if_pos e3]
  ·rw [if_neg e3, show xs.length - 1 - j = j by omega]
 ·rw [List.getElem?_eq_none (by rw [XY]; omega), List.getElem?_eq_none (by rw [List.length_reverse]; omega)]
theorem j5 {Y : BS} {sp : List Value} {i : Nat} {b : UInt8} (h : i < Y.length) : (Y.map bV ++ sp).toArray.setIfInBounds i (bV b) = ((Y.set i b).map bV ++ sp).toArray := by
 rw [List.setIfInBounds_toArray, List.set_append_left _ _ (by rw [List.length_map]; exact h), List.map_set]
section
variable {c : Cx} {l : Ks} {L E : Ji} {X : XP} {Q : Exit → Act → World → Prop} {d : List Deferred}
variable {ops : Array Oper} {rest : List Nat} {i k : Nat} {v : Value} {o : Oper} {tb : ZL} {S : Ji} {T : Ji → Act → Prop}
theorem Zl {t ty : TypeId} {ps : String} {af : Array Edge} {gd : Option (Nat × Bool)} {x y : Operand} {q r off : Nat} {cs cs' : Array Value} {e : TypeId} {fr : Nat × Nat} {E' : Ji} (hko : WP ops.toList k = some ⟨none, .store t x y, ty, ps, af, gd⟩) (hg : Kc l ops ⟨none, .store t x y, ty, ps, af, gd⟩ = some true) (hA : tb k = .turn)
  (hx : JX l x = some (.pointer (some ⟨r, off, none⟩))) (hk : E[q]? = some (r, .cells cs e fr)) (hy : JX l y = some v) (ht : KH c.P t = some 1) (ho : Q2 v = true) (hfr : frB fr off = false) (hc : (cs[off]?).isSome = true)
  (hcs : cs.setIfInBounds off v = cs') (hL : E.set q (r, .cells cs' e fr) = E') (hS : SubS S E')
  (h : HB c d l E' X S ops tb rest T) : HB c d l E X S ops tb (k :: rest) T :=
 jl hko hg rfl hA (fun a w hf hs => ⟨w.setCell ⟨r, off, none⟩ v, by
  simp only [execOp]; rw [hf.eval hx, hf.eval hy]
  obtain ⟨old, hold⟩ := Option.isSome_iff_exists.1 hc
  have h1 := run_store c.P w ⟨r, off, none⟩ v .plain (by rw [WD]; exact ho)
  rw [Vi (hs.get hk), hold, XJ (hs.get hk) hfr] at h1
  have hcell : v.cells = #[v] := by cases v <;> first | rfl | cases ho
  simp [Instr.storeAt, Instr.sureAddr, Sem.run_bind, Result.andThen, storeVar, QP ht, hcell, storeCells, Addr.add, h1], by
  subst hL; subst hcs
  exact hs.set hk (Keep.setCell r off v) (Go.SL.heap_setCell_same v (hs.get hk))⟩) hS h
end
section
variable {c : Cx} {l : Ks} {L : Ji} {X : XP} {d : List Deferred} {i : Nat} {ps : String} {af : Array Edge} {gd : Option (Nat × Bool)} {ty : TypeId}
theorem qC {x : Operand} {b : List UInt8} {r n cap : Nat} {cs : Array Value} {e src dst : TypeId} {fr : Nat × Nat} (hx : JX l x = some (.slice (some ⟨r, 0, none⟩) n cap)) (hk : known c L r (.cells cs e fr)) (hn : n = b.length) (ht : cs.toList.take b.length = b.map bV)
  (hs : Kj c.P src = some e) (he : c.P.underlying e = some (.int .u8)) (hd : vC c.P dst = true) :
  J5 c d l L X ⟨some i, .convert src dst x, ty, ps, af, gd⟩ (.string (bs b)) := fun a' w hf hst => by
 subst hn; simp only [execOp]; rw [hf.eval hx]
 have hget := hst.known hk
 have hl := qp (P := c.P) (xs := b.map bV) hget (by rw [List.length_map]; exact ht)
 rw [List.length_map] at hl; simp only [Sem.run_bind]; rw [run_convert_bytes_string w src dst e _ _ _ (JV hs) he (QH hd)]; rw [run_bytesToString w _ _ _ (b.map fun x => ((x.toNat : Nat) : Int)) (by rw [hl]; simp [bV, Function.comp_def])]
 have := YW b []
 rw [show (bs [] : ByteArray) = ByteArray.empty from rfl] at this; rw [this]
 rfl
end
theorem Jk8 {xs : BS} {sp : List Value} {r cap : Nat} {fr : Nat × Nat} (hfr : ∀ q, q < xs.length → frB fr q = false) (hc : xs.length ≤ cap) (hx : xs.length ≤ 9223372036854775807) : PureT (α := Unit) Tryz.prog 214 [.slice (some ⟨r, 0, none⟩) xs.length cap].toArray (fun _ => .tuple #[])
  [(r, .cells (xs.map bV ++ sp).toArray 5 fr)] (fun _ => [(r, .cells (xs.reverse.map bV ++ sp).toArray 5 fr)]) [] := by
 refine Ju Tryz.func214 rfl rfl fun w => ?_; refine JA ?_; refine Jq 3 rfl ?_; refine LR rfl (JU rfl rfl) ?_; refine VQ rfl (J3 (show _ = Value.int .i64 ((xs.length : Int) - 1) from congrArg (Value.int .i64) (wrap_i64 (by omega) (by omega))) (JK 5 rfl ?_)); refine J0 (σ := Nat) (fun i => 2 * i ≤ xs.length + 1 ∧ 2 * i ≤ xs.length) (fun i => [(0, .slice (some ⟨r, 0, none⟩) xs.length cap), (2, .int .i64 (i : Int)), (3, .int .i64 ((xs.length : Int) - 1 - (i : Int)))]) (fun i => [(r, .cells ((Yt xs i).map bV ++ sp).toArray 5 fr)]) (fun _ _ _ => True) (fun i => xs.length - i) 0 ⟨by omega, by omega⟩ (.cons rfl (.cons rfl (.cons (by rw [show ((0 : Nat) : Int) = 0 from rfl, Int.sub_zero]; rfl) .nil))) (List.Sublist.refl _) (fun _ _ h => h) ?_; rintro i ⟨hi1, hi2⟩; refine JN 8 rfl ?_; refine cD (fun g => ?_) fun g => ?_
 ·refine JN 4 rfl ?_
  have hii : i + 1 ≤ xs.length - i := by omega
  obtain ⟨Y, hY⟩ : ∃ Y, Y = Yt xs i := ⟨_, rfl⟩
  have hYl : Y.length = xs.length := by rw [hY]; exact XY xs i
  rw [← hY]
  refine JJ [] [(0, .pure), (1, .pure), (2, .pure), (3, .pure), (4, .pure), (5, .pure), (6, .pure), (8, .pure), (9, .pure), (10, .pure), (12, .pure), (13, .turn), (14, .pure), (15, .turn)] 16 [0, 1, 2, 3, 4, 5, 6, 7, 8, 9, 10, 11, 12, 13, 14, 15] (by kernel_rfl) (by kernel_rfl) (by first | exact (fun _ h => absurd h List.not_mem_nil) | simp [SubS] | (intro p hp; simp [hp])) ?_; refine Jj (k := 0) rfl rfl rfl rfl rfl (fun _ hS => (Jf rfl)) ?_; refine Jj (k := 1) rfl rfl rfl rfl rfl (fun _ hS => (Jf rfl)) ?_; refine Jj (k := 2) rfl rfl rfl rfl rfl (fun _ hS => (Jf rfl)) ?_; refine Jj (k := 3) rfl rfl rfl rfl rfl (fun _ hS => (Jf rfl)) ?_; refine Jj (k := 4) rfl rfl rfl rfl rfl (fun _ hS => (Jf rfl)) ?_; refine Jj (k := 5) rfl rfl rfl rfl rfl (fun _ hS => (Jf rfl)) ?_; refine Jj (k := 6) rfl rfl rfl rfl rfl (fun _ _ => JI (j := (xs.length - 1 - i)) (m := 1) (off' := (xs.length - 1 - i)) rfl rfl rfl rfl (by omega) (by omega) (by omega)) ?_; refine Kv (k := 7) rfl rfl rfl rfl rfl (Jd rfl (kn 0 rfl) rfl (jb (xs := Y.map bV) (v := bV (Y.getD (xs.length - 1 - i) 0)) (XX (by omega)))) ?_; refine Jj (k := 8) rfl rfl rfl rfl rfl (fun _ hS => (Jf rfl)) ?_; refine Jj (k := 9) rfl rfl rfl rfl rfl (fun _ hS => (Jf rfl)) ?_; refine Jj (k := 10) rfl rfl rfl rfl rfl (fun _ _ => JI (j := i) (m := 1) (off' := i) rfl rfl rfl rfl (by omega) (by omega) (by omega)) ?_; refine Kv (k := 11) rfl rfl rfl rfl rfl (Jd rfl (kn 0 rfl) rfl (jb (xs := Y.map bV) (v := bV (Y.getD (i) 0)) (XX (by omega)))) ?_; refine Jj (k := 12) rfl rfl rfl rfl rfl (fun _ _ => JI (j := i) (m := 1) (off' := i) rfl rfl rfl rfl (by omega) (by omega) (by omega)) ?_; refine Zl (k := 13) (q := 0) (cs' := ((Y.set i (Y.getD (xs.length - 1 - i) 0)).map bV ++ sp).toArray) rfl rfl rfl rfl rfl rfl rfl rfl (hfr _ (by omega)) (by simp; omega) (j5 (by omega)) rfl (fun _ h => nomatch h) ?_; refine Jj (k := 14) rfl rfl rfl rfl rfl (fun _ _ => JI (j := (xs.length - 1 - i)) (m := 1) (off' := (xs.length - 1 - i)) rfl rfl rfl rfl (by omega) (by omega) (by omega)) ?_; refine Zl (k := 15) (q := 0) (cs' := ((Yt xs (i + 1)).map bV ++ sp).toArray) rfl rfl rfl rfl rfl rfl rfl rfl (hfr _ (by omega)) (by simp; omega) (by rw [j5 (by rw [List.length_set]; omega), Yt, ← hY]) rfl (fun _ h => nomatch h) ?_; refine Km ?_; refine JG 6 rfl ?_; refine Jc (by omega) (by omega) ?_; refine JG 2 rfl ?_; refine J3 (show _ = Value.int .i64 ((xs.length : Int) - 1 - ((i + 1 : Nat) : Int)) from by rw [wrap_i64 (by omega) (by omega)]; congr 1 <;> omega) ?_; refine Jw 3 rfl ?_; refine Jx ?_; exact Jt (i + 1) ⟨by omega, by omega⟩ (by omega) (lK rfl) (List.Sublist.refl _) (fun _ _ h => h)
 ·refine Ko 4 rfl ?_; refine Kq rfl rfl .nil (fun w1 hs1 => ?_); exact ⟨(), rfl, by rw [← Jdg (xs := xs) (i := i) (by omega) (by omega)]; exact hs1⟩
theorem Jz3 (w : List Nat) : leW w 32 = (YX w 32).reverse := by unfold leW; rw [List.take_of_length_le (by rw [List.length_reverse, Vz]; exact Nat.le_refl _)]
theorem Jdh (t : Ty) {R : Ji} {v : Vl} (hv : v.In R) : Pure Tryz.prog 159 [t.val, v.val].toArray (J4 (leW v.num 32)) := by
 obtain ⟨k, n, p, ins⟩ := t
 cases hv with
 | @mk a b c d bits pb items pi pick ha hb hc hd hlb hsb hl hs hp hi =>
 have hw : WOk [a, b, c, d] := ⟨rfl, fun x hx => by simp at hx; rcases hx with rfl | rfl | rfl | rfl <;> assumption⟩
 show Pure _ _ _ (J4 (leW [a, b, c, d] 32))
 rw [Jz3]
 have hfx := Qy hw
 have hlen := Vz [a, b, c, d] 32
 generalize YX [a, b, c, d] 32 = B at hfx hlen
 refine Jm Tryz.func159 rfl rfl fun w => ?_; refine JA ?_; refine Jq 2 rfl ?_; refine LN rfl fun r1 => ?_; refine LN rfl fun r2 => ?_; refine Xa 7 [0] rfl rfl ?_; refine Jn rfl rfl rfl xN hfx ?_; refine Xw rfl rfl rfl rfl rfl rfl fun rb kb => ?_; refine JG 6 rfl ?_; refine Qr (T := [(rb, .cells (B.map bV ++ List.replicate kb (Value.int .u8 0)).toArray 5 (B.length + kb, B.length + kb + 1))]) (L0 := [(r2, _), (r1, _)]) (Rl := []) (List.Perm.refl _) rfl rfl rfl (enters_of Tryz.func214 (by kernel_rfl) rfl) (Jk8 (fun q hq => by simp [frB, Nat.blt, Nat.ble]; omega) (by omega) (by omega)) oN fun u => ?_; change HL _ _ _ ((rb, _) :: (r2, _) :: (r1, _) :: []) _ _ _ _; refine JG 5 rfl ?_; refine LR rfl (qC (b := B.reverse) rfl (kn 0 rfl) (by rw [List.length_reverse]) (by simp only [List.toList_toArray]; rw [List.take_left' (by rw [List.length_map])]) rfl rfl rfl) ?_; refine Jw 4 rfl ?_; refine pT rfl rfl rfl fun w1 hs1 => ?_; exact ⟨rfl, hs1.keep⟩
def rootM : Array MapEntry := #[⟨.int .i64 1, .func (.func 159) #[] #[], 0⟩, ⟨.int .i64 2, .func (.func 159) #[] #[], 1⟩, ⟨.int .i64 3, .func (.func 160) #[] #[], 2⟩, ⟨.int .i64 4, .func (.func 162) #[] #[], 3⟩,
 ⟨.int .i64 5, .func (.func 164) #[] #[], 4⟩, ⟨.int .i64 6, .func (.func 166) #[] #[], 5⟩, ⟨.int .i64 7, .func (.func 167) #[] #[], 6⟩, ⟨.int .i64 8, .func (.func 170) #[] #[], 7⟩]
theorem Jk9 : ∀ e ∈ rootM.toList, isI e.key := by
 intro e he
 unfold rootM at he
 simp at he
 rcases he with rfl | rfl | rfl | rfl | rfl | rfl | rfl | rfl <;> exact ⟨_, rfl⟩
theorem j6 {a b : Bool} (h : a = b) : Value.bool a = Value.bool b := by rw [h]
abbrev pB (own : Bool) (r : Nat) : Value := .pointer (if own then some ⟨r, 0, none⟩ else none)
def yy (r : Nat) (s : BS) (row : QU) (own : Bool) : Nat × Obj := (r, .cells #[pB own r, JE s.length row] 243 (0, 0))
def W7 (r : Nat) (s : BS) (row : QU) (own : Bool) : Ji := yy r s row own :: JP 5 (s.map bV) row
def bOk (s : BS) (row : QU) : Prop := rowOk 1 s.length (s.map bV) row ∧ (s = [] → row = none)
theorem Jdi (r : Nat) (own : Bool) (v : Value) : PureT (α := Unit) Tryz.prog 303 [XG r].toArray (fun _ => .tuple #[]) [(r, .cells #[pB own r, v] 243 (0, 0))] (fun _ => [(r, .cells #[pB true r, v] 243 (0, 0))]) [] := by
 cases own with
 | false =>
  refine Ju Tryz.func303 rfl rfl fun w => ?_; refine JA ?_; refine Jq 5 rfl ?_; refine LR rfl (Jd (v := .pointer none) rfl (kn 0 rfl) rfl rfl) ?_; refine LR rfl (Joc rfl rfl rfl rfl) ?_; refine JK 2 rfl ?_; refine cD (fun g => ?_) fun g => ?_
  refine Jq 3 rfl ?_; refine LR rfl (Jfk (sz := 2) rfl (kn 0 rfl) rfl rfl rfl (by decide) (by simp)) ?_; refine LR rfl (Jfl rfl rfl (Tryz.func345) (by kernel_rfl) rfl rfl rfl) ?_; refine LR rfl (xM rfl (kn 0 rfl) rfl rfl rfl (by kernel_rfl)) ?_; refine JG 2 rfl ?_; refine KP (k := 0) (cs' := #[XG r, v]) rfl rfl rfl rfl rfl rfl rfl rfl rfl rfl ?_; refine Jw 1 rfl ?_; refine Kq rfl rfl .nil (fun w1 hs1 => ?_); exact ⟨(), rfl, hs1⟩
  try exact Bool.noConfusion g
 | true =>
  refine Ju Tryz.func303 rfl rfl fun w => ?_; refine JA ?_; refine Jq 5 rfl ?_; refine LR rfl (Jd (v := XG r) rfl (kn 0 rfl) rfl rfl) ?_; refine LR rfl (Jod rfl rfl rfl rfl) ?_; refine JK 2 rfl ?_; refine Jz rfl (fun g => ?_) (fun g => ?_)
  try exact Bool.noConfusion g
  ·refine Jq 5 rfl ?_; refine LR rfl (Jd (v := XG r) rfl (kn 0 rfl) rfl rfl) ?_; refine QL rfl (LR rfl (Job rfl rfl rfl rfl) (JK 2 rfl ?_)); refine Jz rfl (fun g => ?_) (fun g => ?_)
   try exact Bool.noConfusion g
   ·try simp only [ZZ] at g
    refine Ko 1 rfl ?_; refine Kq rfl rfl .nil (fun w1 hs1 => ?_); exact ⟨(), rfl, hs1⟩
theorem xY (r : Nat) (s : BS) (row : QU) (own : Bool) : PureT (α := Unit) Tryz.prog 303 [XG r].toArray (fun _ => .tuple #[]) [yy r s row own] (fun _ => [yy r s row true]) [] := Jdi r own _
theorem vo {r : Nat} {s s2 : BS} {row : QU} {own : Bool} (hb : bOk s row) (hl : s.length + s2.length ≤ 1000000) :
  PureT (α := { x : QU // bOk (s ++ s2) x }) Tryz.prog 217 [XG r, J4 s2].toArray (fun _ => .tuple #[.int .i64 (s2.length : Int), .nilIface]) (W7 r s row own) (fun x => W7 r (s ++ s2) x.1 true) [] := by
 refine Ju Tryz.func217 rfl rfl fun w => ?_; refine JA ?_
 unfold W7
 refine Jq 9 rfl ?_; refine Qr (T := [yy r s row own]) (L0 := JP 5 (s.map bV) row) (Rl := []) (List.Perm.refl _) rfl rfl rfl (enters_of Tryz.func303 (by kernel_rfl) rfl) (xY r s row own) oN fun u => ?_; change HL _ _ _ (yy r s row true :: JP 5 (s.map bV) row) _ _ _ _; refine JG 8 rfl ?_; refine LR rfl (Jd (v := JE s.length row) rfl (kn 0 rfl) rfl rfl) ?_; refine QL rfl (Jfj (e := 5) (s := s) (s2 := s2) (row := row) (L0 := [yy r s row true]) (List.perm_append_comm (l₁ := [_])) rfl rfl rfl rfl rfl rfl rfl rfl rfl hb.1 hb.2 (by omega) fun row2 h1 h2 => (Kx List.perm_append_comm ?_)); change HL _ _ _ ((r, .cells #[pB true r, JE s.length row] 243 (0, 0)) :: JP 5 ((s ++ s2).map bV) row2) _ _ _ _; refine JG 2 rfl ?_; refine KP (k := 0) (cs' := #[pB true r, JE (s ++ s2).length row2]) rfl rfl rfl rfl rfl (Jk7 _ _) rfl rfl rfl rfl ?_; refine JG 5 rfl ?_; refine LR rfl (Qh rfl rfl) ?_; refine Jw 5 rfl ?_; refine Jg rfl rfl (.cons (Jl rfl) (.cons (Jl rfl) .nil)) (fun w1 hs1 => ?_); exact ⟨⟨row2, h1, h2⟩, rfl, hs1⟩
theorem Jxu (r : Nat) {s : BS} {row : QU} (own : Bool) (hb : bOk s row) : PureR Tryz.prog 246 [XG r].toArray (.int .i64 (s.length : Int)) [yy r s row own] := by
 refine Ja Tryz.func246 rfl rfl fun w => ?_; refine JA ?_; refine Jq 10 rfl ?_; refine LR rfl (Jd (v := JE s.length row) rfl (J2 (k := 0) rfl) rfl rfl) ?_; refine LR rfl (WZ rfl hb.1.zero rfl) ?_; refine Jw 4 rfl ?_; refine pT rfl rfl rfl fun w1 hs1 => ?_; exact ⟨rfl, hs1.keep⟩
theorem Jfx {r : Nat} {s : BS} {row : QU} {own : Bool} (hb : bOk s row) (hl : s.length ≤ 1000000) :
  PureT (α := Unit) Tryz.prog 219 [XG r].toArray (fun _ => J4 s) (W7 r s row own) (fun _ => []) [] := by
 have hcap : ∀ q cap sp, row = some (q, cap, sp) → cap ≠ 0 := by
  rintro q cap sp rfl h0
  obtain ⟨⟨h1, h2⟩, h3⟩ := hb
  have h4 : s.length = 0 := by omega
  have := h3 (List.eq_nil_of_length_eq_zero h4)
  cases this
 refine Ju Tryz.func219 rfl rfl fun w => ?_; refine JA ?_
 unfold W7
 refine JN 6 rfl ?_
 refine JJ [] [(0, .pure), (1, .pure), (2, .pure), (4, .pure), (5, .pure), (6, .pure), (7, .pure), (9, .pure)] 10 [0, 1, 2, 3, 4, 5, 6, 7, 8, 9] (by kernel_rfl) (by kernel_rfl) (by first | exact (fun _ h => absurd h List.not_mem_nil) | simp [SubS] | (intro p hp; simp [hp])) ?_; refine Jj (k := 0) rfl rfl rfl rfl rfl (fun _ hS => (Jf rfl)) ?_; refine Jj (k := 1) rfl rfl rfl rfl rfl (fun _ hS => (Jv rfl rfl rfl)) ?_
 refine Jj (k := 2) rfl rfl rfl rfl rfl (fun _ hS => (J9 rfl rfl rfl)) ?_; refine Kv (k := 3) rfl rfl rfl rfl rfl (Jd (v := JE s.length row) rfl (kn 0 rfl) rfl rfl) ?_; refine Jj (k := 4) rfl rfl rfl rfl rfl (fun _ _ => xK rfl hcap) ?_; refine Jj (k := 5) rfl rfl rfl rfl rfl (fun _ hS => (Jf rfl)) ?_; refine Jj (k := 6) rfl rfl rfl rfl rfl (fun _ hS => (Jv rfl rfl rfl)) ?_
 refine Jj (k := 7) rfl rfl rfl rfl rfl (fun _ hS => (J9 rfl rfl rfl)) ?_; refine Kv (k := 8) rfl rfl rfl rfl rfl (Jd (v := JE s.length row) rfl (kn 0 rfl) rfl rfl) ?_; refine Jj (k := 9) rfl rfl rfl rfl rfl (fun _ _ => WZ rfl hb.1.zero rfl) ?_; refine Km ?_; refine qP (e := 5) (s := s) (row := row) (L0 := [yy r s row own]) (List.perm_append_comm (l₁ := [_])) rfl rfl rfl rfl rfl rfl hb.1 hb.2 (by omega) ?_; refine Jw 4 rfl ?_; refine pT rfl rfl rfl fun w1 hs1 => ?_; exact ⟨(), rfl, hs1.weakL (List.nil_sublist _)⟩
theorem Jug (x : Ty) : yx x = if Vt x then KX x else 4 := rfl
theorem Jin {R : Ji} {t : Ty} (ht : t.In R) : PureR Tryz.prog 367 [t.val].toArray (.tuple #[.int .i64 (yx t), .bool (Vt t)]) R := by
 have h1 := Jik ht
 have h2 := Jo2 ht
 unfold yP at h2
 rw [Jug]
 generalize Vt t = b at h1 h2 ⊢
 generalize KX t = z at h2 ⊢
 obtain ⟨k, n, p, ins⟩ := t
 refine Ja Tryz.func367 rfl rfl fun w => ?_; refine JA ?_; refine Jq 2 rfl ?_; refine LN rfl fun r1 => ?_; refine JG 7 rfl ?_; refine LR rfl (Jo (vs := [_, _, _]) rfl (kn 0 rfl) rfl rfl rfl rfl) ?_; refine Je rfl rfl rfl (enters_of Tryz.func304 (by kernel_rfl) rfl) h1 oR ?_; refine JK 2 rfl ?_; refine cD (fun g => ?_) fun g => ?_
 refine Jq 2 rfl ?_; refine LR rfl (Jo (vs := [_, _, _]) rfl (kn 0 rfl) rfl rfl rfl rfl) ?_; refine Je rfl rfl rfl (enters_of Tryz.func221 (by kernel_rfl) rfl) h2 oR ?_; refine Jw 6 rfl ?_; refine Jg rfl rfl (.cons (Jl rfl) (.cons (Jl rfl) .nil)) (fun w1 hs1 => ?_); refine ⟨?_, hs1.keep⟩
 simp_all [JB]
 ·refine Ko 9 rfl ?_; refine Jg rfl rfl (.cons (Jl rfl) (.cons (Jl rfl) .nil)) (fun w1 hs1 => ?_); refine ⟨?_, hs1.keep⟩
  simp_all [JB]
theorem Jz4 {R : Ji} {k n : Int} {p : Pl} {ins : List Ty} {pick : Int} {i : Nat} (ht : Ty.In R (.mk k n p ins)) (hp8 : k = 8 → 0 ≤ pick) (hx : Xy k pick i < ins.length) : PureR Tryz.prog 380 [Ty.val (.mk k n p ins), .int .i64 pick, .int .i64 (i : Int)].toArray (JR k pick ins i).val R := by
 have hty := QO hx
 cases ht with
 | @mk k n p ins hk hn hlt hst hit =>
 obtain ⟨X, hX⟩ : ∃ X, X = JR k pick ins i := ⟨_, rfl⟩
 rw [← hX] at hty ⊢; refine Ja Tryz.func380 rfl rfl fun w => ?_; refine JA ?_; refine Jq 2 rfl ?_; refine LN rfl fun r1 => ?_; refine LN rfl fun r2 => ?_; refine Goc 16 [1] rfl rfl ?_; refine cD (fun g => ?_) fun g => ?_
 refine Xs 5 [1] rfl rfl ?_; refine LR rfl (Jp (j := Xy k pick i) rfl hst rfl rfl rfl (by unfold Xy; rw [if_pos (by assumption)]) hx) ?_; refine LR rfl (Qm oR rfl hst hty.1 rfl rfl) ?_; refine Jk (k := 0) (n := 3) (ys := X.cells) rfl rfl rfl rfl rfl X.len rfl X.one rfl ?_; refine Jw 5 rfl ?_; refine Jg rfl rfl (.cons (Jy (vs := X.cells) rfl (kn 0 rfl) rfl (by rw [X.len]; rfl)) .nil) (fun w1 hs1 => ?_); exact ⟨rfl, hs1.keep⟩
 ·refine JN 6 rfl ?_; refine cD (fun g => ?_) fun g => ?_
  refine Xs 5 [1] rfl rfl ?_; refine LR rfl (Jp (j := Xy k pick i) rfl hst rfl rfl rfl (by unfold Xy; rw [if_neg (by assumption), if_pos (by assumption)]; have := hp8 (by assumption); omega) hx) ?_; refine LR rfl (Qm oR rfl hst hty.1 rfl rfl) ?_; refine Jk (k := 0) (n := 3) (ys := X.cells) rfl rfl rfl rfl rfl X.len rfl X.one rfl ?_; refine Jw 5 rfl ?_; refine Jg rfl rfl (.cons (Jy (vs := X.cells) rfl (kn 0 rfl) rfl (by rw [X.len]; rfl)) .nil) (fun w1 hs1 => ?_); exact ⟨rfl, hs1.keep⟩
  ·refine Xs 7 [1] rfl rfl ?_; refine LR rfl (Jp (j := Xy k pick i) rfl hst rfl rfl rfl (by unfold Xy; rw [if_neg (by assumption), if_neg (by assumption)]; rfl) hx) ?_; refine LR rfl (Qm oR rfl hst hty.1 rfl rfl) ?_; refine Jk (k := 0) (n := 3) (ys := X.cells) rfl rfl rfl rfl rfl X.len rfl X.one rfl ?_; refine Jw 3 rfl ?_; refine Jg rfl rfl (.cons (Jy (vs := X.cells) rfl (kn 0 rfl) rfl (by rw [X.len]; rfl)) .nil) (fun w1 hs1 => ?_); exact ⟨rfl, hs1.keep⟩
def Xk (k : Int) (ins : List Ty) (m : Nat) : List Ty := (List.range m).map fun i => JR k 0 ins i
theorem Jdj : ∀ a b : List Ty, Vf (a ++ b) = Vf a + Vf b
 | [], b => by rw [List.nil_append, Vf, Int.zero_add]
 | x :: xs, b => by rw [List.cons_append, Vf, Vf, Jdj xs b, Int.add_assoc]
theorem Jla (k : Int) (ins : List Ty) (i : Nat) : Vf (Xk k ins (i + 1)) = Vf (Xk k ins i) + yx (JR k 0 ins i) := by
 unfold Xk
 rw [List.range_succ, List.map_append, Jdj, List.map_cons, List.map_nil, Vf, Vf, Int.add_zero]
theorem Jio (x : Ty) : 1 ≤ yx x ∧ yx x ≤ 2251799813685248 := by
 unfold yx
 split
 ·rename_i h
  obtain ⟨h1, h2⟩ := XW.1 h
  have h3 := Jew x 0 (Int.le_refl _) h1 h2
  have h4 := Jnf (show (5 - (0 : Int)).toNat ≤ 5 by decide)
  omega
 ·omega
theorem xZ : ∀ l : List Ty, 0 ≤ Vf l ∧ Vf l ≤ 2251799813685248 * l.length
 | [] => by rw [Vf]; simp
 | x :: xs => by
  have h1 := Jio x
  have h2 := xZ xs
  rw [Vf, List.length_cons]; omega
theorem Jdk (k : Int) (ins : List Ty) (m : Nat) : (Xk k ins m).length = m := by unfold Xk; rw [List.length_map, List.length_range]
def qR (r : Nat) (m : Int) : Nat × Obj := (r, .cells #[.int .i64 m] 3 (0, 0))
theorem Jip (t : Ty) (m : Int) : PureE (α := Nat × Nat) Tryz.prog 366 [t.val, .int .i64 m].toArray (fun p => .func (.func 379) #[] #[XG p.2, XG p.1]) (fun p => [qR p.2 m, W6 p.1 t]) := by
 obtain ⟨k, n, p, ins⟩ := t
 refine Ke Tryz.func366 rfl rfl fun w => ?_; refine JA ?_; refine Jq 2 rfl ?_; refine LN rfl fun r1 => ?_; refine LN rfl fun r2 => ?_; refine JG 5 rfl ?_; refine LR rfl (JC rfl rfl) ?_; refine Jw 4 rfl ?_; refine pT rfl rfl rfl fun w1 hs1 => ?_; exact ⟨(r1, r2), rfl, hs1⟩
def itV (k : Int) (ins : List Ty) (i : Nat) : List Value := [.int .i64 (i : Int), (JR k 0 ins i).val]
theorem Jiq {R : Ji} {k n : Int} {p : Pl} {ins : List Ty} {m : Nat} (ht : Ty.In R (.mk k n p ins)) (hm : m ≤ 1000000) (hx : ∀ i, i < m → Xy k 0 i < ins.length) (rt ri : Nat) :
    ZY Tryz.prog 379 [XG ri, XG rt] (qR ri m :: W6 rt (.mk k n p ins) :: R) 0 (nxN (itV k ins) m) (yr m) := by
  refine QY Tryz.func379 rfl rfl fun q xids w2 XI XF hY => ?_; refine JA ?_; refine Jq 2 rfl ?_; refine LR rfl (Jd (v := .int .i64 (m : Int)) rfl (J2 (k := 0) rfl) rfl rfl) ?_; refine JK 4 rfl ?_; refine J0 (σ := Nat) (fun i => i ≤ m) (fun i => [(0, .func (.yield q) #[] #[]), (1, XG ri), (2, XG rt), (5, .int .i64 (m : Int)), (6, .int .i64 (i : Int))]) (fun _ => []) (fun i => XI i) (fun i => m - i) 0 (Nat.zero_le _) (lK rfl) (List.Sublist.refl _) (fun _ _ h => h) ?_; intro i hi; refine JN 6 rfl ?_; refine cD (fun g => ?_) fun g => ?_
  · refine JN 11 rfl ?_
    have hil : i < m := by omega
    refine Jq 3 rfl ?_; refine LR rfl (Jh (xs := Ty.cells (.mk k n p ins)) (n := 3) rfl (J2 (k := 1) rfl) rfl rfl (Ty.len _)) ?_; refine QL rfl (Je rfl rfl rfl (enters_of Tryz.func380 (by kernel_rfl) rfl) (Jz4 ht (fun _ => Int.le_refl 0) (hx i hil)) (fun q hq => Or.inr (List.mem_cons_of_mem _ (List.mem_cons_of_mem _ hq))) ?_); refine Vr (XT := XI (i + 1)) (XF := XF) rfl rfl rfl rfl (hY i (itV k ins i) (i + 1) ⟨hil, rfl, rfl⟩) ?_ ?_
    all_goals (
     refine Jw 2 rfl (Y6 1 rfl ?_); refine Jz rfl (fun g => ?_) (fun g => ?_)
     · try exact Bool.noConfusion g
       all_goals try simp only [ZZ] at g
       all_goals (
        refine Ko 5 rfl ?_; refine Jg rfl rfl .nil (fun w1 hs1 => ?_)
        obtain ⟨xs1, hx1⟩ := hs1.now
        exact ⟨⟨_, rfl⟩, hs1.keep, .inr ⟨_, hx1⟩⟩
        skip)
     · try exact Bool.noConfusion g
       all_goals try simp only [ZZ] at g
       all_goals (
        refine Jq 5 rfl ?_; refine J3 (show _ = Value.int .i64 ((i + 1 : Nat) : Int) from by rw [wrap_i64 (by omega) (by omega)]; congr 1 <;> omega) ?_; refine Jw 2 rfl ?_; refine Jx ?_; exact Jt (i + 1) (by omega) (by omega) (lK rfl) (List.Sublist.refl _) (fun _ _ h => h)
        skip)
     skip)
  · refine Ko 4 rfl ?_; refine Kq rfl rfl .nil (fun w1 hs1 => ?_)
    obtain ⟨xs1, hx1⟩ := hs1.now
    exact ⟨⟨_, rfl⟩, hs1.keep, .inl ⟨i, _, (by show i = m; omega), hx1⟩⟩
theorem Jpe {R : Ji} {k n : Int} {p : Pl} {ins : List Ty} {m : Nat} (ht : Ty.In R (.mk k n p ins)) (hm : m ≤ 600) (hx : ∀ i, i < m → Xy k 0 i < ins.length) : PureR Tryz.prog 365 [Ty.val (.mk k n p ins), .int .i64 (m : Int)].toArray (.int .i64 (Vf (Xk k ins m))) R := by
 have hti := fun i h => ht.sub _ (QO (hx i h)).2
 refine Ja Tryz.func365 rfl rfl fun w => ?_; refine JA ?_; refine Jq 2 rfl ?_; refine LN rfl fun r1 => ?_; refine JG 5 rfl ?_; refine LN rfl fun r2 => ?_
 refine LT 0 rfl rfl ?_; refine Xa 7 [1] rfl rfl ?_; refine JQ rfl rfl rfl (enters_of Tryz.func366 (by kernel_rfl) rfl) (Jip (.mk k n p ins) (m : Int)) fun pp => ?_
 obtain ⟨ra, rb⟩ := pp
 change HL _ _ _ (qR rb m :: W6 ra (.mk k n p ins) :: _) _ _ _ _; refine JK 3 rfl ?_; refine VC [2, 0, 1, 3] (L' := [_, _, _, _]) (by decide) rfl ?_
 refine VV (τ := Unit) (fun i (s : Nat) => i ≤ m ∧ i = s) (fun s => [(r2, .cells #[.int .i64 (Vf (Xk k ins s))] 3 (0, 0))]) (fun _ _ => False) (fun _ => []) [qR rb m, W6 ra (.mk k n p ins), _] 0 rfl rfl (enters_of Tryz.func379 (by kernel_rfl) rfl) (Jiq ht (by omega) hx ra rb) (by rintro _ _ _ ⟨_, rfl, _⟩; rfl) rfl (fun q hq => by rcases List.mem_cons.1 hq with rfl | hq; exact .inl (by simp); rcases List.mem_cons.1 hq with rfl | hq; exact .inl (by simp); exact .inr hq) rfl ⟨Nat.zero_le _, rfl⟩ ?_ ?_ ?_
 rintro q Xr Xb w3 i _ _ s ⟨hii, rfl, rfl⟩ ⟨him, rfl⟩ Kr hKr; refine xj ?_
 have hti1 := hti i hii
 have hb1 := Jio (JR k 0 ins i)
 have hb2 := xZ (Xk k ins i)
 rw [Jdk] at hb2
 unfold itV
 refine Jq 1 rfl ?_; refine LN rfl fun r3 => ?_; refine Jk (k := 0) (n := 3) (ys := (JR k 0 ins i).cells) rfl rfl rfl rfl rfl (JR k 0 ins i).len rfl (JR k 0 ins i).one rfl ?_; refine Jw 1 rfl ?_; refine hKr _ _ ?_; refine JA ?_; clear hKr; refine Jq 3 rfl ?_; refine LR rfl (Jh (xs := (JR k 0 ins i).cells) (n := 3) rfl (kn 0 rfl) rfl rfl (JR k 0 ins i).len) ?_; refine Je rfl rfl rfl (enters_of Tryz.func367 (by kernel_rfl) rfl) (Jin hti1) (fun q hq => Or.inr (List.mem_append_right _ hq)) ?_; refine JG 8 rfl ?_; refine LR rfl (Jd (v := .int .i64 (Vf (Xk k ins i))) rfl (kn 1 rfl) rfl rfl) ?_; refine LS 2 [] rfl rfl ?_; refine J3 (show _ = Value.int .i64 (Vf (Xk k ins (i + 1))) from by rw [Jla]; exact congrArg (Value.int .i64) (wrap_i64 (by omega) (by omega))) ?_; refine KP (k := 1) (cs' := #[.int .i64 (Vf (Xk k ins (i + 1)))]) rfl rfl rfl rfl rfl rfl rfl rfl rfl rfl ?_; refine Jw 2 rfl ?_; refine KZ [1] (L' := [_]) (by decide) rfl ?_; refine Ki (i + 1) ⟨by omega, rfl⟩ rfl
 rintro D i s hfi ⟨him, rfl⟩
 obtain rfl : m = i := Eq.symm hfi
 refine gqo 4 rfl ?_; refine LR rfl (Jd (v := .int .i64 (Vf (Xk k ins m))) rfl (kn 1 rfl) rfl rfl) ?_; refine Jw 4 rfl ?_; refine Kw (k := 0) rfl rfl ?_; refine pT rfl rfl rfl fun w1 hs1 => ?_; exact ⟨rfl, hs1.keep⟩
 ·exact fun _ _ _ h => h.elim
theorem Jpf {s : BS} (hl : s.length ≤ 1000000) : Pure Tryz.prog 340 [J4 s].toArray (J4 s.reverse) := by
 refine Jm Tryz.func340 rfl rfl fun w => ?_; refine JA ?_; refine Jq 8 rfl ?_; refine Xw rfl rfl rfl rfl rfl rfl fun rb kb => ?_
 obtain ⟨sp, hsp⟩ : ∃ sp, sp = List.replicate kb (Value.int .u8 0) := ⟨_, rfl⟩
 rw [← hsp]
 obtain ⟨fr, hfr⟩ : ∃ fr : Nat × Nat, fr = (s.length + kb, s.length + kb + 1) := ⟨_, rfl⟩
 rw [← hfr]
 have hfz : ∀ q, q < s.length → frB fr q = false := fun q hq => by rw [hfr]; simp [frB, Nat.blt, Nat.ble]; omega
 refine JG 7 rfl ?_; refine LR rfl (JU rfl rfl) ?_; refine VQ rfl (J3 (show _ = Value.int .i64 ((s.length : Int) - 1) from congrArg (Value.int .i64) (wrap_i64 (by omega) (by omega))) (JK 5 rfl ?_)); refine J0 (σ := Nat) (fun i => 2 * i ≤ s.length + 1 ∧ 2 * i ≤ s.length) (fun i => [(3, .slice (some ⟨rb, 0, none⟩) s.length (s.length + kb)), (4, .int .i64 (i : Int)), (5, .int .i64 ((s.length : Int) - 1 - (i : Int)))]) (fun i => [(rb, .cells ((Yt s i).map bV ++ sp).toArray 5 fr)]) (fun _ _ _ => True) (fun i => s.length - i) 0 ⟨by omega, by omega⟩ (.cons rfl (.cons rfl (.cons (by rw [show ((0 : Nat) : Int) = 0 from rfl, Int.sub_zero]; rfl) .nil))) (List.Sublist.refl _) (fun _ _ h => h) ?_; rintro i ⟨hi1, hi2⟩; refine JN 8 rfl ?_; refine cD (fun g => ?_) fun g => ?_
 ·refine JN 4 rfl ?_
  have hii : i + 1 ≤ s.length - i := by omega
  obtain ⟨Y, hY⟩ : ∃ Y, Y = Yt s i := ⟨_, rfl⟩
  have hYl : Y.length = s.length := by rw [hY]; exact XY s i
  rw [← hY]
  refine JJ [] [(0, .pure), (1, .pure), (2, .pure), (3, .pure), (4, .pure), (5, .pure), (6, .pure), (8, .pure), (9, .pure), (10, .pure), (12, .pure), (13, .turn), (14, .pure), (15, .turn)] 16 [0, 1, 2, 3, 4, 5, 6, 7, 8, 9, 10, 11, 12, 13, 14, 15] (by kernel_rfl) (by kernel_rfl) (by first | exact (fun _ h => absurd h List.not_mem_nil) | simp [SubS] | (intro p hp; simp [hp])) ?_; refine Jj (k := 0) rfl rfl rfl rfl rfl (fun _ hS => (Jf rfl)) ?_; refine Jj (k := 1) rfl rfl rfl rfl rfl (fun _ hS => (Jf rfl)) ?_; refine Jj (k := 2) rfl rfl rfl rfl rfl (fun _ hS => (Jf rfl)) ?_; refine Jj (k := 3) rfl rfl rfl rfl rfl (fun _ hS => (Jf rfl)) ?_; refine Jj (k := 4) rfl rfl rfl rfl rfl (fun _ hS => (Jf rfl)) ?_; refine Jj (k := 5) rfl rfl rfl rfl rfl (fun _ hS => (Jf rfl)) ?_; refine Jj (k := 6) rfl rfl rfl rfl rfl (fun _ _ => JI (j := (s.length - 1 - i)) (m := 1) (off' := (s.length - 1 - i)) rfl rfl rfl rfl (by omega) (by omega) (by omega)) ?_; refine Kv (k := 7) rfl rfl rfl rfl rfl (Jd rfl (kn 0 rfl) rfl (jb (xs := Y.map bV) (v := bV (Y.getD (s.length - 1 - i) 0)) (XX (by omega)))) ?_; refine Jj (k := 8) rfl rfl rfl rfl rfl (fun _ hS => (Jf rfl)) ?_; refine Jj (k := 9) rfl rfl rfl rfl rfl (fun _ hS => (Jf rfl)) ?_; refine Jj (k := 10) rfl rfl rfl rfl rfl (fun _ _ => JI (j := i) (m := 1) (off' := i) rfl rfl rfl rfl (by omega) (by omega) (by omega)) ?_; refine Kv (k := 11) rfl rfl rfl rfl rfl (Jd rfl (kn 0 rfl) rfl (jb (xs := Y.map bV) (v := bV (Y.getD (i) 0)) (XX (by omega)))) ?_; refine Jj (k := 12) rfl rfl rfl rfl rfl (fun _ _ => JI (j := i) (m := 1) (off' := i) rfl rfl rfl rfl (by omega) (by omega) (by omega)) ?_; refine Zl (k := 13) (q := 0) (cs' := ((Y.set i (Y.getD (s.length - 1 - i) 0)).map bV ++ sp).toArray) rfl rfl rfl rfl rfl rfl rfl rfl (hfz _ (by omega)) (by simp; omega) (j5 (by omega)) rfl (fun _ h => nomatch h) ?_; refine Jj (k := 14) rfl rfl rfl rfl rfl (fun _ _ => JI (j := (s.length - 1 - i)) (m := 1) (off' := (s.length - 1 - i)) rfl rfl rfl rfl (by omega) (by omega) (by omega)) ?_; refine Zl (k := 15) (q := 0) (cs' := ((Yt s (i + 1)).map bV ++ sp).toArray) rfl rfl rfl rfl rfl rfl rfl rfl (hfz _ (by omega)) (by simp; omega) (by rw [j5 (by rw [List.length_set]; omega), Yt, ← hY]) rfl (fun _ h => nomatch h) ?_; refine Km ?_; refine JG 6 rfl ?_; refine Jc (by omega) (by omega) ?_; refine JG 2 rfl ?_; refine J3 (show _ = Value.int .i64 ((s.length : Int) - 1 - ((i + 1 : Nat) : Int)) from by rw [wrap_i64 (by omega) (by omega)]; congr 1 <;> omega) ?_; refine Jw 3 rfl ?_; refine Jx ?_; exact Jt (i + 1) ⟨by omega, by omega⟩ (by omega) (lK rfl) (List.Sublist.refl _) (fun _ _ h => h)
 ·refine JN 6 rfl ?_; rw [Jdg (xs := s) (i := i) (by omega) (by omega)]; refine Jq 2 rfl ?_; refine LR rfl (qC (b := s.reverse) rfl (kn 0 rfl) (by rw [List.length_reverse]) (by simp only [List.toList_toArray]; rw [List.take_left' (by rw [List.length_map])]) rfl rfl rfl) ?_; refine Jw 4 rfl ?_; refine pT rfl rfl rfl fun w1 hs1 => ?_; exact ⟨rfl, hs1.keep⟩
theorem zn {Y : BS} {i : Nat} {b : UInt8} : (Y.map bV).toArray.setIfInBounds i (bV b) = ((Y.set i b).map bV).toArray := by
 rw [List.setIfInBounds_toArray, List.map_set]
theorem Jir (x : UInt8) {m : Nat} (hm : m < 8) : Value.int .u8 ((x.toNat ||| 2 ^ m : Nat) : Int) = bV (UInt8.ofNat (x.toNat ||| 2 ^ m)) := Jg1 (Jzp (XL x) hm)
theorem Jpg {m : Nat} (hm : m < 8) : IntKind.u8.wrap (1 * ((2 ^ m : Nat) : Int)) = ((2 ^ m : Nat) : Int) := by
 have h : 2 ^ m ≤ 128 := Nat.pow_le_pow_right (n := 2) (i := m) (j := 7) (by decide) (by omega)
 generalize 2 ^ m = q at h ⊢
 rw [Int.one_mul]; exact qX (by omega) (by omega)
theorem Jph {R : Ji} {l : List Bool} {g : FuncId} {caps : List Value} (hl : l.length ≤ 1000000) (eg : Enters Tryz.prog g) (hg : ∀ i, i < l.length → PureR Tryz.prog g (Value.int .i64 (i : Int) :: caps).toArray (.bool (l.getD i false)) R) :
  PureR Tryz.prog 341 [.int .i64 (l.length : Int), .func (.func g) #[] caps.toArray].toArray (J4 (WA l)) R := by
 obtain ⟨N, hN⟩ : ∃ N, N = (l.length + 7) / 8 := ⟨_, rfl⟩
 have hpB : WA l = KV l N l.length := by rw [hN]; rfl
 refine Ja Tryz.func341 rfl rfl fun w => ?_; refine JA ?_; refine Jq 9 rfl ?_; refine J3 (show _ = Value.int .i64 ((l.length + 8 : Nat) : Int) from by rw [wrap_i64 (by omega) (by omega)]; congr 1 <;> omega) ?_
 refine VQ rfl ?_; refine J3 (show _ = Value.int .i64 ((l.length + 7 : Nat) : Int) from by rw [wrap_i64 (by omega) (by omega)]; congr 1 <;> omega) ?_; refine VQ rfl ?_; refine J3 (show _ = Value.int .i64 ((N : Nat) : Int) from congrArg (Value.int .i64) (by rw [QG (by omega) (by decide) (by omega), hN]; rfl)) ?_; refine WH (n := N) (b := 1) rfl rfl rfl rfl rfl rfl rfl rfl rfl (by omega) (by omega) fun rm => ?_; rw [show List.replicate N (Value.int .u8 0) = (KV l N 0).map bV from by rw [KV, List.map_replicate]; rfl]; refine JK 11 rfl ?_; refine J0 (σ := Nat) (fun i => i ≤ l.length) (fun i => [(1, .func (.func g) #[] caps.toArray), (5, .slice (some ⟨rm, 0, none⟩) N N), (12, .int .i64 (l.length : Int)), (13, .int .i64 (i : Int))]) (fun i => [(rm, .cells ((KV l N i).map bV).toArray 5 (0, 0))]) (fun _ _ _ => True) (fun i => l.length - i) 0 (Nat.zero_le _) (lK rfl) (List.Sublist.refl _) (fun _ _ h => h) ?_; intro i hi1; refine JN 6 rfl ?_; refine cD (fun h7 => ?_) fun h7 => ?_
 ·refine JN 5 rfl ?_
  have hil : i < l.length := by omega
  have hi8 : i / 8 < N := by omega
  refine Jq 9 rfl ?_; refine Je rfl rfl rfl eg (hg i hil) oR ?_; refine JK 2 rfl ?_; refine cD (fun h11 => ?_) fun h11 => ?_
  ·have hbt : l.getD i false = true := by assumption
   have hst1 : KV l N (i + 1) = (KV l N i).set (i / 8) (UInt8.ofNat (((KV l N i).getD (i / 8) 0).toNat ||| 2 ^ (i % 8))) := by rw [KV, if_pos hbt]
   obtain ⟨Y, hY⟩ : ∃ Y, Y = KV l N i := ⟨_, rfl⟩
   have hYl : Y.length = N := by rw [hY]; exact Vm l N i
   rw [← hY] at hst1 ⊢
   refine JJ [] [(0, .pure), (1, .pure), (2, .pure), (3, .pure), (5, .pure), (6, .pure), (7, .pure), (8, .pure), (9, .pure), (10, .turn)] 11 [0, 1, 2, 3, 4, 5, 6, 7, 8, 9, 10] (by kernel_rfl) (by kernel_rfl) (by first | exact (fun _ h => absurd h List.not_mem_nil) | simp [SubS] | (intro p hp; simp [hp])) ?_; refine Jj (k := 0) rfl rfl rfl rfl rfl (fun _ hS => (Jf rfl)) ?_; refine Jj (k := 1) rfl rfl rfl rfl rfl (fun _ hS => (Jf rfl)) ?_
   refine Jj (k := 2) rfl rfl rfl rfl rfl (fun _ _ => (Jv rfl rfl rfl)) ?_; refine VN (show _ = Value.int .i64 ((i / 8 : Nat) : Int) from congrArg (Value.int .i64) (by first | exact WI _ _ | exact QG (by omega) (by decide) (by omega))) ?_; refine Jj (k := 3) rfl rfl rfl rfl rfl (fun _ _ => JI (j := (i / 8)) (m := 1) (off' := (i / 8)) rfl rfl rfl rfl (by omega) (by omega) (by omega)) ?_; refine Kv (k := 4) rfl rfl rfl rfl rfl (Jd rfl (kn 0 rfl) rfl (by rw [W0]; exact XX (by omega))) ?_; refine Jj (k := 5) rfl rfl rfl rfl rfl (fun _ hS => (Jf rfl)) ?_
   refine Jj (k := 6) rfl rfl rfl rfl rfl (fun _ _ => (Jv rfl rfl rfl)) ?_; refine VN (show _ = Value.int .i64 ((i % 8 : Nat) : Int) from congrArg (Value.int .i64) (by first | exact WI _ _ | exact QG (by omega) (by decide) (by omega))) ?_; refine Jj (k := 7) rfl rfl rfl rfl rfl (fun _ _ => Jbp (n := i % 8) (b := ((2 ^ (i % 8) : Nat) : Int)) rfl rfl rfl (show _ ≤ 8 from by omega) (Jpg (by omega))) ?_; refine Jj (k := 8) rfl rfl rfl rfl rfl (fun _ _ => xt (op := .or) (m := (Y.getD (i / 8) 0).toNat) (n := 2 ^ (i % 8)) rfl rfl rfl (XL _) (Nat.pow_lt_pow_right (by decide) (by omega) : 2 ^ (i % 8) < 2 ^ 8) rfl) ?_; refine VN (Jir _ (by omega)) ?_; refine Jj (k := 9) rfl rfl rfl rfl rfl (fun _ _ => JI (j := (i / 8)) (m := 1) (off' := (i / 8)) rfl rfl rfl rfl (by omega) (by omega) (by omega)) ?_; refine XN (k := 10) (q := 0) (cs' := ((KV l N (i + 1)).map bV).toArray) rfl rfl rfl rfl rfl rfl rfl rfl (by simp; omega) (by rw [zn, hst1]) rfl (fun _ h => nomatch h) ?_; refine Km ?_; refine JG 5 rfl ?_; refine J3 (show _ = Value.int .i64 ((i + 1 : Nat) : Int) from by rw [wrap_i64 (by omega) (by omega)]; congr 1 <;> omega) ?_; refine Jw 2 rfl ?_; refine Jx ?_; exact Jt (i + 1) (by omega) (by omega) (lK rfl) (List.Sublist.refl _) (fun _ _ h => h)
  ·refine Jq 5 rfl ?_; refine J3 (show _ = Value.int .i64 ((i + 1 : Nat) : Int) from by rw [wrap_i64 (by omega) (by omega)]; congr 1 <;> omega) ?_; refine Jw 2 rfl ?_; refine Jx ?_
   (have hst0 : KV l N (i + 1) = KV l N i := by rw [KV, if_neg (by simp_all)]
    exact Jt (i + 1) (by omega) (by omega) (lK rfl) (by rw [hst0]; exact List.Sublist.refl _) (fun _ _ h => h))
 ·refine JN 6 rfl ?_
  obtain rfl : i = l.length := by omega
  refine Jq 2 rfl ?_; refine LR rfl (Q0 (b := KV l N l.length) (row := some (rm, N, [])) (e := 5) (show _ = some (JE (KV l N l.length).length _) from by rw [Vm]; rfl) ⟨by rw [List.length_map]; omega, by rw [Vm]; simp⟩ (fun p hp => .inl (by rw [List.mem_singleton.1 hp, List.append_nil]; exact List.mem_cons_self)) rfl rfl rfl) ?_; refine Jw 4 rfl ?_; refine pT rfl rfl rfl fun w1 hs1 => ?_; refine ⟨?_, hs1.keep⟩; rw [hpB]; rfl
theorem J1o {R : Ji} {a b c d : Nat} {bits : List Bool} {pb : Pl} {items : List Vl} {pi : Pl} {pick : Int} (hsb : Seg R bits.length (jg bits) pb) (hl : bits.length ≤ 9223372036854775807) (rv : Nat) {i : Nat} (hi : i < bits.length) :
  PureR Tryz.prog 342 [.int .i64 (i : Int), XG rv].toArray (.bool (bits.getD i false)) (Xu rv (.mk a b c d bits pb items pi pick) :: R) := by
 have hsb := hsb.mono (R' := Xu rv (.mk a b c d bits pb items pi pick) :: R) fun q hq => List.mem_cons_of_mem _ hq
 have hy : bits[i]? = some (bits.getD i false) := by rw [List.getD_eq_getElem?_getD, List.getElem?_eq_getElem hi]; rfl
 generalize bits.getD i false = y at hy ⊢
 refine Ja Tryz.func342 rfl rfl fun w => ?_; refine JA ?_; refine Jq 8 rfl ?_; refine LR rfl (Jd rfl (J2 (k := 0) rfl) rfl rfl) ?_; refine QL rfl ?_
 refine LR rfl (Jp (j := i) rfl hsb rfl rfl rfl (by first | rfl | omega) (by omega)) ?_; refine LR rfl (XM oR rfl hsb hy rfl) ?_; refine Jw 4 rfl ?_; refine pT rfl rfl rfl fun w1 hs1 => ?_; exact ⟨rfl, hs1.keep⟩
theorem J1p {R : Ji} {a b c d : Nat} {bits : List Bool} {pb : Pl} {items : List Vl} {pi : Pl} {pick : Int} (hsb : Seg R bits.length (jg bits) pb) (hl : bits.length ≤ 9223372036854775807) (rn rv : Nat) {i : Nat} (hi : i < (bits ++ [true]).length) :
  PureR Tryz.prog 343 [.int .i64 (i : Int), XG rn, XG rv].toArray (.bool ((bits ++ [true]).getD i false)) (qR rn bits.length :: Xu rv (.mk a b c d bits pb items pi pick) :: R) := by
 have hsb := hsb.mono (R' := qR rn bits.length :: Xu rv (.mk a b c d bits pb items pi pick) :: R) fun q hq => List.mem_cons_of_mem _ (List.mem_cons_of_mem _ hq)
 rw [List.length_append] at hi; simp only [List.length_cons, List.length_nil] at hi
 by_cases he : i = bits.length
 have hv : (bits ++ [true]).getD i false = true := by rw [List.getD_eq_getElem?_getD, List.getElem?_append_right (by omega), he, Nat.sub_self]; rfl
 rw [hv]; refine Ja Tryz.func343 rfl rfl fun w => ?_; refine JA ?_; refine Jq 8 rfl ?_; refine LR rfl (Jd (v := .int .i64 (bits.length : Int)) rfl (J2 (k := 0) rfl) rfl rfl) ?_; refine VQ rfl (J3 (show _ = Value.bool true from j6 (Jzm (by rw [he]))) (Jw 11 rfl ?_)); refine pT rfl rfl rfl fun w1 hs1 => ?_; exact ⟨rfl, hs1.keep⟩
 ·have hy : bits[i]? = some (bits.getD i false) := by rw [List.getD_eq_getElem?_getD, List.getElem?_eq_getElem (by omega)]; rfl
  have hv : (bits ++ [true]).getD i false = bits.getD i false := by rw [List.getD_eq_getElem?_getD, List.getElem?_append_left (by omega), List.getD_eq_getElem?_getD]
  rw [hv]
  generalize bits.getD i false = y at hy ⊢
  have hne : ((i : Int) == (bits.length : Int)) = false := by simp; omega
  refine Ja Tryz.func343 rfl rfl fun w => ?_; refine JA ?_; refine Jq 8 rfl ?_; refine LR rfl (Jd (v := .int .i64 (bits.length : Int)) rfl (J2 (k := 0) rfl) rfl rfl) ?_; refine VQ rfl (J3 (show _ = Value.bool false from j6 (hne)) (JG 2 rfl ?_)); refine LR rfl (Jd rfl (J2 (k := 1) rfl) rfl rfl) ?_; refine QL rfl ?_
  refine LR rfl (Jp (j := i) rfl hsb rfl rfl rfl (by first | rfl | omega) (by omega)) ?_; refine LR rfl (XM oR rfl hsb hy rfl) ?_; refine Jw 5 rfl ?_; refine pT rfl rfl rfl fun w1 hs1 => ?_; exact ⟨rfl, hs1.keep⟩
theorem vp {k : Int} (h8 : k ≠ 8) (pick : Int) (ins : List Ty) (i : Nat) : JR k pick ins i = JR k 0 ins i := by
 unfold JR Xy; split
 ·rfl
 ·simp [h8]
theorem Jis {k : Int} (h8 : k ≠ 8) (pick : Int) (ins : List Ty) : ∀ (l : List Vl) (i : Nat), Qg l k pick ins i = Qg l k 0 ins i
 | [], i => by rw [Qg, Qg]
 | x :: xs, i => by rw [Qg, Qg, Jis h8 pick ins xs (i + 1), vp h8]
theorem Jdl {k : Int} (ins : List Ty) : ∀ (l : List Vl) (i : Nat), (Qg l k 0 ins i).map Prod.fst = (List.range' i l.length).map fun j => JR k 0 ins j
 | [], i => by rw [Qg]; rfl
 | x :: xs, i => by
  rw [Qg, List.map_cons, Jdl ins xs (i + 1), List.length_cons, List.range'_succ, List.map_cons]
theorem Jpi (k : Int) (ins : List Ty) (l : List Vl) : (Qg l k 0 ins 0).map Prod.fst = Xk k ins l.length := by
 rw [Jdl]; unfold Xk; rw [List.range_eq_range']
theorem Juh {α : Type} (A : List α) (x : α) (B : List α) : (A ++ x :: B).Perm (B ++ (A ++ [x])) := by
 rw [show A ++ x :: B = (A ++ [x]) ++ B by simp]; exact List.perm_append_comm
def zo (l : List (Ty × BS)) : Nat := (l.map fun p => p.2.length + 4).sum
theorem wt (p : Ty × BS) (l : List (Ty × BS)) : zo (p :: l) = p.2.length + 4 + zo l := by unfold zo; rw [List.map_cons, List.sum_cons]
theorem Jaa : bOk [] none := ⟨⟨rfl, rfl⟩, fun _ => rfl⟩
set_option maxHeartbeats 1000000 in
theorem Jxv {R : Ji} {k n : Int} {p : Pl} {ins : List Ty} {items : List Vl} {pi : Pl} {B : Nat} (ht : Ty.In R (.mk k n p ins)) (hs : Seg R items.length (Q3 items) pi) (hl : items.length ≤ 600) (hx : ∀ i, i < items.length → Xy k 0 i < ins.length)
  (hb : ∀ (i : Nat) x, items[i]? = some x → PureR Tryz.prog 302 [(JR k 0 ins i).val, x.val].toArray (J4 (Vn x (JR k 0 ins i))) R) (hB : zo (Qg items k 0 ins 0) ≤ B) (hB2 : B ≤ 900000) :
  PureR Tryz.prog 344 [Ty.val (.mk k n p ins), KL items.length pi].toArray (J4 (Zt (Vf (Xk k ins items.length)).toNat (Qg items k 0 ins 0) [] [])) R := by
 have hti := fun i h => ht.sub _ (QO (hx i h)).2
 have hbg := Jpe ht hl hx
 have hbl := xZ (Xk k ins items.length)
 rw [Jdk] at hbl
 obtain ⟨H, hH⟩ : ∃ H, H = (Vf (Xk k ins items.length)).toNat := ⟨_, rfl⟩
 have hHi : Vf (Xk k ins items.length) = (H : Int) := by omega
 have hHb : H ≤ 1351079888211148800 := by omega
 rw [hHi] at hbg; rw [← hH]
 obtain ⟨TOT, hTOT⟩ : ∃ T, T = Zt H (Qg items k 0 ins 0) [] [] := ⟨_, rfl⟩
 rw [← hTOT]; refine Ja Tryz.func344 rfl rfl fun w => ?_; refine JA ?_; refine Jq 2 rfl ?_; refine LN rfl fun r1 => ?_; refine LN rfl fun r2 => ?_; refine JG 5 rfl ?_; refine LN rfl fun r3 => ?_; refine LN rfl fun r4 => ?_; refine Xa 6 [3, 2] rfl rfl ?_; refine LR rfl (J1 rfl hs rfl) ?_; refine Je rfl rfl rfl (enters_of Tryz.func365 (by kernel_rfl) rfl) hbg oR ?_; refine LN rfl fun r5 => ?_
 refine LT 0 rfl rfl ?_; refine Xa 7 [4, 3] rfl rfl ?_; refine LR rfl (J1 rfl hs rfl) ?_; refine JQ rfl rfl rfl (enters_of Tryz.func366 (by kernel_rfl) rfl) (Jip (.mk k n p ins) (items.length : Int)) fun pp => ?_
 obtain ⟨ra, rb⟩ := pp
 change HL _ _ _ (qR rb items.length :: W6 ra (.mk k n p ins) :: _) _ _ _ _; refine JK 3 rfl ?_; refine VC [4, 3, 0, 1, 2, 5, 6] (L' := [yy r3 [] none false, yy r4 [] none false, qR rb items.length, W6 ra (.mk k n p ins), _, _, _]) (by decide) rfl ?_
 refine VV (τ := Unit) (fun i (s : BS × BS × QU × QU × Bool × Bool) => i ≤ items.length ∧ Zt H (Qg (items.drop i) k 0 ins i) s.1 s.2.1 = TOT ∧ bOk s.1 s.2.2.1 ∧ bOk s.2.1 s.2.2.2.1 ∧ s.1.length + s.2.1.length + zo (Qg (items.drop i) k 0 ins i) ≤ B) (fun s => W7 r3 s.1 s.2.2.1 s.2.2.2.2.1 ++ W7 r4 s.2.1 s.2.2.2.1 s.2.2.2.2.2) (fun _ _ => False) (fun _ => []) [qR rb items.length, W6 ra (.mk k n p ins), _, _, _] ([], [], none, none, false, false) rfl rfl (enters_of Tryz.func379 (by kernel_rfl) rfl) (Jiq ht (by omega) hx ra rb) (by rintro _ _ _ ⟨_, rfl, _⟩; rfl) rfl (fun q hq => by rcases List.mem_cons.1 hq with rfl | hq; exact .inl (by simp); rcases List.mem_cons.1 hq with rfl | hq; exact .inl (by simp); exact .inr hq) rfl ⟨Nat.zero_le _, hTOT.symm, Jaa, Jaa, by simpa using hB⟩ ?_ ?_ ?_
 ·rintro q Xr Xb w3 i _ _ ⟨f, th, row1, row2, own1, own2⟩ ⟨hii, rfl, rfl⟩ ⟨him, hinv, hb1, hb2, hlen⟩ Kr hKr; refine xj ?_
  simp only at hinv hb1 hb2 hlen
  have hti1 := hti i hii
  have hix := X6 hii
  have hbi := hb i _ hix.1
  rw [Zw hix.1, Qg, Zt] at hinv; rw [Zw hix.1, Qg, wt] at hlen
  obtain ⟨S, hS⟩ : ∃ S, S = Vn (X5 items i) (JR k 0 ins i) := ⟨_, rfl⟩
  simp only [← hS] at hinv hlen; rw [← hS] at hbi
  have hle4 := Jdb (H + th.length)
  unfold itV
  refine Jq 6 rfl ?_; refine Qo (cs := #[.int .i64 0, .int .i64 0, .slice none 0 0]) rfl rfl rfl rfl fun r9 => ?_; refine Jk (k := 0) (n := 3) (ys := (JR k 0 ins i).cells) rfl rfl rfl rfl rfl (JR k 0 ins i).len rfl (JR k 0 ins i).one rfl ?_; refine Jw 1 rfl ?_; refine hKr _ _ ?_; refine JA ?_; clear hKr; refine JN 2 rfl ?_; refine JD 7 (by kernel_rfl) (by kernel_rfl) ?_; refine Jb rfl rfl rfl (Jh (xs := (JR k 0 ins i).cells) (n := 3) rfl (kn 0 rfl) rfl rfl (JR k 0 ins i).len) ?_; refine Jb rfl rfl rfl (Jd (v := KL items.length pi) rfl (J2 (k := 3) rfl) rfl rfl) ?_; refine Jb rfl rfl rfl (Jf rfl) ?_
  refine Jb rfl rfl rfl (Jp (j := i) rfl hs rfl rfl rfl (by first | rfl | omega) (by omega)) ?_; refine Jb rfl rfl rfl (Wq (fun q hq => Or.inr (List.mem_append_right _ hq)) rfl hs hix.1 rfl rfl) ?_; refine QM rfl rfl rfl Jos hbi (fun q hq => Or.inr (List.mem_append_right _ hq)) ?_; refine Jb rfl rfl rfl (J6 rfl) ?_; refine JS ?_; refine JG 5 rfl ?_; refine LR rfl (Jh (xs := (JR k 0 ins i).cells) (n := 3) rfl (kn 0 rfl) rfl rfl (JR k 0 ins i).len) ?_; refine Je rfl rfl rfl (enters_of Tryz.func367 (by kernel_rfl) rfl) (Jin hti1) (fun q hq => Or.inr (List.mem_append_right _ hq)) ?_; refine JK 12 rfl ?_; refine cD (fun g => ?_) fun g => ?_
  refine Jq 3 rfl ?_; refine Qr (T := W7 r3 f row1 own1) (L0 := (r9, .cells (JR k 0 ins i).cells.toArray 84 (0, 0)) :: W7 r4 th row2 own2) (Rl := []) List.perm_middle.symm rfl rfl rfl Jh7 (vo hb1 (s2 := S) (by omega)) oN fun x => ?_
  obtain ⟨row1x, hb1x⟩ := x
  refine Jw 5 rfl ?_
  (rw [if_pos (by assumption)] at hinv
   refine vk (L' := W7 r3 (f ++ S) row1x true ++ W7 r4 th row2 own2) ((List.Sublist.refl _).append (.cons _ (List.Sublist.refl _))) ?_
   exact Ki (f ++ S, th, row1x, row2, true, own2) ⟨by omega, hinv, hb1x, hb2, by simp only [List.length_append]; omega⟩ rfl)
  ·refine JN 3 rfl ?_; refine JD 10 (by kernel_rfl) (by kernel_rfl) ?_; refine Jb rfl rfl rfl (Jd (v := .int .i64 (H : Int)) rfl (J2 (k := 2) rfl) rfl rfl) ?_; refine QM rfl rfl rfl (enters_of Tryz.func246 (by kernel_rfl) rfl) (Jxu r4 own2 hb2) (fun q hq => Or.inl (by rw [List.mem_singleton.1 hq]; exact List.mem_cons_of_mem _ (List.mem_append_right _ List.mem_cons_self))) ?_
   refine Jb rfl rfl rfl (Jv rfl rfl rfl) ?_; refine KU (show _ = Value.int .i64 ((H + th.length : Nat) : Int) from by rw [wrap_i64 (by omega) (by omega)]; congr 1 <;> omega) ?_; refine Jb rfl rfl rfl (Jv rfl rfl rfl) ?_; refine KU (show _ = uV (H + th.length) from congrArg (Value.int .u64) (wrap_u64 (by omega) (by omega))) ?_; refine Kl rfl rfl rfl Jto (j0 (n := H + th.length) (by omega) 4) ?_; refine Jb rfl rfl rfl (Jf rfl) ?_; refine Jb rfl rfl rfl (JL rfl rfl) ?_; refine Jb rfl rfl rfl (JL rfl rfl) ?_; refine Jb rfl rfl rfl (J6 rfl) ?_; refine Jb rfl rfl rfl (J6 rfl) ?_; refine JS ?_; refine JG 5 rfl ?_; refine Qr (T := W7 r3 f row1 own1) (L0 := (r9, .cells (JR k 0 ins i).cells.toArray 84 (0, 0)) :: W7 r4 th row2 own2) (Rl := []) List.perm_middle.symm rfl rfl rfl Jh7 (vo hb1 (s2 := (yw (H + th.length) 4).1) (by omega)) oN fun x => ?_
   obtain ⟨row1x, hb1x⟩ := x
   refine JG 4 rfl ?_; refine Qr (T := W7 r4 th row2 own2) (L0 := W7 r3 (f ++ (yw (H + th.length) 4).1) row1x true ++ [(r9, .cells (JR k 0 ins i).cells.toArray 84 (0, 0))]) (Rl := []) (Juh _ _ _) rfl rfl rfl Jh7 (vo hb2 (s2 := S) (by omega)) oN fun x => ?_
   obtain ⟨row2x, hb2x⟩ := x
   refine Jw 2 rfl ?_
   (rw [if_neg (by rw [Bool.not_eq_true]; assumption)] at hinv
    refine zT List.perm_append_comm ?_; refine vk (L' := W7 r3 (f ++ (yw (H + th.length) 4).1) row1x true ++ W7 r4 (th ++ S) row2x true) ((List.sublist_append_left _ _).append (List.Sublist.refl _)) ?_
    exact Ki (f ++ (yw (H + th.length) 4).1, th ++ S, row1x, row2x, true, true) ⟨by omega, hinv, hb1x, hb2x, by simp only [List.length_append]; omega⟩ rfl)
 rintro D i ⟨f, th, row1, row2, own1, own2⟩ hfi ⟨him, hinv, hb1, hb2, hlen⟩
 simp only at hinv hb1 hb2 hlen
 have hin : i = items.length := hfi
 rw [hin, List.drop_length, Qg, Zt] at hinv; refine gqo 4 rfl ?_; refine Qr (T := W7 r3 f row1 own1) (L0 := _ :: (W7 r4 th row2 own2 ++ [qR rb items.length, W6 ra (.mk k n p ins), _, _, _])) (Rl := []) (by rw [List.append_assoc]; exact List.perm_middle.symm) rfl rfl rfl Jom (Jfx hb1 (by omega)) oN fun u1 => ?_; refine Qr (T := W7 r4 th row2 own2) (L0 := _ :: [qR rb items.length, W6 ra (.mk k n p ins), _, _, _]) (Rl := []) List.perm_middle.symm rfl rfl rfl Jom (Jfx hb2 (by omega)) oN fun u2 => ?_; refine LR rfl (QA (a := f) (b := th) rfl rfl (by omega)) ?_; refine Jw 4 rfl ?_; refine Kw (k := 0) rfl rfl ?_; refine pT rfl rfl rfl fun w1 hs1 => ?_; exact ⟨by rw [← hinv]; rfl, hs1.keep⟩
 ·exact fun _ _ _ h => h.elim
theorem WR {a b c d : Nat} {bits : List Bool} {pb : Pl} {items : List Vl} {pi : Pl} {pick k n : Int} {p : Pl} {ins : List Ty} (h : KK (.mk a b c d bits pb items pi pick) (.mk k n p ins) = 0) :
  ¬ ((k = 4 ∧ n < items.length) ∨ (k = 6 ∧ n < bits.length)) ∧ xO k n ins.length (.mk a b c d bits pb items pi pick) = true ∧ QC items k pick ins 0 = 0 := by
 rw [KK] at h
 split at h
 ·cases h
 ·rename_i h1
  split at h
  ·cases h
  ·rename_i h2
   exact ⟨h1, by simpa using h2, h⟩
theorem Xl : ∀ {l : List Vl} {k pick : Int} {ins : List Ty} {i j : Nat} {x : Vl}, QC l k pick ins i = 0 → l[j]? = some x → KK x (JR k pick ins (i + j)) = 0
 | [], _, _, _, _, _, _, _, h => by simp at h
 | y :: ys, k, pick, ins, i, j, x, h0, h => by
  rw [QC] at h0
  split at h0
  ·rename_i h1
   cases j with
   | zero => simp at h; subst h; exact h1
   | succ j =>
    rw [List.getElem?_cons_succ] at h
    have := Xl h0 h
    rwa [show i + 1 + j = i + (j + 1) by omega] at this
  ·rename_i h1; exact absurd h0 h1
theorem Jpj : ∀ {l : List Vl} {x : Vl}, x ∈ l → Y1 x ≤ wL l
 | y :: ys, x, h => by
  rw [wL]
  rcases List.mem_cons.1 h with rfl | h
  ·omega
  ·have := Jpj h; omega
theorem Jfy {a b c d : Nat} {bits : List Bool} {pb : Pl} {items : List Vl} {pi : Pl} {pick : Int} {x : Vl} (h : x ∈ items) : Y1 x ≤ Y1 (.mk a b c d bits pb items pi pick) := by
 have := Jpj h
 rw [Y1]; omega
theorem Jdm (items : List Vl) (k pick : Int) (ins : List Ty) : ∀ (l : List Vl) (i : Nat), zo (Qg l k pick ins i) ≤ 40 * wL l
 | [], i => by rw [Qg, wL]; exact Nat.zero_le _
 | x :: xs, i => by
  rw [Qg, wL, wt]
  have h1 := wn x (JR k pick ins i)
  have h2 := Jdm items k pick ins xs (i + 1)
  simp only
  omega
theorem Jlb {z : Int} (h1 : 0 ≤ z) (h2 : z < 256) : Value.int .u8 (IntKind.u8.wrap z) = bV (UInt8.ofNat z.toNat) := by
 rw [qX h1 (by omega), ← Jg1 (by omega), Int.toNat_of_nonneg h1]
theorem Jui {l : List Vl} {k pick : Int} {ins : List Ty} (h : l.length = 1) : ((Qg l k pick ins 0).headD (default, [])).2 = Vn (X5 l 0) (JR k pick ins 0) := by
 match l, h with
 | [x], _ => rw [Qg]; rfl
theorem Jdn {a b c d : Nat} {bits : List Bool} {pb : Pl} {items : List Vl} {pi : Pl} {pick k n dp : Int} {p : Pl} {ins : List Ty} (hc : chk (.mk k n p ins) dp = 0) (h : KK (.mk a b c d bits pb items pi pick) (.mk k n p ins) = 0) :
  items.length ≤ 512 ∧ bits.length ≤ 512 ∧ (k = 1 → 1 ≤ n ∧ n ≤ 32) ∧ (k = 8 → items.length = 1 ∧ 0 ≤ pick ∧ pick < ins.length ∧ ins.length ≤ 8) := by
 obtain ⟨h1, h2, _⟩ := WR h
 obtain ⟨hk, hf, _, _⟩ := QZ hc
 rw [Vp k n ins.length a b c d bits pb items pi pick _ rfl] at h2; simp only [Ve] at h2
 unfold Qc at hf
 have h9 : k = 1 ∨ k = 2 ∨ k = 3 ∨ k = 4 ∨ k = 5 ∨ k = 6 ∨ k = 7 ∨ k = 8 := by omega
 rcases h9 with rfl | rfl | rfl | rfl | rfl | rfl | rfl | rfl
 all_goals generalize items.length = I at *
 all_goals generalize bits.length = J at *
 all_goals generalize ins.length = K at *
 all_goals simp at h1 h2 hf ⊢
 all_goals omega
section
variable {c : Cx} {l : Ks} {L E : Ji} {X : XP} {Q : Exit → Act → World → Prop} {d : List Deferred}
variable {ops : Array Oper} {rest : List Nat} {i k : Nat} {v : Value} {o : Oper} {tb : ZL} {S : Ji} {T : Ji → Act → Prop}
theorem Wl {t ty : TypeId} {ps : String} {af : Array Edge} {gd : Option (Nat × Bool)} {n e sz : Nat} {pa : List (Nat × Operand)} {vs : Ks} {r zs : List Value} {z : Value} (hk : WP ops.toList k = some ⟨some i, .buildSlice t n pa.toArray, ty, ps, af, gd⟩) (hg : Kc l ops ⟨some i, .buildSlice t n pa.toArray, ty, ps, af, gd⟩ = some true) (hi : Nat.ble (i + 1) c.n = true)
  (hA : tb k = .grow (Vo (slV n) (.cells r.toArray e (0, 0))))
  (hp : WF l pa = some vs) (ht : Kj c.P t = some e) (hz : Qt c.P e = some z) (hs : KH c.P e = some sz) (hzs : z.cells.size = sz) (hb : Nat.ble (n * sz) 16777216 = true) (h0 : Nat.ble 1 (n * sz) = true)
  (hmk : (madeCells z.cells (n * sz)).toList = zs) (hf : Y2 (fun i => some (i * sz, sz)) zs (Qw vs) = some r)
  (h : ∀ q, HB c d ((i, .slice (some ⟨q, 0, none⟩) n n) :: l) ((q, .cells r.toArray e (0, 0)) :: E) X S ops tb rest T) : HB c d l E X S ops tb (k :: rest) T :=
 Jnk (V := slV n) hk hg rfl hi hA (fun a w hfr => by
  have h1 := Vj hfr hp
  have h2 : (pa.toArray.map fun (p : Nat × Operand) => (p.1, a.eval p.2)) = vs.toArray := by
   apply Array.toList_inj.1; rw [Array.toList_map]; simpa using h1
  rw [Qu] at hf; subst hmk
  have h3 := VB ht hz hs hzs (Nat.le_of_ble_eq_true hb) (Nat.le_of_ble_eq_true h0) hf w
  rw [← h2] at h3; simp only [execOp, Sem.run_bind]
  have h4 : (Instr.buildSlice t n (pa.toArray.map fun (i, x) => (i, a.eval x))).run c.P w = .ok (.slice (some ⟨w.heap.size, 0, none⟩) n n) (w.alloc (.cells r.toArray e)) := h3
  rw [h4]; rfl) h
end
section
variable {a b c d : Nat} {bits : List Bool} {pb : Pl} {items : List Vl} {pi : Pl} {pick k n : Int} {p : Pl} {ins : List Ty}
theorem Wm : Vn (.mk a b c d bits pb items pi pick) (.mk k n p ins) = if k = 1 then leW [a, b, c, d] n.toNat else if k = 2 then leW [a, b, c, d] 1 else if k = 5 then WA bits else if k = 6 then WA (bits ++ [true])
  else if k = 8 then UInt8.ofNat pick.toNat :: ((Qg items k pick ins 0).headD (default, [])).2 else Zt (Vf ((Qg items k pick ins 0).map Prod.fst)).toNat (Qg items k pick ins 0) [] [] := by rw [Vn]; rfl
end
set_option maxHeartbeats 1000000 in
theorem Juj {R : Ji} {v : Vl} (hv : v.In R) : ∀ (t : Ty) (dp : Int), t.In R → chk t dp = 0 → KK v t = 0 → Y1 v ≤ 20000 → PureR Tryz.prog 302 [t.val, v.val].toArray (J4 (Vn v t)) R := by
 induction hv with
 | @mk a b c d bits pb items pi pick ha hb hc hd hlb hsb hl hs hp hi ih =>
 intro t dp ht hck hfit hw
 have ht0 := ht
 cases ht with
 | @mk k n p ins hk hn hlt hst hit =>
 obtain ⟨hk8, ho, h6, hci⟩ := QZ hck
 obtain ⟨hf1, hf2, hf3⟩ := WR hfit
 obtain ⟨m1, m2, m3, m4⟩ := Jdn hck hfit
 have hxl : ∀ i, i < items.length → Xy k pick i < ins.length := fun i hi => qc (v := .mk a b c d bits pb items pi pick) hck hf2 hi
 have hwd : WOk [a, b, c, d] := ⟨rfl, fun x hx => by simp at hx; rcases hx with rfl | rfl | rfl | rfl <;> assumption⟩
 have hfx := Qy hwd
 have hlen32 : (YX [a, b, c, d] 32).reverse.length = 32 := by rw [List.length_reverse, Vz]
 have hpt := Jpf (s := YX [a, b, c, d] 32) (by rw [Vz]; decide)
 have hle : ∀ m, leW [a, b, c, d] m = ((YX [a, b, c, d] 32).reverse.take m).drop 0 := fun m => by rw [List.drop_zero]; rfl
 have hrow : ¬ k = 1 → ¬ k = 2 → ¬ k = 5 → ¬ k = 6 → ¬ k = 8 → PureR Tryz.prog 344 [Ty.val (.mk k n p ins), KL items.length pi].toArray (J4 (Vn (.mk a b c d bits pb items pi pick) (.mk k n p ins))) R := fun h1 h2 h5 h6 h8 => by
  have hx0 : ∀ i, i < items.length → Xy k 0 i < ins.length := fun i hi => by have := hxl i hi; unfold Xy at this ⊢; rw [if_neg h8] at this ⊢; exact this
  have hwl : wL items ≤ Y1 (.mk a b c d bits pb items pi pick) := by rw [Y1]; omega
  have := Jxv (B := 800000) ht0 hs (by omega) hx0 (fun i x hxi => by
   have hm := List.mem_of_getElem? hxi
   have hlt3 := (List.getElem?_eq_some_iff.1 hxi).1
   have hty := (QO (hx0 i hlt3)).2
   have hg := Xl hf3 hxi
   rw [Nat.zero_add, vp h8] at hg
   exact ih x hm _ (dp + 1) (hit _ hty) (hci _ hty) hg (Nat.le_trans (Jfy hm) hw)) (by have := Jdm items k 0 ins items 0; omega) (by decide)
  rw [Wm, if_neg h1, if_neg h2, if_neg h5, if_neg h6, if_neg h8, Jis h8, Jpi]; exact this
 refine Ja Tryz.func302 rfl rfl fun w => ?_; refine JA ?_; refine Jq 2 rfl ?_; refine LN rfl fun r1 => ?_; refine LN rfl fun r2 => ?_; refine Xa 7 [0] rfl rfl ?_; refine LR rfl (J1 rfl hsb rfl) ?_; refine LN rfl fun r3 => ?_
 refine LT 0 rfl rfl ?_; refine Goc 16 [2] rfl rfl ?_; refine cD (fun h6 => ?_) fun h6 => ?_
 refine JN 1 rfl ?_
 have hn1 := m3 (by assumption)
 refine JD 8 (by kernel_rfl) (by kernel_rfl) ?_
 refine Jb rfl rfl rfl (J9 rfl rfl rfl) ?_; refine Jb rfl rfl rfl (Jo (vs := [_, _, _, _]) rfl (kn 1 rfl) rfl rfl rfl rfl) ?_; refine Kl rfl rfl rfl xN hfx ?_; refine Kl rfl rfl rfl (enters_of Tryz.func340 (by kernel_rfl) rfl) hpt ?_
 refine Jb rfl rfl rfl (J9 rfl rfl rfl) ?_; refine Jb rfl rfl rfl (Jd rfl (kn 2 rfl) rfl rfl) ?_; refine Jb rfl rfl rfl (jO (kl := none) (kh := some (.i64, n)) (m := 0) (n := n.toNat) rfl rfl rfl rfl rfl (by show n = ((n.toNat : Nat) : Int); omega) (Nat.zero_le _) (by rw [hlen32]; omega) rfl) ?_; rw [← hle]; refine Jb rfl rfl rfl (J6 rfl) ?_; refine JS ?_; refine Jw 5 rfl ?_; refine pT rfl rfl rfl fun w1 hs1 => ?_; refine ⟨?_, hs1.keep⟩; rw [Wm, if_pos (by assumption)]; rfl
 ·refine JN 6 rfl ?_; refine cD (fun g => ?_) fun g => ?_
  refine Xs 4 [1] rfl rfl ?_; refine Jn rfl rfl rfl xN hfx ?_; refine Jn rfl rfl rfl (enters_of Tryz.func340 (by kernel_rfl) rfl) hpt ?_; refine LR rfl (jO (kl := none) (kh := some (.i64, 1)) (m := 0) (n := 1) rfl rfl rfl rfl rfl (by show (1 : Int) = ((1 : Nat) : Int); omega) (Nat.zero_le _) (by rw [hlen32]; omega) rfl) ?_; rw [← hle]; refine Jw 6 rfl ?_; refine pT rfl rfl rfl fun w1 hs1 => ?_; refine ⟨?_, hs1.keep⟩; rw [Wm, if_neg (by assumption), if_pos (by assumption)]; rfl
  ·refine JN 6 rfl ?_; refine cD (fun g => ?_) fun g => ?_
   refine Jq 2 rfl ?_; refine LR rfl (Jd rfl (kn 0 rfl) rfl rfl) ?_; refine LR rfl (JC rfl rfl) ?_; refine Je (Rl := Xu r2 (.mk a b c d bits pb items pi pick) :: R) rfl rfl rfl (enters_of Tryz.func341 (by kernel_rfl) rfl) (Jph (caps := [XG r2]) (by omega) (enters_of Tryz.func342 (by kernel_rfl) rfl) (fun i hi => J1o hsb (by omega) r2 hi)) (fun q hq => (List.mem_cons.1 hq).elim (fun h => .inl (by rw [h]; exact List.mem_cons_of_mem _ List.mem_cons_self)) .inr) ?_; refine Jw 6 rfl ?_; refine pT rfl rfl rfl fun w1 hs1 => ?_; refine ⟨?_, hs1.keep⟩; rw [Wm, if_neg (by assumption), if_neg (by assumption), if_pos (by assumption)]; rfl
   ·refine JN 6 rfl ?_; refine cD (fun g => ?_) fun g => ?_
    refine Xs 4 [0] rfl rfl ?_; refine J3 (show _ = Value.int .i64 (((bits ++ [true]).length : Nat) : Int) from by rw [wrap_i64 (by omega) (by omega)]; congr 1; rw [List.length_append]; rfl) ?_; refine LR rfl (JC rfl rfl) ?_
    refine Je (Rl := qR r3 bits.length :: Xu r2 (.mk a b c d bits pb items pi pick) :: R) rfl rfl rfl (enters_of Tryz.func341 (by kernel_rfl) rfl) (Jph (caps := [XG r3, XG r2]) (by rw [List.length_append]; simp; omega) (enters_of Tryz.func343 (by kernel_rfl) rfl) (fun i hi => J1p hsb (by omega) r3 r2 hi)) (fun q hq => by rcases List.mem_cons.1 hq with rfl | hq; exact .inl List.mem_cons_self; rcases List.mem_cons.1 hq with rfl | hq; exact .inl (List.mem_cons_of_mem _ List.mem_cons_self); exact .inr hq) ?_; refine Jw 6 rfl ?_; refine pT rfl rfl rfl fun w1 hs1 => ?_; refine ⟨?_, hs1.keep⟩; rw [Wm, if_neg (by assumption), if_neg (by assumption), if_neg (by assumption), if_pos (by assumption)]; rfl
    ·refine JN 6 rfl ?_; refine cD (fun g => ?_) fun g => ?_
     refine JN 1 rfl ?_
     have hk0 : k = 8 := by assumption
     have h81 := (m4 hk0).1
     have hx8 := X6 (l := items) (i := 0) (by omega)
     have hty8 := QO (hxl 0 (by omega))
     have hix8 : Xy k pick 0 = pick.toNat := by unfold Xy; rw [if_neg (by omega), if_pos hk0]
     rw [hix8] at hty8
     have hg8 := Xl hf3 hx8.1
     have hw8 := Nat.le_trans (Jfy (a := a) (b := b) (c := c) (d := d) (bits := bits) (pb := pb) (pi := pi) (pick := pick) hx8.2) hw
     have hrec := ih _ hx8.2 (JR k pick ins 0) (dp + 1) (hit _ hty8.2) (hci _ hty8.2) hg8 hw8
     have hpl8 := wn (X5 items 0) (JR k pick ins 0)
     refine JJ [] [(0, .pure), (2, .pure), (3, .grow (Vo (slV 1) (.cells #[bV (UInt8.ofNat pick.toNat)] 5 (0, 0)))), (5, .pure), (7, .pure), (9, .pure), (11, .pure), (13, .pure), (16, .pure), (17, .pure)] 18 [0, 1, 2, 5, 6, 7, 8, 9, 10, 11, 12, 13, 14, 15, 3, 4, 16, 17] (by kernel_rfl) (by kernel_rfl) (by first | exact (fun _ h => absurd h List.not_mem_nil) | simp [SubS] | (intro p hp; simp [hp])) ?_
     refine Jj (k := 0) rfl rfl rfl rfl rfl (fun _ hS => (J9 rfl rfl rfl)) ?_; refine Kv (k := 1) rfl rfl rfl rfl rfl (Jd rfl (kn 1 rfl) rfl rfl) ?_; refine Jj (k := 2) rfl rfl rfl rfl rfl (fun _ hS => (Jv rfl rfl rfl)) ?_; refine VN (show _ = bV (UInt8.ofNat pick.toNat) from Jlb (m4 (by assumption)).2.1 (by have := m4 (by assumption); omega)) ?_
     refine Jj (k := 5) rfl rfl rfl rfl rfl (fun _ hS => (J9 rfl rfl rfl)) ?_; refine Kv (k := 6) rfl rfl rfl rfl rfl (Jd rfl (kn 2 rfl) rfl rfl) ?_
     refine Jj (k := 7) rfl rfl rfl rfl rfl (fun _ hS => (J9 rfl rfl rfl)) ?_; refine Kv (k := 8) rfl rfl rfl rfl rfl (Jd rfl (kn 1 rfl) rfl rfl) ?_; refine Jj (k := 9) rfl rfl rfl rfl rfl (fun _ hS => (Jp (j := pick.toNat) rfl hst rfl rfl rfl (by have := m4 (by assumption); omega) (by have := m4 (by assumption); omega))) ?_; refine Kv (k := 10) rfl rfl rfl rfl rfl (Qm oR rfl hst hty8.1 rfl rfl) ?_
     refine Jj (k := 11) rfl rfl rfl rfl rfl (fun _ hS => (J9 rfl rfl rfl)) ?_; refine Kv (k := 12) rfl rfl rfl rfl rfl (Jd rfl (kn 1 rfl) rfl rfl) ?_
     refine Jj (k := 13) rfl rfl rfl rfl rfl (fun _ hS => (Jp (j := 0) rfl hs rfl rfl rfl (by first | rfl | omega) (by omega))) ?_; refine Kv (k := 14) rfl rfl rfl rfl rfl (Wq oR rfl hs hx8.1 rfl rfl) ?_; refine KA (k := 15) rfl rfl rfl rfl rfl Jos hrec oR ?_; refine Wl (k := 3) (n := 1) (sz := 1) (vs := [_]) (zs := [_]) (r := [bV (UInt8.ofNat pick.toNat)]) rfl rfl rfl rfl rfl rfl rfl rfl rfl rfl rfl (by show (madeCells #[_] _).toList = _; rw [QW]; exact rfl) rfl fun rv => ?_; refine Kv (k := 4) rfl rfl rfl rfl rfl (Q0 (b := [UInt8.ofNat pick.toNat]) (row := some (rv, 1, [])) (e := 5) rfl ⟨rfl, rfl⟩ (fun p hp => .inl (by rw [List.mem_singleton.1 hp]; exact List.mem_cons_self)) rfl rfl rfl) ?_; refine Jj (k := 16) rfl rfl rfl rfl rfl (fun _ hS => (QA (a := [UInt8.ofNat pick.toNat]) (b := Vn (X5 items 0) (JR k pick ins 0)) rfl rfl (by simp only [List.length_cons, List.length_nil]; omega))) ?_; refine Jj (k := 17) rfl rfl rfl rfl rfl (fun _ hS => (J6 rfl)) ?_; refine Km ?_; refine Jw 5 rfl ?_; refine pT rfl rfl rfl fun w1 hs1 => ?_; refine ⟨?_, hs1.keep⟩; rw [Wm, if_neg (by assumption), if_neg (by assumption), if_neg (by assumption), if_neg (by assumption), if_pos (by assumption), Jui h81]; rfl
     ·refine Jq 5 rfl ?_; refine LR rfl (Jo (vs := [_, _, _]) rfl (kn 2 rfl) rfl rfl rfl rfl) ?_
      refine LS 2 [1] rfl rfl ?_; refine Je rfl rfl rfl (enters_of Tryz.func344 (by kernel_rfl) rfl) (hrow (by assumption) (by assumption) (by assumption) (by assumption) (by assumption)) oR ?_; refine Jw 4 rfl ?_; refine pT rfl rfl rfl fun w1 hs1 => ?_; refine ⟨?_, hs1.keep⟩
      rfl
theorem Yu {t : Ty} {v : Vl} (h : Vx t v = 0) : chk t 0 = 0 ∧ KK v t = 0 := by
 unfold Vx at h
 split at h
 ·rename_i h1; exact ⟨h1, h⟩
 ·rename_i h1; exact absurd h h1
theorem Juk {v : Vl} (t : Ty) (h : Y1 v ≤ 20000) : (Vn v t).length ≤ 800000 := by have := wn v t; omega
theorem Jxw {R : Ji} {t : Ty} {v : Vl} (ht : t.In R) (hv : v.In R) (hw : Y1 v ≤ 20000) : PureR Tryz.prog 216 [t.val, v.val].toArray (Zs (Jt7 t v)) R := by
 have h1 := Jo4 ht hv
 have h2 := fun h => Juj hv t 0 ht (Yu (t := t) (v := v) h).1 (Yu h).2 hw
 have hlb := Juk t hw
 unfold Jt7
 generalize Vx t v = e at h1 h2 ⊢
 generalize Vn v t = s at h2 hlb ⊢
 obtain ⟨k, n, p, ins⟩ := t
 obtain ⟨a, b, c, d, bits, pb, items, pi, pick⟩ := v
 refine Ja Tryz.func216 rfl rfl fun w => ?_; refine JA ?_; refine Jq 2 rfl ?_; refine LN rfl fun r1 => ?_; refine LN rfl fun r2 => ?_; refine Xa 9 [1, 0] rfl rfl ?_; refine Je rfl rfl rfl (enters_of Tryz.func99 (by kernel_rfl) rfl) h1 oR ?_; refine JK 9 rfl ?_; refine cD (fun g => ?_) fun g => ?_
 refine Ko 9 rfl ?_; refine Jg rfl rfl (.cons (Jl rfl) (.cons (Jl rfl) .nil)) (fun w1 hs1 => ?_); refine ⟨?_, hs1.keep⟩; rw [if_pos (by omega)]; rfl
 ·refine Xs 6 [1, 0] rfl rfl ?_; refine Je rfl rfl rfl Jos (h2 (by omega)) oR ?_; refine JG 7 rfl ?_; refine LR rfl (Qh rfl rfl) ?_; refine JK 3 rfl ?_; refine cD (fun g => ?_) fun g => ?_
  refine Ko 8 rfl ?_; refine Jg rfl rfl (.cons (Jl rfl) (.cons (Jl rfl) .nil)) (fun w1 hs1 => ?_); refine ⟨?_, hs1.keep⟩; rw [if_neg (by omega), if_pos (by omega)]; rfl
  ·refine Ko 10 rfl ?_; refine Jg rfl rfl (.cons (Jl rfl) (.cons (Jl rfl) .nil)) (fun w1 hs1 => ?_); refine ⟨?_, hs1.keep⟩; rw [if_neg (by omega), if_neg (by omega)]; rfl
section
variable {c : Cx} {l : Ks} {L : Ji} {X : XP} {d : List Deferred} {i : Nat} {ps : String} {af : Array Edge} {gd : Option (Nat × Bool)} {ty : TypeId}
theorem Jdo {x : Operand} {b : List UInt8} {r off n cap : Nat} {cs : Array Value} {e src dst : TypeId} {fr : Nat × Nat} (hx : JX l x = some (.slice (some ⟨r, off, none⟩) n cap)) (hk : known c L r (.cells cs e fr)) (hn : n = b.length) (ht : (cs.toList.drop off).take b.length = b.map bV)
  (hs : Kj c.P src = some e) (he : c.P.underlying e = some (.int .u8)) (hd : vC c.P dst = true) :
  J5 c d l L X ⟨some i, .convert src dst x, ty, ps, af, gd⟩ (.string (bs b)) := fun a' w hf hst => by
 subst hn; simp only [execOp]; rw [hf.eval hx]
 have hget := hst.known hk
 have hl : (loadCells ⟨r, off, none⟩ (b.map bV).length).run c.P w = .ok (b.map bV).toArray w := run_loadCells_list w ⟨r, off, none⟩ (b.map bV) fun j v hj => by
  have hlt := (List.getElem?_eq_some_iff.1 hj).1
  rw [List.length_map] at hlt
  have hj2 : cs[off + j]? = some v := by
   rw [← ht, List.getElem?_take, if_pos hlt, List.getElem?_drop] at hj
   simpa using hj
  rw [ZX, Vi hget]; exact hj2
 rw [List.length_map] at hl; simp only [Sem.run_bind]; rw [run_convert_bytes_string w src dst e _ _ _ (JV hs) he (QH hd)]; rw [run_bytesToString w _ _ _ (b.map fun x => ((x.toNat : Nat) : Int)) (by rw [hl]; simp [bV, Function.comp_def])]
 have := YW b []
 rw [show (bs [] : ByteArray) = ByteArray.empty from rfl] at this; rw [this]
 rfl
end
def Xm (s : BS) (i : Nat) : BS := (s.drop (32 * i)).take 32
def Jab (s : BS) : Nat := (s.length + 31) / 32
def wu (s : BS) (m : Nat) : List BS := (List.range m).map fun i => yv (Xm s i)
def Yv (s : BS) : List BS := wu s (Jab s)
theorem Jpk (s : BS) (m : Nat) : (wu s m).length = m := by unfold wu; rw [List.length_map, List.length_range]
theorem YN (s : BS) : (Yv s).length = Jab s := Jpk _ _
theorem Yw (s : BS) (i : Nat) : (Xm s i).length = min 32 (s.length - 32 * i) := by unfold Xm; rw [List.length_take, List.length_drop]
theorem Jlc (s : BS) (i : Nat) : Wk (wu s (i + 1)) = Wk (wu s i) ++ [J4 (yv (Xm s i))] := by
 unfold wu
 rw [List.range_succ, List.map_append, List.map_cons, List.map_nil, YM]
theorem Zm (s : BS) : ∀ x ∈ Yv s, x.length = 32 := by
 intro x hx
 unfold Yv wu at hx
 obtain ⟨i, _, rfl⟩ := List.mem_map.1 hx
 exact vP (by rw [Yw]; omega)
theorem Jpl (s : BS) (i : Nat) (sp : List Value) : ((s.map bV ++ sp).toArray.toList.drop (32 * i)).take (Xm s i).length = (Xm s i).map bV := by
 simp only [List.toList_toArray]; rw [Yw]
 by_cases h : 32 * i ≤ s.length
 ·rw [List.drop_append_of_le_length (by rw [List.length_map]; exact h), List.take_append_of_le_length (by rw [List.length_drop, List.length_map]; omega)]
  unfold Xm
  rw [List.map_take, List.map_drop]
  rcases Nat.le_total 32 (s.length - 32 * i) with h2 | h2
  ·rw [Nat.min_eq_left h2]
  ·rw [Nat.min_eq_right h2, List.take_of_length_le (by rw [List.length_drop, List.length_map]; omega), List.take_of_length_le (by rw [List.length_drop, List.length_map]; omega)]
 ·unfold Xm
  rw [show s.length - 32 * i = 0 by omega, Nat.min_zero, List.take_zero, List.drop_of_length_le (by omega)]; rfl
def chM (rb n cap : Nat) (p : Nat × Nat) : Ji := [(p.2, .cells #[.int .i64 32] 3 (0, 0)), (p.1, .cells #[.slice (some ⟨rb, 0, none⟩) n cap] 66 (0, 0))]
theorem Jpm (rb n cap : Nat) : PureE (α := Nat × Nat) Tryz.prog 108 [.slice (some ⟨rb, 0, none⟩) n cap, .int .i64 32].toArray (fun p => .func (.func 175) #[] #[XG p.1, XG p.2]) (chM rb n cap) := by
 refine Ke Tryz.func108 rfl rfl fun w => ?_; refine JA ?_; refine Jq 2 rfl ?_; refine LN rfl fun r1 => ?_; refine LN rfl fun r2 => ?_; refine Goc 10 [0] rfl rfl ?_; refine Jz rfl (fun h4 => ?_) (fun h4 => ?_)
 exact absurd h4 (by decide)
 ·try simp only [ZZ] at h4
  refine Jq 4 rfl ?_; refine LR rfl (JC rfl rfl) ?_; refine Jw 4 rfl ?_; refine pT rfl rfl rfl fun w1 hs1 => ?_; exact ⟨(r1, r2), rfl, hs1⟩
def Jfz (rb n j : Nat) : List Value := [.slice (some ⟨rb, 32 * j, none⟩) (min 32 (n - 32 * j)) (min 32 (n - 32 * j))]
theorem Jpn {rb n cap N : Nat} (hn : N = (n + 31) / 32) (hcap : n ≤ cap) (hlim : n ≤ 1000000) (p1 p2 : Nat) : ZY Tryz.prog 175 [XG p1, XG p2] (chM rb n cap (p1, p2)) 0 (nxN (Jfz rb n) N) (yr N) := by
  refine QY Tryz.func175 rfl rfl fun q xids w2 XI XF hY => ?_; refine JA ?_; refine JN 6 rfl ?_; refine J0 (σ := Nat) (fun i => i ≤ N) (fun i => [(0, .func (.yield q) #[] #[]), (1, XG p1), (2, XG p2), (4, .int .i64 ((32 * i : Nat) : Int))]) (fun _ => []) (fun i => XI i) (fun i => N - i) 0 (Nat.zero_le _) (lK rfl) (List.nil_sublist _) (fun _ _ h => h) ?_; intro i hi; refine Jq 4 rfl ?_; refine LR rfl (Jd rfl (J2 (k := 1) rfl) rfl rfl) ?_; refine LR rfl (JU rfl rfl) ?_; refine JK 3 rfl ?_; refine cD (fun g => ?_) fun g => ?_
  · refine JN 5 rfl ?_
    obtain ⟨M, hM⟩ : ∃ M, M = min 32 (n - 32 * i) := ⟨_, rfl⟩
    have hM1 : M ≤ 32 := by omega
    have hM2 : 0 < M := by omega
    refine JD 7 (by kernel_rfl) (by kernel_rfl) ?_; refine Jb rfl rfl rfl (Jd rfl (J2 (k := 0) rfl) rfl rfl) ?_; refine Jb rfl rfl rfl (Jd rfl (J2 (k := 1) rfl) rfl rfl) ?_; refine Jb rfl rfl rfl (Jf rfl) ?_; refine Jb rfl rfl rfl (JO (kl := some (32 * i)) (kh := none) (km := none) (sz := 1) (m := 32 * i) (q := n) (z := cap) rfl rfl rfl ⟨_, rfl⟩ trivial trivial rfl rfl rfl (by omega) hcap (Nat.le_refl _) (fun _ => rfl) rfl) ?_; refine Jb rfl rfl rfl (JU rfl rfl) ?_
    refine Jb rfl rfl rfl (Jnc (r := ((M : Nat) : Int)) rfl rfl (by rw [hM]; split <;> omega)) ?_; refine Jb rfl rfl rfl (J6 rfl) ?_; refine JS ?_; refine JG 5 rfl ?_; refine LR rfl (Jd rfl (J2 (k := 1) rfl) rfl rfl) ?_; refine JG 4 rfl ?_; refine J3 (show _ = Value.int .i64 ((32 * i + M : Nat) : Int) from by rw [wrap_i64 (by omega) (by omega)]; congr 1 <;> omega) ?_; refine JG 3 rfl ?_; refine J3 (show _ = Value.int .i64 ((32 * i + M : Nat) : Int) from by rw [wrap_i64 (by omega) (by omega)]; congr 1 <;> omega) ?_
    refine LR rfl (JO (kl := some (32 * i)) (kh := some (32 * i + M)) (km := some (32 * i + M)) (sz := 1) (m := 32 * i) (q := 32 * i + M) (z := 32 * i + M) (off' := 32 * i) rfl rfl rfl ⟨_, rfl⟩ ⟨_, rfl⟩ ⟨_, rfl⟩ rfl rfl rfl (by omega) (Nat.le_refl _) (by omega) (fun h => by cases h) (by rw [if_neg (by omega)]; omega)) ?_; refine J3 (show _ = Value.slice (some ⟨rb, 32 * i, none⟩) (min 32 (n - 32 * i)) (min 32 (n - 32 * i)) from by congr 1 <;> omega) ?_; refine Vr (XT := XI (i + 1)) (XF := XF) rfl rfl rfl rfl (hY i (Jfz rb n i) (i + 1) ⟨by omega, rfl, rfl⟩) ?_ ?_
    all_goals (
     refine Jw 2 rfl (Y6 1 rfl ?_); refine Jz rfl (fun g => ?_) (fun g => ?_)
     · try exact Bool.noConfusion g
       all_goals try simp only [ZZ] at g
       all_goals (
        refine Ko 5 rfl ?_; refine Jg rfl rfl .nil (fun w1 hs1 => ?_)
        obtain ⟨xs1, hx1⟩ := hs1.now
        exact ⟨⟨_, rfl⟩, hs1.keep, .inr ⟨_, hx1⟩⟩
        skip)
     · try exact Bool.noConfusion g
       all_goals try simp only [ZZ] at g
       all_goals (
        refine Jq 5 rfl ?_; refine LR rfl (Jd rfl (J2 (k := 0) rfl) rfl rfl) ?_
        refine VQ rfl ?_; refine J3 (show _ = Value.int .i64 ((32 * (i + 1) : Nat) : Int) from by rw [wrap_i64 (by omega) (by omega)]; congr 1 <;> omega) ?_; refine Jw 2 rfl ?_; refine Jx ?_; exact Jt (i + 1) (by omega) (by omega) (lK rfl) (List.nil_sublist _) (fun _ _ h => h)
        skip)
     skip)
  · refine Ko 4 rfl ?_; refine Kq rfl rfl .nil (fun w1 hs1 => ?_)
    obtain ⟨xs1, hx1⟩ := hs1.now
    exact ⟨⟨_, rfl⟩, hs1.keep, .inl ⟨i, _, (by show i = N; omega), hx1⟩⟩
theorem Jz5 {s : BS} (hl : s.length ≤ 1000000) : PureT (α := { row : QU // rowOk 1 (Jab s) (Wk (Yv s)) row }) Tryz.prog 218 [J4 s].toArray (fun x => JE (Jab s) x.1) [] (fun x => JP 9 (Wk (Yv s)) x.1) [] := by
 obtain ⟨N, hN⟩ : ∃ N, N = Jab s := ⟨_, rfl⟩
 have hN2 : N = (s.length + 31) / 32 := hN
 have hC : Yv s = wu s N := by rw [hN]; rfl
 rw [hC, ← hN]; refine Ju Tryz.func218 rfl rfl fun w => ?_; refine JA ?_; refine Jq 7 rfl ?_; refine LN rfl fun r1 => ?_; refine JG 6 rfl ?_; refine Xw rfl rfl rfl rfl rfl rfl fun rb kb => ?_; refine JQ rfl rfl rfl (enters_of Tryz.func108 (by kernel_rfl) rfl) (Jpm rb s.length (s.length + kb)) fun pp => ?_
 obtain ⟨p1, p2⟩ := pp
 change HL _ _ _ [(p2, _), (p1, _), (rb, _), (r1, _)] _ _ _ _; refine JK 3 rfl ?_; refine VC [3, 0, 1, 2] (L' := [_, _, _, _]) (by decide) rfl ?_
 refine VV (τ := Unit) (fun i (q : Nat × QU) => i ≤ N ∧ i = q.1 ∧ rowOk 1 q.1 (Wk (wu s q.1)) q.2) (fun q => (r1, .cells #[JE q.1 q.2] 184 (0, 0)) :: JP 9 (Wk (wu s q.1)) q.2) (fun _ _ => False) (fun _ => []) [(p2, _), (p1, _), (rb, _)] (0, none) rfl rfl (enters_of Tryz.func175 (by kernel_rfl) rfl) (Jpn (rb := rb) (cap := s.length + kb) hN2 (by omega) hl p1 p2) (by rintro _ _ _ ⟨_, rfl, _⟩; rfl) rfl (fun q hq => .inl (by rcases List.mem_cons.1 hq with rfl | hq; exact List.mem_cons_self; rw [List.mem_singleton.1 hq]; exact List.mem_cons_of_mem _ List.mem_cons_self)) rfl ⟨Nat.zero_le _, rfl, rfl, rfl⟩ ?_ ?_ ?_
 rintro q Xr Xb w3 i _ _ ⟨i2, row⟩ ⟨hii, rfl, rfl⟩ ⟨him, he, hrow⟩ Kr hKr; refine xj ?_
 simp only at he
 obtain rfl := he
 simp only at hrow
 unfold Jfz
 refine Ko 3 rfl ?_; refine hKr _ _ ?_; refine JA ?_; clear hKr; refine JN 1 rfl ?_
 have hfull := Jfw (s := Xm s i) (by rw [Yw]; omega)
 have hsn := Jlc s i
 obtain ⟨sv, hsv⟩ : ∃ x, x = yv (Xm s i) := ⟨_, rfl⟩
 rw [← hsv] at hfull hsn
 refine JJ [] [(1, .pure), (3, .pure), (4, .grow (Vo (slV 1) (.cells #[J4 sv] 9 (0, 0))))] 5 [0, 1, 2, 3, 4] (by kernel_rfl) (by kernel_rfl) (by first | exact (fun _ h => absurd h List.not_mem_nil) | simp [SubS] | (intro p hp; simp [hp])) ?_; refine Kv (k := 0) rfl rfl rfl rfl rfl (Jd (v := JE i row) rfl (kn 0 rfl) rfl rfl) ?_; refine Jj (k := 1) rfl rfl rfl rfl rfl (fun _ hS => (Jf rfl)) ?_; refine Kv (k := 2) rfl rfl rfl rfl rfl (Jdo (b := Xm s i) rfl (J2 (k := 2) rfl) (Yw s i).symm (Jpl s i _) rfl rfl rfl) ?_; refine Qp (k := 3) rfl rfl rfl rfl rfl Jon hfull ?_; refine Wl (k := 4) (n := 1) (sz := 1) (vs := [_]) (zs := [_]) (r := [J4 sv]) rfl rfl rfl rfl rfl rfl rfl rfl rfl rfl rfl (by show (madeCells #[_] _).toList = _; rw [QW]; exact rfl) rfl fun rv => ?_; refine Km ?_; refine KI (L0 := [_, _]) (xs := Wk (wu s i)) (row := row) (n := i) (sz := 1) (b := 16) (news := [J4 sv]) (List.perm_append_comm (l₁ := [_, _])) rfl rfl rfl rfl (kn 0 rfl) rfl rfl rfl rfl rfl (by decide) rfl rfl rfl (by decide) hrow (by omega) (by omega) fun ra cap sp hra => ?_; refine KP (k := 2) (cs' := #[JE (i + 1) (some (ra, cap, sp))]) rfl rfl rfl rfl rfl rfl rfl rfl rfl rfl ?_; refine Jw 2 rfl ?_; refine KZ [2, 0] (L' := [_, _]) (by decide) rfl ?_; exact Ki (i + 1, some (ra, cap, sp)) ⟨by omega, rfl, by simp only; rw [hsn]; exact hra⟩ (by simp only; rw [hsn]; rfl)
 rintro D i ⟨i2, row⟩ hfi ⟨him, he, hrow⟩
 simp only at he hrow
 obtain rfl : N = i := Eq.symm hfi
 obtain rfl := he
 refine gqo 4 rfl ?_; refine LR rfl (Jd (v := JE N row) rfl (kn 1 rfl) rfl rfl) ?_; refine Jw 4 rfl ?_; refine Kw (k := 0) rfl rfl ?_; refine pT rfl rfl rfl fun w1 hs1 => ?_; exact ⟨⟨row, hrow⟩, rfl, hs1.weakL (.cons _ (.cons _ (List.sublist_append_left _ _)))⟩
 ·exact fun _ _ _ h => h.elim
theorem Jpo {n : Nat} (hn : n ≤ 4611686018427387904) : Pure Tryz.prog 220 [.int .i64 (n : Int)].toArray (.int .i64 (((n + 31) / 32 : Nat) : Int)) := by
 refine Jm Tryz.func220 rfl rfl fun w => ?_; refine JA ?_; refine Jq 9 rfl ?_; refine J3 (show _ = Value.int .i64 ((n + 32 : Nat) : Int) from by rw [wrap_i64 (by omega) (by omega)]; congr 1 <;> omega) ?_
 refine VQ rfl ?_; refine J3 (show _ = Value.int .i64 ((n + 31 : Nat) : Int) from by rw [wrap_i64 (by omega) (by omega)]; congr 1 <;> omega) ?_; refine VQ rfl (J3 (show _ = Value.int .i64 (((n + 31) / 32 : Nat) : Int) from congrArg (Value.int .i64) (QG (by omega) (by decide) (by omega))) (Jw 4 rfl ?_)); refine pT rfl rfl rfl fun w1 hs1 => ?_; exact ⟨rfl, hs1.keep⟩
def Xn (x : Ty) : Bool := decide (x.k = 1) || decide (x.k = 2)
def WL (items : List Vl) (x : Ty) : BS := (items.map fun v => Vn v x).flatten
def WM (k n : Int) (ins : List Ty) (items : List Vl) (rs : List BS) : BS :=
 if k = 7 then Vd rs ins.length else if Xn (ins.getD 0 default) = true then Vd (Yv (WL items (ins.getD 0 default))) ((n.toNat * (KX (ins.getD 0 default)).toNat + 31) / 32) else Vd rs n.toNat
mutual
def KS : Vl → Ty → BS
 | .mk a b c d bits _ items _ pick, t =>
  if t.k = 1 ∨ t.k = 2 then leW [a, b, c, d] 32 else if t.k = 4 then Ys (WM t.k t.n t.ins items (JY items t.k pick t.ins 0)) items.length
  else if t.k = 5 then Vd (Yv (WA bits)) ((t.n.toNat + 255) / 256) else if t.k = 6 then Ys (Vd (Yv (WA bits)) ((t.n.toNat + 255) / 256)) bits.length
  else if t.k = 8 then Ys ((JY items t.k pick t.ins 0).headD []) pick.toNat else WM t.k t.n t.ins items (JY items t.k pick t.ins 0)
def JY : List Vl → Int → Int → List Ty → Nat → List BS
 | [], _, _, _, _ => []
 | x :: xs, k, pick, ins, i => KS x (JR k pick ins i) :: JY xs k pick ins (i + 1)
end
section
variable {a b c d : Nat} {bits : List Bool} {pb : Pl} {items : List Vl} {pi : Pl} {pick k n : Int} {p : Pl} {ins : List Ty}
theorem Xo : KS (.mk a b c d bits pb items pi pick) (.mk k n p ins) = if k = 1 ∨ k = 2 then leW [a, b, c, d] 32 else if k = 4 then Ys (WM k n ins items (JY items k pick ins 0)) items.length
  else if k = 5 then Vd (Yv (WA bits)) ((n.toNat + 255) / 256) else if k = 6 then Ys (Vd (Yv (WA bits)) ((n.toNat + 255) / 256)) bits.length
  else if k = 8 then Ys ((JY items k pick ins 0).headD []) pick.toNat else WM k n ins items (JY items k pick ins 0) := by rw [KS]; rfl
end
theorem We : ∀ (l : List Vl) (k pick : Int) (ins : List Ty) (i : Nat), (JY l k pick ins i).length = l.length
 | [], _, _, _, _ => by rw [JY]; rfl
 | x :: xs, k, pick, ins, i => by rw [JY, List.length_cons, We xs, List.length_cons]
theorem wv {k : Int} (h8 : k ≠ 8) (pick : Int) (ins : List Ty) : ∀ (l : List Vl) (i : Nat), JY l k pick ins i = JY l k 0 ins i
 | [], i => by rw [JY, JY]
 | x :: xs, i => by rw [JY, JY, wv h8 pick ins xs (i + 1), vp h8]
theorem XZ : ∀ {l : List Vl} {k pick : Int} {ins : List Ty} {i : Nat} {s : BS}, s ∈ JY l k pick ins i → ∃ j x, l[j]? = some x ∧ s = KS x (JR k pick ins (i + j))
 | [], _, _, _, _, _, h => by rw [JY] at h; cases h
 | y :: ys, k, pick, ins, i, s, h => by
  rw [JY] at h
  rcases List.mem_cons.1 h with rfl | h
  ·exact ⟨0, y, rfl, rfl⟩
  ·obtain ⟨j, x, h1, h2⟩ := XZ h
   exact ⟨j + 1, x, h1, by rw [h2, show i + 1 + j = i + (j + 1) by omega]⟩
theorem ww (k : Int) (ins : List Ty) : ∀ {l : List Vl} {i j : Nat} {x : Vl}, l[j]? = some x → (JY l k 0 ins i).take (j + 1) = (JY l k 0 ins i).take j ++ [KS x (JR k 0 ins (i + j))]
 | [], _, _, _, h => by simp at h
 | y :: ys, i, 0, x, h => by
  simp at h; subst h; rw [JY]; rfl
 | y :: ys, i, j + 1, x, h => by
  rw [List.getElem?_cons_succ] at h; rw [JY, List.take_succ_cons, List.take_succ_cons, ww k ins h, show i + 1 + j = i + (j + 1) by omega]; rfl
theorem Jul {k n : Int} {p : Pl} {ins : List Ty} {d : Int} (hk : 1 ≤ k ∧ k ≤ 8) (ho : Qc k n ins.length = true) : chk (.mk k n p ins) d = if 6 ≤ d then 7 else XA ins (d + 1) := by
 rw [chk, if_neg (by omega), if_neg (by rw [ho]; simp)]
theorem zp : ∀ {ins : List Ty} {d : Int}, (∀ x ∈ ins, chk x d = 0) → XA ins d = 0
 | [], _, _ => by rw [XA]
 | x :: xs, d, h => by
  rw [XA, if_pos (h x List.mem_cons_self)]; exact zp fun y hy => h y (List.mem_cons_of_mem _ hy)
theorem Jld (t : Ty) : ∀ d : Int, chk t (d + 1) = 0 → chk t d = 0 := by
 induction t using Ty.ind with
 | h k n p ins ih =>
  intro d h
  obtain ⟨hk, ho, h6, hi⟩ := QZ h
  rw [Jul hk ho, if_neg (by omega)]; exact zp fun x hx => ih x hx (d + 1) (hi x hx)
theorem Jac {t : Ty} : ∀ {d : Nat}, chk t (d : Int) = 0 → chk t 0 = 0
 | 0, h => h
 | d + 1, h => Jac (d := d) (Jld t d (by rw [Int.natCast_add] at h; exact h))
theorem Zn {k n : Int} {p : Pl} {ins : List Ty} (h : chk (.mk k n p ins) 0 = 0) : ∀ x ∈ ins, chk x 0 = 0 := fun x hx => Jac (d := 1) ((QZ h).2.2.2 x hx)
theorem Zo {x : Ty} (hc : chk x 0 = 0) (hp : Xn x = true) : Vt x = true ∧ 1 ≤ KX x ∧ KX x ≤ 32 ∧ ∀ v : Vl, KK v x = 0 → ((Vn v x).length : Int) = KX x := by
 obtain ⟨k, n, p, ins⟩ := x
 obtain ⟨hk, hf, _, _⟩ := QZ hc
 have hk2 : k = 1 ∨ k = 2 := by
  unfold Xn at hp
  rw [Bool.or_eq_true] at hp; exact hp.imp of_decide_eq_true of_decide_eq_true
 unfold Qc at hf
 have hins : ins.length = 0 := by
  rcases hk2 with rfl | rfl
  all_goals generalize ins.length = m at hf ⊢
  all_goals simp at hf
  all_goals omega
 have hi : ins = [] := List.length_eq_zero_iff.1 hins
 subst hi
 rcases hk2 with rfl | rfl
 ·have hn : 1 ≤ n ∧ n ≤ 32 := by simp at hf; omega
  refine ⟨XW.2 ⟨hc, by rw [Xc, jU]; rfl⟩, by rw [KX, if_pos rfl]; exact hn.1, by rw [KX, if_pos rfl]; exact hn.2, fun v _ => ?_⟩
  obtain ⟨a, b, c, d, bits, pb, items, pi, pick⟩ := v
  rw [Wm, if_pos rfl, KX, if_pos rfl, xy _ (by omega)]; omega
 ·refine ⟨XW.2 ⟨hc, by rw [Xc, jU]; rfl⟩, by rw [KX, if_neg (by decide), if_pos rfl]; decide, by rw [KX, if_neg (by decide), if_pos rfl]; decide, fun v _ => ?_⟩
  obtain ⟨a, b, c, d, bits, pb, items, pi, pick⟩ := v
  rw [Wm, if_neg (by decide), if_pos rfl, KX, if_neg (by decide), if_pos rfl, xy _ (by decide)]
  rfl
theorem j7 {x : Ty} {z : Nat} : ∀ {items : List Vl}, (∀ v ∈ items, (Vn v x).length = z) → (WL items x).length = items.length * z
 | [], _ => by unfold WL; simp
 | v :: l, h => by
  have ih := j7 (items := l) fun y hy => h y (List.mem_cons_of_mem _ hy)
  unfold WL at ih ⊢
  rw [List.map_cons, List.flatten_cons, List.length_append, ih, h v List.mem_cons_self, List.length_cons, Nat.succ_mul, Nat.add_comm]
theorem wx {a b c d : Nat} {bits : List Bool} {pb : Pl} {items : List Vl} {pi : Pl} {pick k n dp : Int} {p : Pl} {ins : List Ty} (hc : chk (.mk k n p ins) dp = 0) (h : KK (.mk a b c d bits pb items pi pick) (.mk k n p ins) = 0) :
  (k = 3 ∨ k = 4 → 1 ≤ n ∧ n ≤ 512 ∧ (items.length : Int) ≤ n ∧ ins.length = 1) ∧ (k = 5 ∨ k = 6 → 1 ≤ n ∧ n ≤ 512 ∧ (bits.length : Int) ≤ n) ∧ (k = 7 → items.length = ins.length ∧ 1 ≤ ins.length ∧ ins.length ≤ 16) := by
 obtain ⟨h1, h2, _⟩ := WR h
 obtain ⟨hk, hf, _, _⟩ := QZ hc
 rw [Vp k n ins.length a b c d bits pb items pi pick _ rfl] at h2; simp only [Ve] at h2
 unfold Qc at hf
 have h9 : k = 1 ∨ k = 2 ∨ k = 3 ∨ k = 4 ∨ k = 5 ∨ k = 6 ∨ k = 7 ∨ k = 8 := by omega
 rcases h9 with rfl | rfl | rfl | rfl | rfl | rfl | rfl | rfl
 all_goals generalize items.length = I at *
 all_goals generalize bits.length = J at *
 all_goals generalize ins.length = K at *
 all_goals simp at h1 h2 hf ⊢
 all_goals omega
theorem qe {bits : List Bool} {n : Int} (h : (bits.length : Int) ≤ n) : (Yv (WA bits)).length ≤ (n.toNat + 255) / 256 := by
 rw [YN]
 unfold Jab
 rw [Za]; omega
theorem WS (v : Vl) : ∀ (t : Ty) (dp : Nat), chk t (dp : Int) = 0 → KK v t = 0 → (KS v t).length = 32 := by
 induction v using Vl.ind with
 | h a b c d bits pb items pi pick ih =>
 intro t dp hck hfit
 obtain ⟨k, n, p, ins⟩ := t
 obtain ⟨hk8, ho, h6, hci⟩ := QZ hck
 obtain ⟨hf1, hf2, hf3⟩ := WR hfit
 obtain ⟨q1, q2, q3⟩ := wx hck hfit
 have hxl : ∀ i, i < items.length → Xy k pick i < ins.length := fun i hi => qc (v := .mk a b c d bits pb items pi pick) hck hf2 hi
 have hrs : ∀ s ∈ JY items k pick ins 0, s.length = 32 := fun s hs => by
  obtain ⟨j, x, h1, rfl⟩ := XZ hs
  have hlt := (List.getElem?_eq_some_iff.1 h1).1
  rw [Nat.zero_add]
  have hty := QO (hxl j hlt)
  exact ih x (List.mem_of_getElem? h1) _ (dp + 1) (hci _ hty.2) (by have := Xl hf3 h1; rwa [Nat.zero_add] at this)
 have hrl := We items k pick ins 0
 have hrow : k = 3 ∨ k = 4 ∨ k = 7 → (WM k n ins items (JY items k pick ins 0)).length = 32 := fun hk => by
  unfold WM
  split
  ·rename_i h7
   exact V7 (by have := q3 h7; omega) hrs
  ·rename_i h7
   have := q1 (by omega)
   split
   ·rename_i hp
    have hin0 : ins.getD 0 default ∈ ins := by
     match ins, this.2.2.2 with
     | [x], _ => exact List.mem_cons_self
    have hc0 : chk (ins.getD 0 default) 0 = 0 := Zn (Jac hck) _ hin0
    obtain ⟨f1, f2, f3, f4⟩ := Zo hc0 hp
    refine V7 ?_ (Zm _); rw [YN]
    unfold Jab
    have hz : ∀ v ∈ items, (Vn v (ins.getD 0 default)).length = (KX (ins.getD 0 default)).toNat := fun v hv => by
     obtain ⟨j, hj⟩ := List.getElem?_of_mem hv
     have hg := Xl hf3 hj
     rw [Nat.zero_add] at hg
     have he : JR k pick ins j = ins.getD 0 default := by unfold JR Xy; rw [if_neg h7, if_neg (by omega)]
     rw [he] at hg
     have := f4 v hg
     omega
    rw [j7 hz]
    have hm : items.length * (KX (ins.getD 0 default)).toNat ≤ n.toNat * (KX (ins.getD 0 default)).toNat := Nat.mul_le_mul_right _ (by omega)
    omega
   ·exact V7 (by omega) hrs
 rw [Xo]
 split
 ·exact xy _ (Nat.le_refl _)
 ·split
  ·exact Zb _
  ·split
   ·rename_i h5
    exact V7 (qe (q2 (by omega)).2.2) (Zm _)
   ·split
    ·exact Zb _
    ·split
     ·exact Zb _
     ·exact hrow (by omega)
def yz (s : List UInt8) (head : Nat) : List Ty → Nat → Nat → Bool → Option (List Nat)
  | [], _, _, op => if op = false ∧ head ≠ s.length then none else some [s.length]
  | x :: xs, at_, last, op => if Vt x then yz s head xs (at_ + (KX x).toNat) last op else
      if (op = false ∧ leV ((s.drop at_).take 4) ≠ head) ∨ leV ((s.drop at_).take 4) < last ∨ s.length < leV ((s.drop at_).take 4) then none
      else (yz s head xs (at_ + 4) (leV ((s.drop at_).take 4)) true).map fun r => leV ((s.drop at_).take 4) :: r
mutual
def Zy : Vl → Vl
 | .mk a b c d bits _ items _ pick => .mk a b c d bits none (vq items) none pick
def vq : List Vl → List Vl
 | [] => []
 | x :: xs => Zy x :: vq xs
end
theorem WN : ∀ l : List Vl, vq l = l.map Zy
 | [] => by rw [vq]; rfl
 | x :: xs => by rw [vq, WN xs]; rfl
def v0L : Vl := .mk 0 0 0 0 [] none [] none 0
def KY (l : List Vl) (pick : Int) : Vl := .mk 0 0 0 0 [] none l none pick
def wy (k n : Int) (ins : List Ty) (s : List UInt8) : Nat × Int :=
 if k = 7 then (ins.length, 0) else if k = 3 then (n.toNat, 0) else if s = [] then (0, 0)
 else if Vt (JR k 0 ins 0) then (if s.length % (KX (JR k 0 ins 0)).toNat ≠ 0 then (0, 2) else if n < ((s.length / (KX (JR k 0 ins 0)).toNat : Nat) : Int) then (0, 5) else (s.length / (KX (JR k 0 ins 0)).toNat, 0))
 else if s.length < 4 ∨ leV (s.take 4) % 4 ≠ 0 ∨ leV (s.take 4) = 0 then (0, 2) else if n < ((leV (s.take 4) / 4 : Nat) : Int) then (0, 5) else (leV (s.take 4) / 4, 0)
abbrev Gf : Type := List UInt8 → Vl × Int
def g0 : Gf := fun _ => (v0L, 0)
section
variable {a b c d : Nat} {bits : List Bool} {pb : Pl} {items : List Vl} {pi : Pl} {pick k n : Int} {p : Pl} {ins : List Ty}
theorem Jit (hc : chk (.mk k n p ins) 0 = 0) (h : KK (.mk a b c d bits pb items pi pick) (.mk k n p ins) = 0) (h8 : k ≠ 8) {j : Nat} {x : Vl} (hx : items[j]? = some x) : ins[Xy k 0 j]? = some (JR k 0 ins j) ∧ JR k 0 ins j ∈ ins ∧ chk (JR k 0 ins j) 0 = 0 ∧ KK x (JR k 0 ins j) = 0 := by
 obtain ⟨_, h2, h3⟩ := WR h
 have hlt := (List.getElem?_eq_some_iff.1 hx).1
 have hin := qc (v := .mk a b c d bits pb items pi pick) hc h2 hlt
 have hg := Xl h3 hx
 rw [Nat.zero_add, vp h8] at hg
 have e : Xy k (Vl.pick (.mk a b c d bits pb items pi pick)) j = Xy k 0 j := by unfold Xy; rw [if_neg h8, if_neg h8]
 rw [e] at hin
 have hty := QO hin
 exact ⟨hty.1, hty.2, Zn hc _ hty.2, hg⟩
end
theorem W8 (a b c d : Nat) (bits : List Bool) (pb : Pl) (items : List Vl) (pi : Pl) (pick : Int) : Zy (.mk a b c d bits pb items pi pick) = .mk a b c d bits none (vq items) none pick := by rw [Zy]
theorem Jiu (k pick : Int) (ins : List Ty) : ∀ (l : List Vl), (∀ x ∈ l, ∀ t, Vn (Zy x) t = Vn x t) → ∀ i : Nat, Qg (vq l) k pick ins i = Qg l k pick ins i
 | [], _, i => by rw [vq]
 | x :: xs, h, i => by rw [vq, Qg, Qg, h x List.mem_cons_self, Jiu k pick ins xs (fun y hy => h y (List.mem_cons_of_mem _ hy))]
theorem Jxx (v : Vl) : ∀ t, Vn (Zy v) t = Vn v t := by
 induction v using Vl.ind with
 | h a b c d bits pb items pi pick ih =>
 intro t
 obtain ⟨k, n, p, ins⟩ := t
 rw [W8, Wm, Wm, Jiu k pick ins items ih]
theorem Jdp (k pick : Int) (ins : List Ty) : ∀ (l : List Vl), (∀ x ∈ l, ∀ t, KS (Zy x) t = KS x t) → ∀ i : Nat, JY (vq l) k pick ins i = JY l k pick ins i
 | [], _, i => by rw [vq]
 | x :: xs, h, i => by rw [vq, JY, JY, h x List.mem_cons_self, Jdp k pick ins xs (fun y hy => h y (List.mem_cons_of_mem _ hy))]
theorem Jum (x : Ty) (l : List Vl) : WL (vq l) x = WL l x := by
 unfold WL
 rw [WN, List.map_map]
 congr 1
 exact List.map_congr_left fun v _ => Jxx v x
theorem Jun (v : Vl) : ∀ t, KS (Zy v) t = KS v t := by
 induction v using Vl.ind with
 | h a b c d bits pb items pi pick ih =>
 intro t
 obtain ⟨k, n, p, ins⟩ := t
 have hl : (vq items).length = items.length := by rw [WN, List.length_map]
 rw [W8, Xo, Xo, Jdp k pick ins items ih, hl]
 unfold WM
 rw [Jum]
theorem chkL_mem : ∀ {ins : List Ty} {d : Int}, XA ins d = 0 → ∀ x ∈ ins, chk x d = 0
 | [], _, _, x, hx => by cases hx
 | y :: ys, d, h, x, hx => by
  rw [XA] at h
  by_cases h1 : chk y d = 0
  ·rw [if_pos h1] at h
   rcases List.mem_cons.1 hx with rfl | hx
   ·exact h1
   ·exact chkL_mem h x hx
  ·rw [if_neg h1] at h; exact absurd h h1
structure VR (v : Vl) : Type where
  x : Vl
  L : Ji
  ok : x.In L
  er : Zy x = v
theorem u0 : VM 0 := by unfold VM; omega
theorem i0 : qt 0 := by unfold qt; omega
def wz : List Ty → Nat → List Nat → List (Ty × Nat × Nat)
 | [], _, _ => []
 | x :: xs, a, os => if Vt x then (x, a, a + (KX x).toNat) :: wz xs (a + (KX x).toNat) os else (x, os.getD 0 0, os.getD 1 0) :: wz xs (a + 4) os.tail
theorem zq : ∀ (ts : List Ty) (a : Nat) (os : List Nat), (wz ts a os).length = ts.length
 | [], _, _ => rfl
 | x :: xs, a, os => by rw [wz]; split <;> rw [List.length_cons, zq xs, List.length_cons]
def cV : List Ty → Nat
 | [] => 0
 | x :: xs => if Vt x then cV xs else cV xs + 1
def Jpp : List Ty → Int
 | [] => -1
 | x :: xs => if 0 ≤ Jpp xs then Jpp xs + 1 else if Vt x then -1 else 0
def Jxy (k n : Int) (ins : List Ty) (s : BS) : List Nat × Int :=
 if (wy k n ins s).2 ≠ 0 then ([], (wy k n ins s).2)
 else if (s.length : Int) < Vf (Xk k ins (wy k n ins s).1) then ([], 2)
 else match yz s (Vf (Xk k ins (wy k n ins s).1)).toNat (Xk k ins (wy k n ins s).1) 0 (Vf (Xk k ins (wy k n ins s).1)).toNat false with
  | none => ([], 2)
  | some os => (os, 0)
theorem row_some {sz n : Nat} {xs : List Value} {row : QU} (h : rowOk sz n xs row) (h0 : 0 < n) : ∃ r cap sp, row = some (r, cap, sp) := by
 cases row with
 | none => have := h.1; omega
 | some q => obtain ⟨r, cap, sp⟩ := q; exact ⟨r, cap, sp, rfl⟩
def psI (s : BS) (TY : List Ty) (i : Nat) (pre : List Nat) : List (Ty × Nat × Nat) := wz (TY.take i) 0 (pre ++ [s.length])
structure PInv (s : BS) (H : Nat) (TY : List Ty) (i A la : Nat) (op : Int) (pre : List Nat) : Prop where
  le : i ≤ TY.length
  cv : pre.length = cV (TY.take i)
  opv : op = Jpp (TY.take i)
  at_ : (A : Int) = Vf (TY.take i)
  off : yz s H TY 0 H false = (yz s H (TY.drop i) A la (decide (0 ≤ op))).map (pre ++ ·)
section
variable {s : BS} {H : Nat} {TY : List Ty} {i A la : Nat} {op : Int} {pre : List Nat} {x : Ty}
theorem PInv.start : PInv s H TY 0 0 H (-1) [] := ⟨Nat.zero_le _, rfl, rfl, rfl, by rw [List.drop_zero, show decide ((0 : Int) ≤ -1) = false from rfl]; cases yz s H TY 0 H false <;> rfl⟩
theorem ZG {α : Type} {l : List α} {i : Nat} {x : α} (h : l[i]? = some x) : l.take (i + 1) = l.take i ++ [x] := by rw [List.take_add_one, h]; rfl
theorem Jf0 {α : Type} {l : List α} {i : Nat} {x : α} (h : l[i]? = some x) : l.drop i = x :: l.drop (i + 1) := by
 obtain ⟨h1, rfl⟩ := List.getElem?_eq_some_iff.1 h
 exact List.drop_eq_getElem_cons h1
theorem PInv.len (h : PInv s H TY i A la op pre) : (psI s TY i pre).length = i := by unfold psI; rw [zq, List.length_take, Nat.min_eq_left h.le]
theorem PInv.bad (h : PInv s H TY i A la op pre) (hx : TY[i]? = some x) (hf : Vt x = false) {v : Nat} (hv : v = leV ((s.drop A).take 4)) (hb : (¬ 0 ≤ op ∧ v ≠ H) ∨ v < la ∨ s.length < v) : yz s H TY 0 H false = none := by
 subst hv
 rw [h.off, Jf0 hx, yz, if_neg (by rw [hf]; decide), if_pos (by
  rcases hb with ⟨h1, h2⟩ | h1
  ·exact .inl ⟨by simp [h1], h2⟩
  ·exact .inr h1)]
 rfl
theorem PInv.done (h : PInv s H TY TY.length A la op pre) : psI s TY TY.length pre = wz TY 0 (pre ++ [s.length]) ∧ yz s H TY 0 H false = if ¬ 0 ≤ op ∧ H ≠ s.length then none else some (pre ++ [s.length]) := by
 refine ⟨by unfold psI; rw [List.take_length], ?_⟩; rw [h.off, List.drop_length, yz]
 by_cases hc : ¬ 0 ≤ op ∧ H ≠ s.length
 ·rw [if_pos hc, if_pos ⟨by simp [hc.1], hc.2⟩]; rfl
 ·rw [if_neg hc, if_neg (by rintro ⟨g1, g2⟩; exact hc ⟨by simpa using g1, g2⟩)]; rfl
end
abbrev psT (k n : Int) (ins : List Ty) (s : BS) : List (Ty × Nat × Nat) := wz (Xk k ins (wy k n ins s).1) 0 (Jxy k n ins s).1
open Go.Proofs (Enters enters_of)
section
variable {k n : Int} {p : Pl} {ins : List Ty} {s : BS}
variable (hnf : ¬ (Vt (.mk k n p ins) = true ∧ (s.length : Int) ≠ KX (.mk k n p ins)))
include hnf
end
theorem Jdq {vs : List Vl} {E Lr : Ji} {p : Pl} {pick : Int} (hl : vs.length ≤ 9223372036854775807) (hs : Seg Lr vs.length (Q3 vs) p) (hE : ∀ x ∈ vs, x.In E) (hp : qt pick) : Vl.In (Lr ++ E) (.mk 0 0 0 0 [] none vs p pick) :=
 .mk u0 u0 u0 u0 (by decide) rfl hl (hs.mono fun q hq => List.mem_append_left _ hq) hp fun x hx => (hE x hx).mono fun q hq => List.mem_append_right _ hq
theorem Jdr {c : Cx} {d : List Deferred} {l : Ks} {L L' : Ji} {X : XP} {K : Act → World → Prop} (hp : L.Perm L') (h : HQ c d l L' X K) : HQ c d l L X K := fun a w hf hs => h a w hf (hs.perm hp)
mutual
def Yx : Ty → Ty
 | .mk k n _ ins => .mk k n none (WO ins)
def WO : List Ty → List Ty
 | [] => []
 | x :: xs => Yx x :: WO xs
end
theorem wB : ∀ l : List Ty, WO l = l.map Yx
 | [] => by rw [WO]; rfl
 | x :: xs => by rw [WO, wB xs]; rfl
theorem wC (l : List Ty) : (WO l).length = l.length := by rw [wB, List.length_map]
structure TR (t : Ty) : Type where
  x : Ty
  L : Ji
  ok : x.In L
  er : Yx x = t
def byT : Ty := .mk 1 1 none []
def Xv (k n : Int) : Ty := .mk k n none [byT]
def Jad : Ty := .mk 7 0 none [Xv 3 32, Xv 3 32]
def acT : Ty := .mk 7 0 none [Xv 3 20, .mk 1 8 none [], .mk 1 32 none [], Xv 4 512, .mk 4 16 none [Jad]]
def qf : Ty := .mk 4 32 none [acT]
theorem Jpq {k n : Int} (hk : qt k) (hn : qt n) : PureT (α := Nat) Tryz.prog 101 [.int .i64 k, .int .i64 n].toArray (fun r => .agg #[.int .i64 k, .int .i64 n, .slice (some ⟨r, 0, none⟩) 1 1]) [] (fun r => [(r, .cells #[.int .i64 1, .int .i64 1, .slice none 0 0] 84 (0, 0))]) [] := by
 refine Ju Tryz.func101 rfl rfl fun w => ?_; refine JA ?_; refine Jq 2 rfl ?_; refine LN rfl fun r1 => ?_; refine JG 6 rfl ?_; refine LR rfl (Js (r := [_, _, _]) rfl rfl) ?_; refine JM (vs := [_]) (zs := [_, _, _]) (r := [_, _, _]) rfl rfl rfl rfl rfl rfl rfl rfl rfl (by rw [Kt]; exact rfl) rfl fun r2 => ?_; refine LR rfl (Js (r := [_, _, _]) rfl rfl) ?_
 refine LT 1 rfl rfl ?_; refine Jw 3 rfl ?_; refine Jg rfl rfl (.cons (Jy (vs := [_, _, _]) rfl (kn 1 rfl) rfl rfl) .nil) (fun w1 hs1 => ?_); exact ⟨r2, rfl, hs1.weakL ((List.cons_sublist_cons).2 (List.nil_sublist _))⟩
abbrev Jle (e : Nat) : Obj := .cells #[.int .i64 1, .int .i64 1, .slice none 0 0] e (0, 0)
def Jlf (k n : Int) (x : Nat) : Ty := .mk k n (some (⟨x, 0, none⟩, 1)) [byT]
def Jz6 (x y r : Nat) : Ty := .mk 7 0 (some (⟨r, 0, none⟩, 2)) [Jlf 3 32 x, Jlf 3 32 y]
def acX (x y x2 x3 r s a : Nat) : Ty := .mk 7 0 (some (⟨a, 0, none⟩, 5)) [Jlf 3 20 x2, .mk 1 8 none [], .mk 1 32 none [], Jlf 4 512 x3, .mk 4 16 (some (⟨s, 0, none⟩, 1)) [Jz6 x y r]]
def Jpr (x y x2 x3 r s a z : Nat) : Ty := .mk 4 32 (some (⟨z, 0, none⟩, 1)) [acX x y x2 x3 r s a]
theorem Jds {R : Ji} {k n : Int} {ins : List Ty} {r m e : Nat} {all : Array Value} (hk : qt k) (hn : qt n) (hm : (r, Obj.cells all e (0, 0)) ∈ R) (ha : all.toList = Jb3 ins) (hl : ins.length = m) (hl2 : m ≤ 100) (hi : ∀ x ∈ ins, x.In R) : Ty.In R (.mk k n (some (⟨r, 0, none⟩, m)) ins) :=
 .mk hk hn (by omega) ⟨Nat.le_of_eq hl, fun _ => ⟨rfl, all, e, (0, 0), hm, by rw [List.drop_zero, ha, List.take_length]⟩⟩ hi
theorem Jae {R : Ji} {k n : Int} (hk : qt k) (hn : qt n) : Ty.In R (.mk k n none []) := .mk hk hn (by decide) rfl (fun x hx => nomatch hx)
theorem vr {R : Ji} {k n : Int} {x e : Nat} (hk : qt k) (hn : qt n) (h : (x, Jle e) ∈ R) : (Jlf k n x).In R :=
 Jds hk hn h rfl rfl (by decide) fun y hy => by rw [List.mem_singleton.1 hy]; exact Jae (by unfold qt; omega) (by unfold qt; omega)
theorem Ya {n : Int} (h0 : 0 ≤ n) (h : n ≤ 1000) : qt n := by unfold qt; omega
theorem Jiv {R : Ji} {x y x2 x3 r s a z e : Nat} (h1 : (x, Jle e) ∈ R) (h2 : (y, Jle e) ∈ R) (h3 : (x2, Jle e) ∈ R) (h4 : (x3, Jle e) ∈ R) (h5 : (r, Obj.cells #[.int .i64 3, .int .i64 32, .slice (some ⟨x, 0, none⟩) 1 1, .int .i64 3, .int .i64 32, .slice (some ⟨y, 0, none⟩) 1 1] e (0, 0)) ∈ R)
  (h6 : (s, Obj.cells #[.int .i64 7, .int .i64 0, .slice (some ⟨r, 0, none⟩) 2 2] e (0, 0)) ∈ R)
  (h7 : (a, Obj.cells #[.int .i64 3, .int .i64 20, .slice (some ⟨x2, 0, none⟩) 1 1, .int .i64 1, .int .i64 8, .slice none 0 0, .int .i64 1, .int .i64 32, .slice none 0 0, .int .i64 4, .int .i64 512, .slice (some ⟨x3, 0, none⟩) 1 1, .int .i64 4, .int .i64 16, .slice (some ⟨s, 0, none⟩) 1 1] e (0, 0)) ∈ R)
  (h8 : (z, Obj.cells #[.int .i64 7, .int .i64 0, .slice (some ⟨a, 0, none⟩) 5 5] e (0, 0)) ∈ R) : (Jpr x y x2 x3 r s a z).In R := by
 refine Jds (Ya (by decide) (by decide)) (Ya (by decide) (by decide)) h8 rfl rfl (by decide) fun q hq => ?_; rw [List.mem_singleton.1 hq]; refine Jds (Ya (by decide) (by decide)) (Ya (by decide) (by decide)) h7 rfl rfl (by decide) fun q hq => ?_; simp only [List.mem_cons, List.not_mem_nil, or_false] at hq
 rcases hq with rfl | rfl | rfl | rfl | rfl
 ·exact vr (Ya (by decide) (by decide)) (Ya (by decide) (by decide)) h3
 ·exact Jae (Ya (by decide) (by decide)) (Ya (by decide) (by decide))
 ·exact Jae (Ya (by decide) (by decide)) (Ya (by decide) (by decide))
 ·exact vr (Ya (by decide) (by decide)) (Ya (by decide) (by decide)) h4
 ·refine Jds (Ya (by decide) (by decide)) (Ya (by decide) (by decide)) h6 rfl rfl (by decide) fun q hq => ?_
  rw [List.mem_singleton.1 hq]; refine Jds (Ya (by decide) (by decide)) (Ya (by decide) (by decide)) h5 rfl rfl (by decide) fun q hq => ?_; simp only [List.mem_cons, List.not_mem_nil, or_false] at hq
  rcases hq with rfl | rfl
  ·exact vr (Ya (by decide) (by decide)) (Ya (by decide) (by decide)) h1
  ·exact vr (Ya (by decide) (by decide)) (Ya (by decide) (by decide)) h2
theorem Jiw (x y x2 x3 r s a z : Nat) : Yx (Jpr x y x2 x3 r s a z) = qf := by
 simp only [Jpr, acX, Jz6, Jlf, byT, Yx, WO, qf, acT, Jad, Xv]
theorem Juo : PureT (α := TR qf) Tryz.prog 46 #[] (fun y => y.x.val) [] (fun y => y.L) [] := by
 refine Ju Tryz.func46 rfl rfl fun w => ?_; refine JA ?_; refine Jq 2 rfl ?_; refine LN rfl fun r1 => ?_; refine JG 4 rfl ?_; refine Kz rfl rfl rfl Jog (Jpq (by unfold qt; omega) (by unfold qt; omega)) oN fun x1 => ?_; refine LN rfl fun r2 => ?_
 refine LT 0 rfl rfl ?_; refine Xa 6 [0, 0] rfl rfl ?_; refine JM (vs := [_, _]) (zs := [_, _, _, _, _, _]) (r := [_, _, _, _, _, _]) rfl rfl rfl rfl rfl rfl rfl rfl rfl (by rw [Kt]; exact rfl) rfl fun r3 => ?_; refine LR rfl (Js (r := [_, _, _]) rfl rfl) ?_; refine LN rfl fun r4 => ?_
 refine LT 0 rfl rfl ?_; refine JK 3 rfl ?_
 refine JJ [(r4, .cells #[.int .i64 7, .int .i64 0, .slice (some ⟨r3, 0, none⟩) 2 2] 84 (0, 0))] [(0, .grow (Qj 0 (fun r => .agg #[.int .i64 3, .int .i64 20, .slice (some ⟨r, 0, none⟩) 1 1]) (fun r => [(r, .cells #[.int .i64 1, .int .i64 1, .slice none 0 0] 84 (0, 0))]))), (1, .pure), (2, .pure), (3, .grow (Qj 0 (fun r => .agg #[.int .i64 4, .int .i64 512, .slice (some ⟨r, 0, none⟩) 1 1]) (fun r => [(r, .cells #[.int .i64 1, .int .i64 1, .slice none 0 0] 84 (0, 0))]))), (4, .pure), (5, .grow (Vo (slV 1) (.cells #[.int .i64 7, .int .i64 0, .slice (some ⟨r3, 0, none⟩) 2 2] 84 (0, 0)))), (6, .pure), (7, .dep [9, 10, 11, 12, 15] (Jb6 5 84)), (8, .pure), (9, .grow (Vo jR (.cells #[.int .i64 0, .int .i64 0, .slice none 0 0] 84 (0, 0))))] 10 [1, 2, 4, 5, 6, 0, 3, 7, 8, 9] (by kernel_rfl) (by kernel_rfl) (by first | exact (fun _ h => absurd h List.not_mem_nil) | simp [SubS] | (intro p hp; simp [hp])) ?_; refine Jj (k := 1) rfl rfl rfl rfl rfl (fun _ hS => (Js (r := [_, _, _]) rfl rfl)) ?_; refine Jj (k := 2) rfl rfl rfl rfl rfl (fun _ hS => (Js (r := [_, _, _]) rfl rfl)) ?_; refine Jj (k := 4) rfl rfl rfl rfl rfl (fun _ hS => (Jo (vs := [_, _, _]) rfl (.inl (hS _ (Jr (n := 0) rfl))) rfl rfl rfl rfl)) ?_; refine Wl (k := 5) (n := 1) (sz := 3) (vs := [_]) (zs := [_, _, _]) (r := [.int .i64 7, .int .i64 0, .slice (some ⟨r3, 0, none⟩) 2 2]) rfl rfl rfl rfl rfl rfl rfl rfl rfl rfl rfl (by rw [Kt]; exact rfl) rfl fun s1 => ?_; refine Jj (k := 6) rfl rfl rfl rfl rfl (fun _ hS => (Js (r := [_, _, _]) rfl rfl)) ?_; refine Qd (k := 0) rfl rfl rfl rfl rfl Jog (Jpq (by unfold qt; omega) (by unfold qt; omega)) oN fun x2 => ?_; refine Qd (k := 3) rfl rfl rfl rfl rfl Jog (Jpq (by unfold qt; omega) (by unfold qt; omega)) oN fun x3 => ?_; refine Va (k := 7) (dv := [_, _, _, _, _]) (n := 5) (sz := 3) (vs := [_, _, _, _, _]) (zs := [_, _, _, _, _, _, _, _, _, _, _, _, _, _, _]) (r := [.int .i64 3, .int .i64 20, .slice (some ⟨x2, 0, none⟩) 1 1, .int .i64 1, .int .i64 8, .slice none 0 0, .int .i64 1, .int .i64 32, .slice none 0 0, .int .i64 4, .int .i64 512, .slice (some ⟨x3, 0, none⟩) 1 1, .int .i64 4, .int .i64 16, .slice (some ⟨s1, 0, none⟩) 1 1]) rfl rfl rfl rfl rfl rfl rfl rfl rfl rfl rfl rfl rfl (by rw [Kt]; exact rfl) rfl fun s2 => ?_; refine Jj (k := 8) rfl rfl rfl rfl rfl (fun _ hS => (Js (r := [_, _, _]) rfl rfl)) ?_; refine Vu (k := 9) (cs := #[_, _, _]) rfl rfl rfl rfl rfl rfl fun r5 => ?_; refine Km ?_
 refine LT 0 rfl rfl ?_; refine JG 4 rfl ?_; refine LR rfl (Jo (vs := [_, _, _]) rfl (kn 0 rfl) rfl rfl rfl rfl) ?_; refine JM (vs := [_]) (zs := [_, _, _]) (r := [_, _, _]) rfl rfl rfl rfl rfl rfl rfl rfl rfl (by rw [Kt]; exact rfl) rfl fun r6 => ?_; refine LR rfl (Js (r := [_, _, _]) rfl rfl) ?_
 refine LT 10 rfl rfl ?_; refine Jw 3 rfl ?_; refine Jg rfl rfl (.cons (Jy (vs := [_, _, _]) rfl (kn 10 rfl) rfl rfl) .nil) (fun w1 hs1 => ?_); exact ⟨⟨Jpr x1 x1 x2 x3 r3 s1 s2 r6, _, Jiv (e := 84) (by simp) (by simp) (by simp) (by simp) (by simp) (by simp) (by simp) (by simp), Jiw ..⟩, rfl, hs1⟩
def ZN (b : UInt8) : Vl := .mk b.toNat 0 0 0 [] none [] none 0
def yA (s : BS) : Vl := KY (s.map ZN) 0
theorem Jz7 (b : UInt8) : (ZN b).cells = [uV b.toNat, uV 0, uV 0, uV 0, .slice none 0 0, .slice none 0 0, .int .i64 0] := rfl
theorem Jwm (b : UInt8) : Vl.In [] (ZN b) := .mk (by have := XL b; unfold VM; omega) u0 u0 u0 (by decide) rfl (by decide) rfl i0 (fun x hx => nomatch hx)
theorem Jwn (s : BS) (p : Pl) : Zy (.mk 0 0 0 0 [] none (s.map ZN) p 0) = yA s := by
 rw [W8, WN, List.map_map, show (Zy ∘ ZN) = ZN from funext fun b => by show Zy (ZN b) = ZN b; unfold ZN; rw [W8, vq]]; rfl
theorem Jup {s : BS} {i : Nat} (h : i < s.length) : Q3 ((s.take i).map ZN) ++ [uV (s.getD i 0).toNat, uV 0, uV 0, uV 0, .slice none 0 0, .slice none 0 0, .int .i64 0] = Q3 ((s.take (i + 1)).map ZN) := by
 have h1 : s[i]? = some (s.getD i 0) := by rw [List.getD_eq_getElem?_getD, List.getElem?_eq_getElem h]; rfl
 rw [ZG h1, List.map_append]
 unfold Q3
 rw [List.flatMap_append]; simp [Jz7]
theorem Jaf {s : BS} (hl : s.length ≤ 100000) : PureT (α := VR (yA s)) Tryz.prog 102 [J4 s].toArray (fun y => y.x.val) [] (fun y => y.L) [] := by
 refine Ju Tryz.func102 rfl rfl fun w => ?_; refine JA ?_; refine Jq 2 rfl ?_; refine LN rfl fun r1 => ?_; refine JG 4 rfl ?_; refine LN rfl fun r2 => ?_; refine JG 6 rfl ?_; refine LR rfl (Qh rfl rfl) ?_; refine JK 4 rfl ?_; refine J0 (σ := Nat × QU) (fun q => q.1 ≤ s.length ∧ rowOk 7 q.1 (Q3 ((s.take q.1).map ZN)) q.2) (fun q => [(0, J4 s), (2, XG r1), (3, XG r2), (6, .int .i64 (s.length : Int)), (7, .int .i64 (q.1 : Int))]) (fun q => (r2, .cells #[.int .u64 0, .int .u64 0, .int .u64 0, .int .u64 0, .slice none 0 0, JE q.1 q.2, .int .i64 0] 89 (0, 0)) :: (r1, .cells #[.int .u64 0, .int .u64 0, .int .u64 0, .int .u64 0, .slice none 0 0, .slice none 0 0, .int .i64 0] 89 (0, 0)) :: JP 89 (Q3 ((s.take q.1).map ZN)) q.2) (fun _ _ _ => True) (fun q => s.length - q.1) (0, none) ⟨Nat.zero_le _, rfl, rfl⟩ (lK rfl) (List.Sublist.refl _) (fun _ _ h => h) ?_; rintro ⟨i, row⟩ ⟨hi1, hrow⟩; simp only at hi1 hrow; change HC _ _ [(0, J4 s), (2, XG r1), (3, XG r2), (6, .int .i64 (s.length : Int)), (7, .int .i64 (i : Int))] ((r2, .cells #[.int .u64 0, .int .u64 0, .int .u64 0, .int .u64 0, .slice none 0 0, JE i row, .int .i64 0] 89 (0, 0)) :: (r1, .cells #[.int .u64 0, .int .u64 0, .int .u64 0, .int .u64 0, .slice none 0 0, .slice none 0 0, .int .i64 0] 89 (0, 0)) :: JP 89 (Q3 ((s.take i).map ZN)) row) _ _ _; refine JN 6 rfl ?_; refine cD (fun g => ?_) fun g => ?_
 ·refine JN 10 rfl ?_
  refine JJ [(r2, .cells #[.int .u64 0, .int .u64 0, .int .u64 0, .int .u64 0, .slice none 0 0, JE i row, .int .i64 0] 89 (0, 0))] [(0, .pure), (1, .pure), (2, .pure), (3, .pure), (4, .pure), (5, .pure), (6, .pure), (7, .pure), (8, .grow (Vo (slV 1) (.cells #[uV (s.getD i 0).toNat, uV 0, uV 0, uV 0, .slice none 0 0, .slice none 0 0, .int .i64 0] 89 (0, 0))))] 9 [0, 1, 2, 3, 4, 5, 6, 7, 8] (by kernel_rfl) (by kernel_rfl) (by first | exact (fun _ h => absurd h List.not_mem_nil) | simp [SubS] | (intro p hp; simp [hp])) ?_
  refine Jj (k := 0) rfl rfl rfl rfl rfl (fun _ hS => (J9 rfl rfl rfl)) ?_; refine Jj (k := 1) rfl rfl rfl rfl rfl (fun _ hS => (Jd rfl (.inl (hS _ (Jr (n := 0) rfl))) rfl rfl)) ?_; refine Jj (k := 2) rfl rfl rfl rfl rfl (fun _ hS => (Jf rfl)) ?_; refine Jj (k := 3) rfl rfl rfl rfl rfl (fun _ hS => (Jf rfl)) ?_; refine Jj (k := 4) rfl rfl rfl rfl rfl (fun _ _ => yJ (j := i) rfl rfl rfl rfl (by omega) rfl) ?_; refine Jj (k := 5) rfl rfl rfl rfl rfl (fun _ _ => (Jv rfl rfl rfl)) ?_; refine VN (show _ = uV (s.getD i 0).toNat from congrArg (Value.int .u64) (wrap_u64 (by omega) (by have := XL (s.getD i 0); omega))) ?_; refine Qp (k := 6) rfl rfl rfl rfl rfl q8 (V8 _) ?_; refine Jj (k := 7) rfl rfl rfl rfl rfl (fun _ hS => (Js (r := [_, _, _, _, _, _, _]) rfl rfl)) ?_; refine Wl (k := 8) (n := 1) (sz := 7) (vs := [_]) (zs := [_, _, _, _, _, _, _]) (r := [uV (s.getD i 0).toNat, uV 0, uV 0, uV 0, .slice none 0 0, .slice none 0 0, .int .i64 0]) rfl rfl rfl rfl rfl rfl rfl rfl rfl rfl rfl (by rw [Kt]; exact rfl) rfl fun rb => ?_; refine Km ?_; refine KI (L0 := [_, _, _]) (xs := Q3 ((s.take i).map ZN)) (row := row) (n := i) (sz := 7) (b := 88) (news := [_, _, _, _, _, _, _]) (List.perm_append_comm (l₁ := [_, _, _])) rfl rfl rfl rfl (kn 0 rfl) rfl rfl rfl rfl rfl (by decide) rfl rfl rfl (by decide) hrow (by omega) (by omega) fun ra cap sp hra => ?_
  refine LS 1 [] rfl rfl ?_; refine KP (k := 2) (cs' := #[.int .u64 0, .int .u64 0, .int .u64 0, .int .u64 0, .slice none 0 0, JE (i + 1) (some (ra, cap, sp)), .int .i64 0]) rfl rfl rfl rfl rfl rfl rfl rfl rfl rfl ?_; refine JG 5 rfl ?_; refine J3 (show _ = Value.int .i64 ((i + 1 : Nat) : Int) from by rw [wrap_i64 (by omega) (by omega)]; congr 1 <;> omega) ?_; refine Jw 2 rfl ?_; refine Jx ?_; rw [Jup (by omega)] at hra ⊢; refine KZ [2, 3, 0] (L' := [_, _, _]) (by decide) rfl ?_; exact Jt (i + 1, some (ra, cap, sp)) ⟨by simp only; omega, hra⟩ (by simp only; omega) (lK rfl) (List.Sublist.refl _) (fun _ _ h => h)
 ·refine JN 6 rfl ?_
  have honeV : ([.int .u64 0, .int .u64 0, .int .u64 0, .int .u64 0, .slice none 0 0, JE i row, .int .i64 0] : List Value).all Q2 = true := by cases row <;> rfl
  refine Jq 1 rfl ?_; refine LR rfl (Jh (xs := [.int .u64 0, .int .u64 0, .int .u64 0, .int .u64 0, .slice none 0 0, JE i row, .int .i64 0]) (n := 7) rfl (kn 0 rfl) rfl rfl rfl) ?_; refine Jk (k := 1) (n := 7) (ys := [.int .u64 0, .int .u64 0, .int .u64 0, .int .u64 0, .slice none 0 0, JE i row, .int .i64 0]) rfl rfl rfl rfl rfl rfl rfl honeV rfl ?_; refine Jw 3 rfl ?_; refine Jg rfl rfl (.cons (Jy (vs := [_, _, _, _, _, _, _]) rfl (kn 1 rfl) rfl rfl) .nil) (fun w1 hs1 => ?_)
  have hiM : i = s.length := by omega
  rw [hiM, List.take_length] at hrow hs1
  have hrow2 : rowOk 7 (s.map ZN).length (Q3 (s.map ZN)) row := by rw [List.length_map]; exact hrow
  have hvr : JE i row = KL (s.map ZN).length (Vc row) := by rw [hiM, List.length_map]; exact (Xi _ _ (fun h => by rw [h] at hrow; exact hrow.1)).symm
  exact ⟨⟨.mk 0 0 0 0 [] none (s.map ZN) (Vc row) 0, JP 89 (Q3 (s.map ZN)) row ++ [], Jdq (by rw [List.length_map]; omega) (KF hrow2 (by decide)) (fun x hx => by obtain ⟨b, _, rfl⟩ := List.mem_map.1 hx; exact Jwm b) i0, Jwn s _⟩, congrArg (fun z => Ending.returned (Value.agg #[.int .u64 0, .int .u64 0, .int .u64 0, .int .u64 0, .slice none 0 0, z, .int .i64 0])) hvr, hs1.weakL (.cons _ (.cons _ (by simp only [List.append_nil]; exact List.Sublist.refl _)))⟩
abbrev VZ0 : Array Value := #[.int .u64 0, .int .u64 0, .int .u64 0, .int .u64 0, .slice none 0 0, .slice none 0 0, .int .i64 0]
section
variable {c : Cx} {l : Ks} {L E : Ji} {X : XP} {Q : Exit → Act → World → Prop} {d : List Deferred}
variable {ops : Array Oper} {rest : List Nat} {i k : Nat} {v : Value} {o : Oper} {tb : ZL} {S : Ji} {T : Ji → Act → Prop}
theorem Jps {α : Type} {T0 L0 Rl : Ji} {f : Operand} {args : Array Operand} {at_ : Array TypeId} {g : FuncId} {vs : List Value} {V : α → Value} {LL : α → Ji} {ty : TypeId} {ps : String} {af : Array Edge} {gd : Option (Nat × Bool)}
  (hp : E.Perm (T0 ++ L0)) (hk : WP ops.toList k = some ⟨some i, .call ⟨.value f, args, at_⟩, ty, ps, af, gd⟩) (hg : Kc l ops ⟨some i, .call ⟨.value f, args, at_⟩, ty, ps, af, gd⟩ = some true) (hi : Nat.ble (i + 1) c.n = true) (hA : tb k = .turn) (hca : Kk l f args = some (g, vs)) (eg : Enters c.P g)
  (hpt : PureT c.P g vs.toArray V T0 LL Rl) (hR : ∀ p ∈ Rl, known c L0 p.1 p.2) (hS : ∀ x, SubS S (LL x ++ L0)) (h : ∀ x, HB c d ((i, V x) :: l) (LL x ++ L0) X S ops tb rest T) : HB c d l E X S ops tb (k :: rest) T := fun a hf => by
 refine ⟨_, Q5 hk, ?_⟩; rw [hA]; refine .inl ⟨α, V, fun x => LL x ++ L0, ⟨JF hf hg, fun w hs => ?_⟩, fun x => ⟨hS x, h x _ (hf.put (Nat.le_of_ble_eq_true hi))⟩⟩
 have hs := hs.perm hp
 obtain ⟨hd1, _, hd3⟩ := List.pairwise_append.1 hs.distinct
 refine Wo hf hca eg ((hpt.run w (fun p hp => (hs.own p (List.mem_append_left _ hp)).2.2) (fun p hp => ?_) hd1 (fun p hp q hq => ?_)).mono fun _ _ ⟨x, he, hk, h1, h2⟩ => ⟨V x, he, x, rfl, hs.turnT hk h1 h2⟩)
 ·exact (hR p hp).elim (fun h => (hs.own _ (List.mem_append_right _ h)).2.2) hs.readR
 ·rcases hR p hp with h | h
  ·exact fun e => hd3 q hq _ h e.symm
  ·rintro e
   obtain ⟨h1, _, h3⟩ := hs.ext _ h
   have h3 := J7 h3
   rcases (hs.own q (List.mem_append_left _ hq)).1 with h4 | h4
   ·exact h1 (e ▸ h4)
   ·simp only at h3 e; omega
end
theorem Jz8 {n : Nat} {xs : List Value} (h : xs.length = n) : rowOk 1 n xs (some (0, n, [])) := ⟨by rw [h, Nat.mul_one], by simp⟩
theorem Jpt {R : Ji} {k n : Int} {p : Pl} {ins : List Ty} {items : List Vl} {pi : Pl} (ht : Ty.In R (.mk k n p ins)) (h8 : k ≠ 8) (hs : Seg R items.length (Q3 items) pi) (hl : items.length ≤ 600) (hx : ∀ i, i < items.length → Xy k 0 i < ins.length)
  (hb : ∀ (i : Nat) x, items[i]? = some x → PureR Tryz.prog 100 [(JR k 0 ins i).val, x.val].toArray (J4 (KS x (JR k 0 ins i))) R) :
  PureT (α := { row : QU // rowOk 1 items.length (Wk (JY items k 0 ins 0)) row }) Tryz.prog 169 [Ty.val (.mk k n p ins), KL items.length pi].toArray (fun x => JE items.length x.1) [] (fun x => JP 9 (Wk (JY items k 0 ins 0)) x.1) R := by
 cases ht with
 | @mk k n p ins hk hn hlt hst hit =>
 have hRL := We items k 0 ins 0
 obtain ⟨RS, hRS⟩ : ∃ x, x = JY items k 0 ins 0 := ⟨_, rfl⟩
 have htk := fun i x (h : items[i]? = some x) => ww k ins (i := 0) h
 simp only [← hRS, Nat.zero_add] at htk; rw [← hRS] at hRL ⊢; refine Ju Tryz.func169 rfl rfl fun w => ?_; refine JA ?_; refine Jq 2 rfl ?_; refine LN rfl fun r1 => ?_; refine JG 12 rfl ?_; refine LR rfl (J1 rfl hs rfl) ?_; refine JK 4 rfl ?_; refine J0 (σ := Nat × QU) (fun q => q.1 ≤ items.length ∧ rowOk 1 q.1 (Wk (RS.take q.1)) q.2) (fun q => [(2, XG r1), (5, JE q.1 q.2), (9, KL items.length pi), (10, .int .i64 (items.length : Int)), (11, .int .i64 (q.1 : Int))]) (fun q => W6 r1 (.mk k n p ins) :: JP 9 (Wk (RS.take q.1)) q.2) (fun _ _ _ => True) (fun q => items.length - q.1) (0, none) ⟨Nat.zero_le _, by rw [List.take_zero]; exact ⟨rfl, rfl⟩⟩ (lK rfl) (List.Sublist.refl _) (fun _ _ h => h) ?_; rintro ⟨i, row⟩ ⟨hi1, hrow⟩; simp only at hi1 hrow; change HC _ _ [(2, _), (5, JE i row), (9, _), (10, _), (11, .int .i64 (i : Int))] ((r1, _) :: JP _ (Wk (RS.take i)) row) _ _ _; refine JN 6 rfl ?_; refine cD (fun h7 => ?_) fun h7 => ?_
 ·refine JN 5 rfl ?_
  have hil : i < items.length := by omega
  have hix := X6 hil
  have hbi := hb i _ hix.1
  have hty := QO (hx i hil)
  have hi0 : 0 < ins.length := Nat.lt_of_le_of_lt (Nat.zero_le _) (hx i hil)
  have hy0 : ins[0]? = some (ins.getD 0 default) := by rw [List.getD_eq_getElem?_getD, List.getElem?_eq_getElem hi0]; rfl
  have htki := htk i _ hix.1
  obtain ⟨sv, hsv⟩ : ∃ x, x = KS (X5 items i) (JR k 0 ins i) := ⟨_, rfl⟩
  rw [← hsv] at hbi htki; refine Jq 2 rfl ?_
  refine LR rfl (Jp (j := i) rfl hs rfl rfl rfl (by first | rfl | omega) (by omega)) ?_; refine LR rfl (Wq oR rfl hs hix.1 rfl rfl) ?_; refine Qo (cs := #[.int .u64 0, .int .u64 0, .int .u64 0, .int .u64 0, .slice none 0 0, .slice none 0 0, .int .i64 0]) rfl rfl rfl rfl fun rv => ?_; refine QL rfl (Jk (k := 0) (n := 7) (ys := (X5 items i).cells) rfl rfl rfl rfl rfl (X5 items i).len rfl (X5 items i).one rfl (Xa 6 [1] rfl rfl ?_)); refine LR rfl (Jp (j := 0) rfl hst rfl rfl rfl rfl (by omega)) ?_; refine LR rfl (Qm oR rfl hst hy0 rfl rfl) ?_; refine Qo (cs := #[.int .i64 0, .int .i64 0, .slice none 0 0]) rfl rfl rfl rfl fun rt => ?_; refine Jk (k := 0) (n := 3) (ys := (ins.getD 0 default).cells) rfl rfl rfl rfl rfl (ins.getD 0 default).len rfl (ins.getD 0 default).one rfl ?_; refine Goc 10 [2] rfl rfl ?_; refine cD (fun g => ?_) fun g => ?_
  ·refine Xs 4 [2] rfl rfl ?_; refine LR rfl (Jp (j := Xy k 0 i) rfl hst rfl rfl rfl (by unfold Xy; rw [if_pos (by assumption)]) (hx i hil)) ?_; refine LR rfl (Qm oR rfl hst hty.1 rfl rfl) ?_; refine Jk (k := 0) (n := 3) (ys := (JR k 0 ins i).cells) rfl rfl rfl rfl rfl (JR k 0 ins i).len (by rw [List.size_toArray]; exact Ty.len _) (JR k 0 ins i).one rfl ?_; refine JK 2 rfl ?_
   (have h7 : k = 7 := by assumption
    skip)
   refine Jq 2 rfl ?_; refine LR rfl (Jh (xs := (JR k 0 ins i).cells) (n := 3) rfl (kn 0 rfl) rfl rfl (JR k 0 ins i).len) ?_; refine LR rfl (Jh (xs := (X5 items i).cells) (n := 7) rfl (kn 1 rfl) rfl rfl (X5 items i).len) ?_; refine Je rfl rfl rfl Jh0 hbi oR ?_; refine JM (vs := [_]) (zs := [_]) (r := [_]) rfl rfl rfl rfl rfl rfl rfl rfl rfl (by show (madeCells #[_] _).toList = _; rw [QW]; exact rfl) rfl fun r2 => ?_; refine KI (L0 := [_, _, _, _]) (xs := Wk (RS.take i)) (row := row) (n := i) (sz := 1) (b := 16) (news := [J4 sv]) (List.perm_append_comm (l₁ := [_, _, _, _])) rfl rfl rfl rfl (kn 0 rfl) rfl rfl rfl rfl rfl (by decide) rfl rfl rfl (by decide) hrow (by omega) (by omega) fun ra cap sp hra => ?_; refine JG 6 rfl ?_; refine J3 (show _ = Value.int .i64 ((i + 1 : Nat) : Int) from by rw [wrap_i64 (by omega) (by omega)]; congr 1 <;> omega) ?_; refine Jw 2 rfl ?_; refine Jx ?_; refine KZ [4, 0] (L' := [_, _]) (by decide) rfl ?_; exact Jt (i + 1, some (ra, cap, sp)) ⟨by simp only; omega, by simp only; rw [htki, YM]; exact hra⟩ (by simp only; omega) (lK rfl) (by simp only; rw [htki, YM]; exact List.Sublist.refl _) (fun _ _ h => h)
  ·refine JN 2 rfl ?_
   (have h7 : ¬ k = 7 := by assumption
    have e : ins.getD 0 default = JR k 0 ins i := by unfold JR Xy; rw [if_neg h7, if_neg h8]
    rw [e])
   refine Jq 2 rfl ?_; refine LR rfl (Jh (xs := (JR k 0 ins i).cells) (n := 3) rfl (kn 0 rfl) rfl rfl (JR k 0 ins i).len) ?_; refine LR rfl (Jh (xs := (X5 items i).cells) (n := 7) rfl (kn 1 rfl) rfl rfl (X5 items i).len) ?_; refine Je rfl rfl rfl Jh0 hbi oR ?_; refine JM (vs := [_]) (zs := [_]) (r := [_]) rfl rfl rfl rfl rfl rfl rfl rfl rfl (by show (madeCells #[_] _).toList = _; rw [QW]; exact rfl) rfl fun r3 => ?_; refine KI (L0 := [_, _, _, _]) (xs := Wk (RS.take i)) (row := row) (n := i) (sz := 1) (b := 16) (news := [J4 sv]) (List.perm_append_comm (l₁ := [_, _, _, _])) rfl rfl rfl rfl (kn 0 rfl) rfl rfl rfl rfl rfl (by decide) rfl rfl rfl (by decide) hrow (by omega) (by omega) fun ra cap sp hra => ?_; refine JG 6 rfl ?_; refine J3 (show _ = Value.int .i64 ((i + 1 : Nat) : Int) from by rw [wrap_i64 (by omega) (by omega)]; congr 1 <;> omega) ?_; refine Jw 2 rfl ?_; refine Jx ?_; refine KZ [4, 0] (L' := [_, _]) (by decide) rfl ?_; exact Jt (i + 1, some (ra, cap, sp)) ⟨by simp only; omega, by simp only; rw [htki, YM]; exact hra⟩ (by simp only; omega) (lK rfl) (by simp only; rw [htki, YM]; exact List.Sublist.refl _) (fun _ _ h => h)
 ·refine JN 6 rfl ?_
  obtain rfl : i = items.length := by omega
  rw [List.take_of_length_le (by omega)] at hrow ⊢; refine Ko 6 rfl ?_; refine pT rfl rfl rfl fun w1 hs1 => ?_; exact ⟨⟨row, hrow⟩, rfl, hs1.weakL (.cons _ (List.Sublist.refl _))⟩
abbrev j8 (l : List BS) : Type := { row : QU // rowOk 1 l.length (Wk l) row }
def Jix (l : List BS) : j8 l := ⟨some (0, l.length, []), Jz8 (by unfold Wk; rw [List.length_map])⟩
abbrev rV {l : List BS} (x : j8 l) : Value := KL l.length (Vc x.1)
abbrev rL {l : List BS} (x : j8 l) : Ji := JP 9 (Wk l) x.1
theorem Jz9 {l : List BS} (x : j8 l) : rV x = JE l.length x.1 := Xi _ _ fun h => by
 have h2 := x.2
 rw [h] at h2; exact h2.1
theorem Jpu (l : List BS) : (fun x : j8 l => rV x) = fun x => JE l.length x.1 := funext fun x => Jz9 x
theorem Jpv {s : BS} (hl : s.length ≤ 1000000) : PureT (α := j8 (Yv s)) Tryz.prog 218 [J4 s].toArray (fun x => rV x) [] (fun x => rL x) [] := by
 have h := Jz5 hl
 rw [← YN] at h; rw [Jpu]; exact h
theorem zr {R : Ji} {k n : Int} {p : Pl} {ins : List Ty} {items : List Vl} {pi : Pl} (ht : Ty.In R (.mk k n p ins)) (h8 : k ≠ 8) (hs : Seg R items.length (Q3 items) pi) (hl : items.length ≤ 600) (hx : ∀ i, i < items.length → Xy k 0 i < ins.length)
  (hb : ∀ (i : Nat) x, items[i]? = some x → PureR Tryz.prog 100 [(JR k 0 ins i).val, x.val].toArray (J4 (KS x (JR k 0 ins i))) R) :
  PureT (α := j8 (JY items k 0 ins 0)) Tryz.prog 169 [Ty.val (.mk k n p ins), KL items.length pi].toArray (fun x => rV x) [] (fun x => rL x) R := by
 have h := Jpt ht h8 hs hl hx hb
 rw [Jpu]
 have e := We items k 0 ins 0
 generalize JY items k 0 ins 0 = RS at h e ⊢
 rw [← e] at h; rw [← e]; exact h
theorem Jpw (t : Ty) : Pure Tryz.prog 215 [t.val].toArray (.bool (Xn t)) := by
 obtain ⟨k, n, p, ins⟩ := t
 refine Jm Tryz.func215 rfl rfl fun w => ?_; refine JA ?_; refine Jq 2 rfl ?_; refine LN rfl fun r1 => ?_; refine Xa 9 [0] rfl rfl ?_
 refine J8 6 rfl (fun gb => ?_) (fun gb => ?_) <;> (try simp only [ZZ] at gb) <;> first | (refine LR rfl (J9 rfl rfl rfl) ?_) | (refine LK rfl ?_)
 all_goals (
  refine LW 4 [0] rfl rfl (Jw 1 rfl (ZK 2 rfl ?_)); refine pT rfl rfl rfl fun w1 hs1 => ?_; refine ⟨?_, hs1.keep⟩
  simp_all [JB, Xn, Ty.k]
  all_goals first | done | rfl
  skip)
theorem Jx0 (n : Nat) : ((n + 7) / 8 + 31) / 32 = (n + 255) / 256 := by omega
theorem Jiy {R : Ji} {l : List Bool} {k : Int} {n : Nat} {p pb : Pl} {ins : List Ty} (hl : l.length ≤ n) (hn : n ≤ 512) (hs : Seg R l.length (jg l) pb) :
  PureR Tryz.prog 165 [Ty.val (.mk k (n : Int) p ins), KL l.length pb].toArray (J4 (Vd (Yv (WA l)) ((n + 255) / 256))) R := by
 obtain ⟨N, hN⟩ : ∃ N, N = (l.length + 7) / 8 := ⟨_, rfl⟩
 have hpB : WA l = KV l N l.length := by rw [hN]; rfl
 have hnb := qe (bits := l) (n := (n : Int)) (by omega)
 rw [Int.toNat_natCast] at hnb
 have hc32 := Zm (WA l)
 have hcut := Jpv (s := WA l) (by rw [Za]; omega)
 rw [hpB] at hnb hc32 hcut ⊢; refine Ja Tryz.func165 rfl rfl fun w => ?_; refine JA ?_; refine Jq 2 rfl ?_; refine LN rfl fun r1 => ?_; refine JG 6 rfl ?_; refine LR rfl (J1 rfl hs rfl) ?_
 refine VQ rfl ?_; refine J3 (show _ = Value.int .i64 ((l.length + 8 : Nat) : Int) from by rw [wrap_i64 (by omega) (by omega)]; congr 1 <;> omega) ?_
 refine VQ rfl ?_; refine J3 (show _ = Value.int .i64 ((l.length + 7 : Nat) : Int) from by rw [wrap_i64 (by omega) (by omega)]; congr 1 <;> omega) ?_; refine VQ rfl ?_; refine J3 (show _ = Value.int .i64 ((N : Nat) : Int) from congrArg (Value.int .i64) (by rw [QG (by omega) (by decide) (by omega), hN]; rfl)) ?_; refine WH (n := N) (b := 1) rfl rfl rfl rfl rfl rfl rfl rfl rfl (by omega) (by omega) fun rm => ?_; rw [show List.replicate N (Value.int .u8 0) = (KV l N 0).map bV from by rw [KV, List.map_replicate]; rfl]; refine JG 7 rfl ?_; refine LR rfl (J1 rfl hs rfl) ?_; refine JK 4 rfl ?_; refine J0 (σ := Nat) (fun i => i ≤ l.length) (fun i => [(2, XG r1), (5, .slice (some ⟨rm, 0, none⟩) N N), (14, KL l.length pb), (15, .int .i64 (l.length : Int)), (16, .int .i64 (i : Int))]) (fun i => [(rm, .cells ((KV l N i).map bV).toArray 5 (0, 0)), W6 r1 (.mk k (n : Int) p ins)]) (fun _ _ _ => True) (fun i => l.length - i) 0 (Nat.zero_le _) (lK rfl) (List.Sublist.refl _) (fun _ _ h => h) ?_; intro i hi1; change HC _ _ _ ((rm, _) :: (r1, _) :: []) _ _ _; refine JN 6 rfl ?_; refine cD (fun g => ?_) fun g => ?_
 ·refine JN 5 rfl ?_
  have hil : i < l.length := by omega
  have hi8 : i / 8 < N := by omega
  have hyb : l[i]? = some (l.getD i false) := by rw [List.getD_eq_getElem?_getD, List.getElem?_eq_getElem hil]; rfl
  refine Jq 2 rfl ?_
  refine LR rfl (Jp (j := i) rfl hs rfl rfl rfl (by first | rfl | omega) (by omega)) ?_; refine LR rfl (XM oR rfl hs hyb rfl) ?_; refine JK 9 rfl ?_; refine cD (fun g => ?_) fun g => ?_
  ·have hbt : l.getD i false = true := by assumption
   have hst1 : KV l N (i + 1) = (KV l N i).set (i / 8) (UInt8.ofNat (((KV l N i).getD (i / 8) 0).toNat ||| 2 ^ (i % 8))) := by rw [KV, if_pos hbt]
   obtain ⟨Y, hY⟩ : ∃ Y, Y = KV l N i := ⟨_, rfl⟩
   have hYl : Y.length = N := by rw [hY]; exact Vm l N i
   rw [← hY] at hst1 ⊢
   refine JJ [] [(0, .pure), (1, .pure), (2, .pure), (3, .pure), (5, .pure), (6, .pure), (7, .pure), (8, .pure), (9, .pure), (10, .turn)] 11 [0, 1, 2, 3, 4, 5, 6, 7, 8, 9, 10] (by kernel_rfl) (by kernel_rfl) (by first | exact (fun _ h => absurd h List.not_mem_nil) | simp [SubS] | (intro p hp; simp [hp])) ?_; refine Jj (k := 0) rfl rfl rfl rfl rfl (fun _ hS => (Jf rfl)) ?_; refine Jj (k := 1) rfl rfl rfl rfl rfl (fun _ hS => (Jf rfl)) ?_
   refine Jj (k := 2) rfl rfl rfl rfl rfl (fun _ _ => (Jv rfl rfl rfl)) ?_; refine VN (show _ = Value.int .i64 ((i / 8 : Nat) : Int) from congrArg (Value.int .i64) (by first | exact WI _ _ | exact QG (by omega) (by decide) (by omega) | (rw [wrap_i64 (by omega) (by omega)]; omega))) ?_; refine Jj (k := 3) rfl rfl rfl rfl rfl (fun _ _ => JI (j := (i / 8)) (m := 1) (off' := (i / 8)) rfl rfl rfl rfl (by omega) (by omega) (by omega)) ?_; refine Kv (k := 4) rfl rfl rfl rfl rfl (Jd rfl (kn 0 rfl) rfl (by rw [W0]; exact XX (by omega))) ?_; refine Jj (k := 5) rfl rfl rfl rfl rfl (fun _ hS => (Jf rfl)) ?_
   refine Jj (k := 6) rfl rfl rfl rfl rfl (fun _ _ => (Jv rfl rfl rfl)) ?_; refine VN (show _ = Value.int .i64 ((i % 8 : Nat) : Int) from congrArg (Value.int .i64) (by first | exact WI _ _ | exact QG (by omega) (by decide) (by omega) | (rw [wrap_i64 (by omega) (by omega)]; omega))) ?_; refine Jj (k := 7) rfl rfl rfl rfl rfl (fun _ _ => Jbp (n := i % 8) (b := ((2 ^ (i % 8) : Nat) : Int)) rfl rfl rfl (show _ ≤ 8 from by omega) (Jpg (by omega))) ?_; refine Jj (k := 8) rfl rfl rfl rfl rfl (fun _ _ => xt (op := .or) (m := (Y.getD (i / 8) 0).toNat) (n := 2 ^ (i % 8)) rfl rfl rfl (XL _) (Nat.pow_lt_pow_right (by decide) (by omega) : 2 ^ (i % 8) < 2 ^ 8) rfl) ?_; refine VN (Jir _ (by omega)) ?_; refine Jj (k := 9) rfl rfl rfl rfl rfl (fun _ _ => JI (j := (i / 8)) (m := 1) (off' := (i / 8)) rfl rfl rfl rfl (by omega) (by omega) (by omega)) ?_; refine XN (k := 10) (q := 0) (cs' := ((KV l N (i + 1)).map bV).toArray) rfl rfl rfl rfl rfl rfl rfl rfl (by simp; omega) (by rw [zn, hst1]) rfl (fun _ h => nomatch h) ?_; refine Km ?_; refine JG 5 rfl ?_; refine J3 (show _ = Value.int .i64 ((i + 1 : Nat) : Int) from by rw [wrap_i64 (by omega) (by omega)]; congr 1 <;> omega) ?_; refine Jw 2 rfl ?_; refine Jx ?_; exact Jt (i + 1) (by omega) (by omega) (lK rfl) (List.Sublist.refl _) (fun _ _ h => h)
  ·refine Jq 5 rfl ?_; refine J3 (show _ = Value.int .i64 ((i + 1 : Nat) : Int) from by rw [wrap_i64 (by omega) (by omega)]; congr 1 <;> omega) ?_; refine Jw 2 rfl ?_; refine Jx ?_
   (have hst0 : KV l N (i + 1) = KV l N i := by rw [KV, if_neg (by simp_all)]
    exact Jt (i + 1) (by omega) (by omega) (lK rfl) (by rw [hst0]; exact List.Sublist.refl _) (fun _ _ h => h))
 ·refine JN 6 rfl ?_
  obtain rfl : i = l.length := by omega
  refine JJ [] [(0, .pure), (2, .grow (Qj (Jix (Yv (KV l N l.length))) (fun x => rV x) (fun x => rL x))), (3, .pure), (5, .pure), (6, .pure), (7, .pure), (8, .pure), (10, .pure)] 11 [0, 1, 3, 4, 5, 6, 7, 2, 8, 9, 10] (by kernel_rfl) (by kernel_rfl) (by first | exact (fun _ h => absurd h List.not_mem_nil) | simp [SubS] | (intro p hp; simp [hp])) ?_; refine Jj (k := 0) rfl rfl rfl rfl rfl (fun _ hS => (Jf rfl)) ?_; refine Kv (k := 1) rfl rfl rfl rfl rfl (Q0 (b := KV l N l.length) (row := some (rm, N, [])) (e := 5) (show _ = some (JE (KV l N l.length).length _) from by rw [Vm]; rfl) ⟨by rw [List.length_map]; omega, by rw [Vm]; simp⟩ (fun p hp => .inl (by rw [List.mem_singleton.1 hp, List.append_nil]; exact List.mem_cons_self)) rfl rfl rfl) ?_
  refine Jj (k := 3) rfl rfl rfl rfl rfl (fun _ hS => (J9 rfl rfl rfl)) ?_; refine Kv (k := 4) rfl rfl rfl rfl rfl (Jd rfl (kn 1 rfl) rfl rfl) ?_
  refine Jj (k := 5) rfl rfl rfl rfl rfl (fun _ _ => (Jv rfl rfl rfl)) ?_; refine VN (show _ = Value.int .i64 ((n + 8 : Nat) : Int) from congrArg (Value.int .i64) (by first | exact WI _ _ | exact QG (by omega) (by decide) (by omega) | (rw [wrap_i64 (by omega) (by omega)]; omega))) ?_
  refine Jj (k := 6) rfl rfl rfl rfl rfl (fun _ _ => (Jv rfl rfl rfl)) ?_; refine VN (show _ = Value.int .i64 ((n + 7 : Nat) : Int) from congrArg (Value.int .i64) (by first | exact WI _ _ | exact QG (by omega) (by decide) (by omega) | (rw [wrap_i64 (by omega) (by omega)]; omega))) ?_
  refine Jj (k := 7) rfl rfl rfl rfl rfl (fun _ _ => (Jv rfl rfl rfl)) ?_; refine VN (show _ = Value.int .i64 (((n + 7) / 8 : Nat) : Int) from congrArg (Value.int .i64) (by first | exact WI _ _ | exact QG (by omega) (by decide) (by omega) | (rw [wrap_i64 (by omega) (by omega)]; omega))) ?_; refine Qd (k := 2) rfl rfl rfl rfl rfl (enters_of Tryz.func218 (by kernel_rfl) rfl) hcut oN fun x => ?_; refine Qp (k := 8) rfl rfl rfl rfl rfl (enters_of Tryz.func220 (by kernel_rfl) rfl) (Jpo (n := (n + 7) / 8) (by omega)) ?_; rw [Jx0]; refine KA (k := 9) rfl rfl rfl rfl rfl Jh4 (vn hnb (by omega) (KF x.2 (by decide)) hc32) (fun q hq => .inl (List.mem_append_left _ hq)) ?_; refine Jj (k := 10) rfl rfl rfl rfl rfl (fun _ hS => (J6 rfl)) ?_; refine Km ?_; refine Jw 3 rfl ?_; refine pT rfl rfl rfl fun w1 hs1 => ?_; exact ⟨rfl, hs1.keep⟩
section
variable {c : Cx} {l : Ks} {L E : Ji} {X : XP} {Q : Exit → Act → World → Prop} {d : List Deferred}
variable {ops : Array Oper} {rest : List Nat} {i k : Nat} {v : Value} {o : Oper} {tb : ZL} {S : Ji} {T : Ji → Act → Prop}
theorem Jlg {f : Operand} {args : Array Operand} {at_ : Array TypeId} {g : FuncId} {vs : List Value} {Rl : Ji} {ty : TypeId} {ps : String} {af : Array Edge} {gd : Option (Nat × Bool)}
  (hk : WP ops.toList k = some ⟨some i, .call ⟨.value f, args, at_⟩, ty, ps, af, gd⟩) (hg : Kc l ops ⟨some i, .call ⟨.value f, args, at_⟩, ty, ps, af, gd⟩ = some true) (hi : Nat.ble (i + 1) c.n = true) (hA : tb k = .pure) (hca : Kk l f args = some (g, vs)) (eg : Enters c.P g)
  (hp : PureR c.P g vs.toArray v Rl) (hR : ∀ p ∈ Rl, p ∈ S ∨ p ∈ c.R) (h : HB c d ((i, v) :: l) E X S ops tb rest T) : HB c d l E X S ops tb (k :: rest) T := fun a hf => by
 refine ⟨_, Q5 hk, ?_⟩; rw [hA]; exact ⟨v, .inl ⟨JF hf hg, fun E' hE' w hs => Wo hf hca eg ((hp.run w fun p hp => (hR p hp).elim (fun h => (hs.own _ (hE' p h)).2.2) hs.readR).mono fun _ _ ⟨he, hk⟩ => ⟨v, he, rfl, hk⟩)⟩, h _ (hf.put (Nat.le_of_ble_eq_true hi))⟩
end
theorem YO {k : Int} (h7 : k ≠ 7) (h8 : k ≠ 8) (x : Ty) (i : Nat) : JR k 0 [x] i = x := by unfold JR Xy; rw [if_neg h7, if_neg h8]; rfl
theorem Jlh {l : List Vl} {x : Ty} {i : Nat} {v : Vl} (h : l[i]? = some v) : WL (l.take (i + 1)) x = WL (l.take i) x ++ Vn v x := by
 unfold WL
 rw [List.take_add_one, h]
 simp
theorem Jiz {x : Ty} : ∀ {l : List Vl}, (∀ v ∈ l, (Vn v x).length ≤ 32) → (WL l x).length ≤ 32 * l.length
 | [], _ => by unfold WL; simp
 | v :: l, h => by
  have ih := Jiz (l := l) fun y hy => h y (List.mem_cons_of_mem _ hy)
  have h1 := h v List.mem_cons_self
  unfold WL at ih ⊢
  rw [List.map_cons, List.flatten_cons, List.length_append, List.length_cons]; omega
theorem wD {x : Ty} {v : Vl} (hc : chk x 0 = 0) (hp : Xn x = true) (hf : KK v x = 0) : Jt7 x v = (Vn v x, 0) ∧ (Vn v x).length ≤ 32 := by
 obtain ⟨f1, f2, f3, f4⟩ := Zo hc hp
 have h1 := f4 v hf
 have h2 : (Vn v x).length ≤ 32 := by omega
 have h3 : Vx x v = 0 := by unfold Vx; rw [if_pos hc]; exact hf
 unfold Jt7
 rw [if_neg (by rw [h3]; simp), if_neg (by omega)]; exact ⟨rfl, h2⟩
set_option maxHeartbeats 1000000 in
theorem Jx1 {R : Ji} {k : Int} {n : Nat} {p pi : Pl} {x0 : Ty} {items : List Vl} (ht : Ty.In R (.mk k (n : Int) p [x0])) (h7 : k ≠ 7) (h8 : k ≠ 8) (hc : chk x0 0 = 0) (hs : Seg R items.length (Q3 items) pi) (hl : items.length ≤ n) (hn : n ≤ 512)
  (hfit : ∀ v ∈ items, KK v x0 = 0) (hw : ∀ v ∈ items, Y1 v ≤ 20000) (hIn : ∀ v ∈ items, v.In R)
  (hb : ∀ (i : Nat) x, items[i]? = some x → PureR Tryz.prog 100 [x0.val, x.val].toArray (J4 (KS x x0)) R) :
  PureR Tryz.prog 161 [Ty.val (.mk k (n : Int) p [x0]), KL items.length pi].toArray (J4 (WM k (n : Int) [x0] items (JY items k 0 [x0] 0))) R := by
 have hro := zr ht h8 hs (by omega) (fun i _ => by unfold Xy; rw [if_neg h7, if_neg h8]; exact Nat.lt_succ_self 0) (fun i x hx => by rw [YO h7 h8]; exact hb i x hx)
 have hrl := We items k 0 [x0] 0
 have hr32 : ∀ s ∈ JY items k 0 [x0] 0, s.length = 32 := fun s hs => by
  obtain ⟨j, x, h1, rfl⟩ := XZ hs
  rw [YO h7 h8]; exact WS x x0 0 hc (hfit x (List.mem_of_getElem? h1))
 have hrt := fun (x : j8 (JY items k 0 [x0] 0)) => vn (m := n) (by omega) (by omega) (KF (e := 9) x.2 (by decide)) hr32
 have hM : WM k (n : Int) [x0] items (JY items k 0 [x0] 0) = if Xn x0 = true then Vd (Yv (WL items x0)) ((n * (KX x0).toNat + 31) / 32) else Vd (JY items k 0 [x0] 0) n := by
  unfold WM
  rw [if_neg h7]; rfl
 rw [hM]
 have hx0 := ht.sub x0 List.mem_cons_self
 have ht2 := ht
 cases ht with
 | @mk k n p ins hk hn2 hlt hst hit =>
 have hpl := Jpw x0
 refine Ja Tryz.func161 rfl rfl fun w => ?_; refine JA ?_; refine Jq 2 rfl ?_; refine LN rfl fun r1 => ?_; refine Xa 8 [0] rfl rfl ?_
 refine LR rfl (Jp (j := 0) rfl hst rfl rfl rfl (by first | rfl | omega) (Nat.lt_succ_self 0)) ?_; refine LR rfl (Qm oR rfl hst (show [x0][0]? = some x0 from rfl) rfl rfl) ?_; refine Jn rfl rfl rfl (enters_of Tryz.func215 (by kernel_rfl) rfl) hpl ?_; refine JK 3 rfl ?_; refine cD (fun g => ?_) fun g => ?_
 refine JN 1 rfl ?_
 refine JJ [] [(1, .pure), (2, .grow (Qj (Jix (JY items k 0 [x0] 0)) (fun x => rV x) (fun x => rL x))), (3, .pure), (6, .pure)] 7 [0, 1, 3, 4, 2, 5, 6] (by kernel_rfl) (by kernel_rfl) (by first | exact (fun _ h => absurd h List.not_mem_nil) | simp [SubS] | (intro p hp; simp [hp])) ?_; refine Kv (k := 0) rfl rfl rfl rfl rfl (Jh (xs := (Ty.mk k (n : Int) p [x0]).cells) (n := 3) rfl (kn 0 rfl) rfl rfl (Ty.mk k (n : Int) p [x0]).len) ?_; refine Jj (k := 1) rfl rfl rfl rfl rfl (fun _ hS => (Jf rfl)) ?_
 refine Jj (k := 3) rfl rfl rfl rfl rfl (fun _ hS => (J9 rfl rfl rfl)) ?_; refine Kv (k := 4) rfl rfl rfl rfl rfl (Jd rfl (kn 0 rfl) rfl rfl) ?_; refine Qd (k := 2) rfl rfl rfl rfl rfl (enters_of Tryz.func169 (by kernel_rfl) rfl) hro (fun q hq => .inr hq) fun x => ?_; refine KA (k := 5) rfl rfl rfl rfl rfl Jh4 (hrt x) (fun q hq => .inl (List.mem_append_left _ hq)) ?_; refine Jj (k := 6) rfl rfl rfl rfl rfl (fun _ hS => (J6 rfl)) ?_; refine Km ?_; refine Jw 4 rfl ?_; refine pT rfl rfl rfl fun w1 hs1 => ?_; refine ⟨?_, hs1.keep⟩; rw [if_neg (by rw [Bool.not_eq_true]; assumption)]; rfl
 ·refine JN 3 rfl ?_
  have hp : Xn x0 = true := by assumption
  obtain ⟨f1, f2, f3, f4⟩ := Zo hc hp
  obtain ⟨z, hz⟩ : ∃ z, z = (KX x0).toNat := ⟨_, rfl⟩
  have hSz := Jo2 hx0
  have hsz : yP x0 = (z : Int) := by unfold yP; rw [if_pos f1]; omega
  rw [hsz] at hSz
  have hnz : n * z ≤ 16384 := by
   have := Nat.mul_le_mul hn (show z ≤ 32 by omega)
   omega
  obtain ⟨C, hC⟩ : ∃ C, C = WL items x0 := ⟨_, rfl⟩
  have hCl : C.length = items.length * z := by rw [hC]; exact j7 fun v hv => by have := f4 v (hfit v hv); omega
  have hCn : C.length ≤ n * z := by rw [hCl]; exact Nat.mul_le_mul_right _ hl
  have hcn : (Yv C).length ≤ (n * z + 31) / 32 := by rw [YN]; unfold Jab; omega
  refine Jq 1 rfl ?_; refine LN rfl fun r2 => ?_; refine JG 6 rfl ?_; refine LR rfl (J1 rfl hs rfl) ?_; refine JK 4 rfl ?_; refine J0 (σ := Nat × QU × Bool) (fun q => q.1 ≤ items.length ∧ bOk (WL (items.take q.1) x0) q.2.1) (fun q => [(2, XG r1), (5, XG r2), (22, KL items.length pi), (23, .int .i64 (items.length : Int)), (24, .int .i64 (q.1 : Int))]) (fun q => W7 r2 (WL (items.take q.1) x0) q.2.1 q.2.2 ++ [W6 r1 (Ty.mk k (n : Int) p [x0])]) (fun _ _ _ => True) (fun q => items.length - q.1) (0, none, false) ⟨Nat.zero_le _, Jaa⟩ (lK rfl) (List.Sublist.refl _) (fun _ _ h => h) ?_; rintro ⟨i, row, own⟩ ⟨hi1, hb1⟩; simp only at hi1 hb1; change HC _ _ [(2, _), (5, _), (22, _), (23, _), (24, .int .i64 (i : Int))] (W7 r2 (WL (items.take i) x0) row own ++ [W6 r1 (Ty.mk k (n : Int) p [x0])]) _ _ _; refine JN 6 rfl ?_; refine cD (fun g => ?_) fun g => ?_
  ·refine JN 5 rfl ?_
   have hil : i < items.length := by omega
   have hix := X6 hil
   have hpr := wD hc hp (hfit _ hix.2)
   have hput := Jxw hx0 (hIn _ hix.2) (hw _ hix.2)
   rw [hpr.1] at hput
   have hsn := Jlh (x := x0) hix.1
   have hcl := Jiz (x := x0) (l := items.take i) fun v hv => (wD hc hp (hfit v (List.mem_of_mem_take hv))).2
   rw [List.length_take] at hcl
   have hp2 := hpr.2
   refine Jq 1 rfl ?_
   refine LR rfl (Jp (j := i) rfl hs rfl rfl rfl (by first | rfl | omega) (by omega)) ?_; refine LR rfl (Wq oR rfl hs hix.1 rfl rfl) ?_; refine Qo (cs := #[.int .u64 0, .int .u64 0, .int .u64 0, .int .u64 0, .slice none 0 0, .slice none 0 0, .int .i64 0]) rfl rfl rfl rfl fun rv => ?_; refine Jk (k := 0) (n := 7) (ys := (X5 items i).cells) rfl rfl rfl rfl rfl (X5 items i).len rfl (X5 items i).one rfl ?_; refine JK 3 rfl ?_; refine JD 11 (by kernel_rfl) (by kernel_rfl) ?_
   refine Jb rfl rfl rfl (J9 rfl rfl rfl) ?_; refine Jb rfl rfl rfl (Jd (v := KL 1 p) rfl (.inl (List.mem_cons_of_mem _ (List.mem_append_right _ List.mem_cons_self))) rfl rfl) ?_
   refine Jb rfl rfl rfl (Jp (j := 0) rfl hst rfl rfl rfl (by first | rfl | omega) (Nat.lt_succ_self 0)) ?_; refine Jb rfl rfl rfl (Qm oR rfl hst (show [x0][0]? = some x0 from rfl) rfl rfl) ?_; refine Jb rfl rfl rfl (Jh (xs := (X5 items i).cells) (n := 7) rfl (kn 0 rfl) rfl rfl (X5 items i).len) ?_; refine QM rfl rfl rfl (enters_of Tryz.func216 (by kernel_rfl) rfl) hput oR ?_; refine Jb rfl rfl rfl (Jf rfl) ?_; refine Jb rfl rfl rfl (JL rfl rfl) ?_; refine Jb rfl rfl rfl (JL rfl rfl) ?_; refine Jb rfl rfl rfl (J6 rfl) ?_; refine Jb rfl rfl rfl (J6 rfl) ?_; refine JS ?_; refine JG 4 rfl ?_; refine Qr (T := W7 r2 (WL (items.take i) x0) row own) (L0 := _ :: [W6 r1 (Ty.mk k (n : Int) p [x0])]) (Rl := []) List.perm_middle.symm rfl rfl rfl Jh7 (vo hb1 (s2 := Vn (X5 items i) x0) (by omega)) oN fun x => ?_
   obtain ⟨rowx, hbx⟩ := x
   refine JG 5 rfl ?_; refine J3 (show _ = Value.int .i64 ((i + 1 : Nat) : Int) from by rw [wrap_i64 (by omega) (by omega)]; congr 1 <;> omega) ?_; refine Jw 2 rfl ?_; refine Jx ?_; refine vk (L' := W7 r2 (WL (items.take (i + 1)) x0) rowx true ++ [W6 r1 (Ty.mk k (n : Int) p [x0])]) (by rw [hsn]; exact (List.Sublist.refl _).append (.cons _ (List.Sublist.refl _))) ?_; exact Jt (i + 1, rowx, true) ⟨by simp only; omega, by simp only; rw [hsn]; exact hbx⟩ (by simp only; omega) (lK rfl) (List.Sublist.refl _) (fun _ _ h => h)
  ·refine JN 6 rfl ?_
   obtain rfl : i = items.length := by omega
   rw [List.take_length, ← hC] at hb1; rw [List.take_length, ← hC]; refine JJ [W6 r1 (Ty.mk k (n : Int) p [x0])] [(0, .turn), (1, .grow (Qj (Jix (Yv C)) (fun x => rV x) (fun x => rL x))), (2, .pure), (3, .pure), (4, .pure), (5, .pure), (6, .pure), (7, .pure), (8, .pure), (9, .pure), (10, .pure)] 11 [2, 3, 4, 5, 6, 7, 0, 1, 8, 9, 10] (by kernel_rfl) (by kernel_rfl) (fun p hp => List.mem_append_right _ hp) ?_
   refine Jj (k := 2) rfl rfl rfl rfl rfl (fun _ hS => (J9 rfl rfl rfl)) ?_; refine Jj (k := 3) rfl rfl rfl rfl rfl (fun E' hS => Jd (v := .int .i64 (n : Int)) rfl (.inl (hS _ List.mem_cons_self)) rfl rfl) ?_
   refine Jj (k := 4) rfl rfl rfl rfl rfl (fun _ hS => (J9 rfl rfl rfl)) ?_; refine Jj (k := 5) rfl rfl rfl rfl rfl (fun E' hS => Jd (v := KL 1 p) rfl (.inl (hS _ List.mem_cons_self)) rfl rfl) ?_
   refine Jj (k := 6) rfl rfl rfl rfl rfl (fun E' hS => Jp (j := 0) rfl hst rfl rfl rfl (by first | rfl | omega) (Nat.lt_succ_self 0)) ?_; refine Jj (k := 7) rfl rfl rfl rfl rfl (fun E' hS => Qm oR rfl hst (show [x0][0]? = some x0 from rfl) rfl rfl) ?_; refine Jps (k := 0) (T0 := W7 r2 C row own) (L0 := [W6 r1 (Ty.mk k (n : Int) p [x0])]) (Rl := []) (List.Perm.refl _) rfl rfl rfl rfl rfl Jom (Jfx hb1 (by omega)) oN (fun _ p hp => hp) fun u => ?_; refine Qd (k := 1) rfl rfl rfl rfl rfl (enters_of Tryz.func218 (by kernel_rfl) rfl) (Jpv (s := C) (by omega)) oN fun x => ?_; refine Jlg (k := 8) rfl rfl rfl rfl rfl (enters_of Tryz.func221 (by kernel_rfl) rfl) hSz (fun q hq => .inr hq) ?_; refine Jj (k := 9) rfl rfl rfl rfl rfl (fun _ _ => (Jv rfl rfl rfl)) ?_; refine VN (show _ = Value.int .i64 ((n * z : Nat) : Int) from congrArg (Value.int .i64) (by rw [← Int.natCast_mul]; exact wrap_i64 (by omega) (by omega))) ?_; refine Qp (k := 10) rfl rfl rfl rfl rfl (enters_of Tryz.func220 (by kernel_rfl) rfl) (Jpo (n := n * z) (by omega)) ?_; refine Km ?_; refine Je rfl rfl rfl Jh4 (vn hcn (by omega) (KF x.2 (by decide)) (Zm _)) (fun q hq => .inl (List.mem_append_left _ hq)) ?_; refine Jw 4 rfl ?_; refine pT rfl rfl rfl fun w1 hs1 => ?_; refine ⟨?_, hs1.keep⟩; rw [if_pos hp]; (try rw [← hz]); (try rw [← hC]); rfl
section
variable {R : Ji} {k n : Int} {p : Pl} {ins : List Ty} {a b c d : Nat} {bits : List Bool} {pb : Pl} {items : List Vl} {pi : Pl} {pick : Int} {s : BS}
theorem J1q (h : PureR Tryz.prog 161 [Ty.val (.mk k n p ins), KL items.length pi].toArray (J4 s) R) : PureR Tryz.prog 160 [Ty.val (.mk k n p ins), Vl.val (.mk a b c d bits pb items pi pick)].toArray (J4 s) R := by
 refine Ja Tryz.func160 rfl rfl fun w => ?_; refine JA ?_; refine Jq 2 rfl ?_; refine LN rfl fun r1 => ?_; refine LN rfl fun r2 => ?_; refine JG 5 rfl ?_; refine LR rfl (Jh (xs := (Ty.mk k n p ins).cells) (n := 3) rfl (kn 1 rfl) rfl rfl (Ty.mk k n p ins).len) ?_
 refine LS 2 [0] rfl rfl ?_; refine Je rfl rfl rfl (enters_of Tryz.func161 (by kernel_rfl) rfl) h oR ?_; refine Jw 4 rfl ?_; refine pT rfl rfl rfl fun w1 hs1 => ?_; exact ⟨rfl, hs1.keep⟩
theorem J1r (hs : Seg R items.length (Q3 items) pi) (h32 : s.length = 32) (hl : items.length ≤ 512) (h : PureR Tryz.prog 161 [Ty.val (.mk k n p ins), KL items.length pi].toArray (J4 s) R) : PureR Tryz.prog 162 [Ty.val (.mk k n p ins), Vl.val (.mk a b c d bits pb items pi pick)].toArray (J4 (Ys s items.length)) R := by
 refine Ja Tryz.func162 rfl rfl fun w => ?_; refine JA ?_; refine Jq 2 rfl ?_; refine LN rfl fun r1 => ?_; refine LN rfl fun r2 => ?_; refine JK 4 rfl ?_
 refine JJ [] [(1, .pure), (4, .pure), (6, .pure), (7, .pure), (8, .pure)] 9 [0, 1, 2, 4, 5, 6, 3, 7, 8] (by kernel_rfl) (by kernel_rfl) (by first | exact (fun _ h => absurd h List.not_mem_nil) | simp [SubS] | (intro p hp; simp [hp])) ?_; refine Kv (k := 0) rfl rfl rfl rfl rfl (Jh (xs := (Ty.mk k n p ins).cells) (n := 3) rfl (kn 1 rfl) rfl rfl (Ty.mk k n p ins).len) ?_
 refine Jj (k := 1) rfl rfl rfl rfl rfl (fun _ hS => (J9 rfl rfl rfl)) ?_; refine Kv (k := 2) rfl rfl rfl rfl rfl (Jd rfl (kn 0 rfl) rfl rfl) ?_
 refine Jj (k := 4) rfl rfl rfl rfl rfl (fun _ hS => (J9 rfl rfl rfl)) ?_; refine Kv (k := 5) rfl rfl rfl rfl rfl (Jd rfl (kn 0 rfl) rfl rfl) ?_; refine Jj (k := 6) rfl rfl rfl rfl rfl (fun _ hS => (J1 rfl hs rfl)) ?_; refine KA (k := 3) rfl rfl rfl rfl rfl (enters_of Tryz.func161 (by kernel_rfl) rfl) h oR ?_; refine Qp (k := 7) rfl rfl rfl rfl rfl Jok (Jpd (by omega) (by omega)) ?_; refine Jj (k := 8) rfl rfl rfl rfl rfl (fun _ hS => (J6 rfl)) ?_; refine Km ?_; refine Jw 3 rfl ?_; refine pT rfl rfl rfl fun w1 hs1 => ?_; exact ⟨rfl, hs1.keep⟩
theorem J1s (h : PureR Tryz.prog 165 [Ty.val (.mk k n p ins), KL bits.length pb].toArray (J4 s) R) : PureR Tryz.prog 164 [Ty.val (.mk k n p ins), Vl.val (.mk a b c d bits pb items pi pick)].toArray (J4 s) R := by
 refine Ja Tryz.func164 rfl rfl fun w => ?_; refine JA ?_; refine Jq 2 rfl ?_; refine LN rfl fun r1 => ?_; refine LN rfl fun r2 => ?_; refine JG 5 rfl ?_; refine LR rfl (Jh (xs := (Ty.mk k n p ins).cells) (n := 3) rfl (kn 1 rfl) rfl rfl (Ty.mk k n p ins).len) ?_
 refine LS 2 [0] rfl rfl ?_; refine Je rfl rfl rfl (enters_of Tryz.func165 (by kernel_rfl) rfl) h oR ?_; refine Jw 4 rfl ?_; refine pT rfl rfl rfl fun w1 hs1 => ?_; exact ⟨rfl, hs1.keep⟩
theorem J1t (hs : Seg R bits.length (jg bits) pb) (h32 : s.length = 32) (hl : bits.length ≤ 512) (h : PureR Tryz.prog 165 [Ty.val (.mk k n p ins), KL bits.length pb].toArray (J4 s) R) : PureR Tryz.prog 166 [Ty.val (.mk k n p ins), Vl.val (.mk a b c d bits pb items pi pick)].toArray (J4 (Ys s bits.length)) R := by
 refine Ja Tryz.func166 rfl rfl fun w => ?_; refine JA ?_; refine Jq 2 rfl ?_; refine LN rfl fun r1 => ?_; refine LN rfl fun r2 => ?_; refine JK 4 rfl ?_
 refine JJ [] [(1, .pure), (4, .pure), (6, .pure), (7, .pure), (8, .pure)] 9 [0, 1, 2, 4, 5, 6, 3, 7, 8] (by kernel_rfl) (by kernel_rfl) (by first | exact (fun _ h => absurd h List.not_mem_nil) | simp [SubS] | (intro p hp; simp [hp])) ?_; refine Kv (k := 0) rfl rfl rfl rfl rfl (Jh (xs := (Ty.mk k n p ins).cells) (n := 3) rfl (kn 1 rfl) rfl rfl (Ty.mk k n p ins).len) ?_
 refine Jj (k := 1) rfl rfl rfl rfl rfl (fun _ hS => (J9 rfl rfl rfl)) ?_; refine Kv (k := 2) rfl rfl rfl rfl rfl (Jd rfl (kn 0 rfl) rfl rfl) ?_
 refine Jj (k := 4) rfl rfl rfl rfl rfl (fun _ hS => (J9 rfl rfl rfl)) ?_; refine Kv (k := 5) rfl rfl rfl rfl rfl (Jd rfl (kn 0 rfl) rfl rfl) ?_; refine Jj (k := 6) rfl rfl rfl rfl rfl (fun _ hS => (J1 rfl hs rfl)) ?_; refine KA (k := 3) rfl rfl rfl rfl rfl (enters_of Tryz.func165 (by kernel_rfl) rfl) h oR ?_; refine Qp (k := 7) rfl rfl rfl rfl rfl Jok (Jpd (by omega) (by omega)) ?_; refine Jj (k := 8) rfl rfl rfl rfl rfl (fun _ hS => (J6 rfl)) ?_; refine Km ?_; refine Jw 3 rfl ?_; refine pT rfl rfl rfl fun w1 hs1 => ?_; exact ⟨rfl, hs1.keep⟩
theorem J1u {l : List BS} (hst : Seg R ins.length (Jb3 ins) p) (hl : l.length ≤ ins.length) (hn : ins.length ≤ 16) (h32 : ∀ s ∈ l, s.length = 32) (h : PureT (α := j8 l) Tryz.prog 169 [Ty.val (.mk k n p ins), KL items.length pi].toArray (fun x => rV x) [] (fun x => rL x) R) :
  PureR Tryz.prog 167 [Ty.val (.mk k n p ins), Vl.val (.mk a b c d bits pb items pi pick)].toArray (J4 (Vd l ins.length)) R := by
 refine Ja Tryz.func167 rfl rfl fun w => ?_; refine JA ?_; refine Jq 2 rfl ?_; refine LN rfl fun r1 => ?_; refine LN rfl fun r2 => ?_; refine JK 4 rfl ?_
 refine JJ [] [(1, .pure), (3, .grow (Qj (Jix l) (fun x => rV x) (fun x => rL x))), (4, .pure), (6, .pure), (8, .pure)] 9 [0, 1, 2, 4, 5, 6, 3, 7, 8] (by kernel_rfl) (by kernel_rfl) (by first | exact (fun _ h => absurd h List.not_mem_nil) | simp [SubS] | (intro p hp; simp [hp])) ?_; refine Kv (k := 0) rfl rfl rfl rfl rfl (Jh (xs := (Ty.mk k n p ins).cells) (n := 3) rfl (kn 1 rfl) rfl rfl (Ty.mk k n p ins).len) ?_
 refine Jj (k := 1) rfl rfl rfl rfl rfl (fun _ hS => (J9 rfl rfl rfl)) ?_; refine Kv (k := 2) rfl rfl rfl rfl rfl (Jd rfl (kn 0 rfl) rfl rfl) ?_
 refine Jj (k := 4) rfl rfl rfl rfl rfl (fun _ hS => (J9 rfl rfl rfl)) ?_; refine Kv (k := 5) rfl rfl rfl rfl rfl (Jd rfl (kn 1 rfl) rfl rfl) ?_; refine Jj (k := 6) rfl rfl rfl rfl rfl (fun _ hS => (J1 rfl hst rfl)) ?_; refine Qd (k := 3) rfl rfl rfl rfl rfl (enters_of Tryz.func169 (by kernel_rfl) rfl) h (fun q hq => .inr hq) fun x => ?_; refine KA (k := 7) rfl rfl rfl rfl rfl Jh4 (vn hl (by omega) (KF x.2 (by decide)) h32) (fun q hq => .inl (List.mem_append_left _ hq)) ?_; refine Jj (k := 8) rfl rfl rfl rfl rfl (fun _ hS => (J6 rfl)) ?_; refine Km ?_; refine Jw 3 rfl ?_; refine pT rfl rfl rfl fun w1 hs1 => ?_; exact ⟨rfl, hs1.keep⟩
theorem J1v {m : Nat} {y : Ty} {x : Vl} (hst : Seg R ins.length (Jb3 ins) p) (hs : Seg R items.length (Q3 items) pi) (hm : m ≤ 8) (hy : ins[m]? = some y) (hx : items[0]? = some x) (h32 : s.length = 32) (h : PureR Tryz.prog 100 [y.val, x.val].toArray (J4 s) R) :
  PureR Tryz.prog 170 [Ty.val (.mk k n p ins), Vl.val (.mk a b c d bits pb items pi (m : Int))].toArray (J4 (Ys s m)) R := by
 have hm1 := (List.getElem?_eq_some_iff.1 hy).1
 have hm2 := (List.getElem?_eq_some_iff.1 hx).1
 refine Ja Tryz.func170 rfl rfl fun w => ?_; refine JA ?_; refine Jq 2 rfl ?_; refine LN rfl fun r1 => ?_; refine LN rfl fun r2 => ?_; refine JK 4 rfl ?_
 refine JJ [] [(0, .pure), (2, .pure), (4, .pure), (6, .pure), (8, .pure), (11, .pure), (13, .pure), (14, .pure)] 15 [0, 1, 2, 3, 4, 5, 6, 7, 8, 9, 11, 12, 10, 13, 14] (by kernel_rfl) (by kernel_rfl) (by first | exact (fun _ h => absurd h List.not_mem_nil) | simp [SubS] | (intro p hp; simp [hp])) ?_
 refine Jj (k := 0) rfl rfl rfl rfl rfl (fun _ hS => (J9 rfl rfl rfl)) ?_; refine Kv (k := 1) rfl rfl rfl rfl rfl (Jd rfl (kn 1 rfl) rfl rfl) ?_
 refine Jj (k := 2) rfl rfl rfl rfl rfl (fun _ hS => (J9 rfl rfl rfl)) ?_; refine Kv (k := 3) rfl rfl rfl rfl rfl (Jd rfl (kn 0 rfl) rfl rfl) ?_; refine Jj (k := 4) rfl rfl rfl rfl rfl (fun E' hS => Jp (j := m) rfl hst rfl rfl rfl rfl hm1) ?_; refine Kv (k := 5) rfl rfl rfl rfl rfl (Qm oR rfl hst hy rfl rfl) ?_
 refine Jj (k := 6) rfl rfl rfl rfl rfl (fun _ hS => (J9 rfl rfl rfl)) ?_; refine Kv (k := 7) rfl rfl rfl rfl rfl (Jd rfl (kn 0 rfl) rfl rfl) ?_
 refine Jj (k := 8) rfl rfl rfl rfl rfl (fun E' hS => Jp (j := 0) rfl hs rfl rfl rfl (by first | rfl | omega) hm2) ?_; refine Kv (k := 9) rfl rfl rfl rfl rfl (Wq oR rfl hs hx rfl rfl) ?_
 refine Jj (k := 11) rfl rfl rfl rfl rfl (fun _ hS => (J9 rfl rfl rfl)) ?_; refine Kv (k := 12) rfl rfl rfl rfl rfl (Jd rfl (kn 0 rfl) rfl rfl) ?_; refine KA (k := 10) rfl rfl rfl rfl rfl Jh0 h oR ?_; refine Qp (k := 13) rfl rfl rfl rfl rfl Jok (Jpd (by omega) (by omega)) ?_; refine Jj (k := 14) rfl rfl rfl rfl rfl (fun _ hS => (J6 rfl)) ?_; refine Km ?_; refine Jw 3 rfl ?_; refine pT rfl rfl rfl fun w1 hs1 => ?_; exact ⟨rfl, hs1.keep⟩
theorem X7 {g : FuncId} (hlk : Ku Y0 (.int .i64 k) (rootM.toList.map QX) = some (.func (.func g) #[] #[])) (eg : Enters Tryz.prog g) (hg : PureR Tryz.prog g [Ty.val (.mk k n p ins), Vl.val (.mk a b c d bits pb items pi pick)].toArray (J4 s) R) :
  PureR Tryz.prog 100 [Ty.val (.mk k n p ins), Vl.val (.mk a b c d bits pb items pi pick)].toArray (J4 s) R := by
 refine Ja Tryz.func100 rfl rfl fun w => ?_; refine JA ?_; refine Jq 2 rfl ?_; refine LN rfl fun r1 => ?_; refine LN rfl fun r2 => ?_; refine JG 5 rfl ?_; refine vM rfl rfl fun rm => ?_; refine KT (q := 0) (key := .int .i64 1) (val := .func (.func 159) #[] #[]) (Xt (t := 3) (by kernel_rfl)) rfl rfl rfl rfl rfl rfl ⟨_, rfl⟩ (by intro e he; simp at he) rfl rfl ?_
 refine KT (q := 0) (key := .int .i64 2) (val := .func (.func 159) #[] #[]) (Xt (t := 3) (by kernel_rfl)) rfl rfl rfl rfl rfl rfl ⟨_, rfl⟩ (by intro e he; simp at he; rcases he with rfl <;> exact ⟨_, rfl⟩) rfl rfl ?_
 refine KT (q := 0) (key := .int .i64 3) (val := .func (.func 160) #[] #[]) (Xt (t := 3) (by kernel_rfl)) rfl rfl rfl rfl rfl rfl ⟨_, rfl⟩ (by intro e he; simp at he; rcases he with rfl | rfl <;> exact ⟨_, rfl⟩) rfl rfl ?_
 refine KT (q := 0) (key := .int .i64 4) (val := .func (.func 162) #[] #[]) (Xt (t := 3) (by kernel_rfl)) rfl rfl rfl rfl rfl rfl ⟨_, rfl⟩ (by intro e he; simp at he; rcases he with rfl | rfl | rfl <;> exact ⟨_, rfl⟩) rfl rfl ?_
 refine KT (q := 0) (key := .int .i64 5) (val := .func (.func 164) #[] #[]) (Xt (t := 3) (by kernel_rfl)) rfl rfl rfl rfl rfl rfl ⟨_, rfl⟩ (by intro e he; simp at he; rcases he with rfl | rfl | rfl | rfl <;> exact ⟨_, rfl⟩) rfl rfl ?_
 refine KT (q := 0) (key := .int .i64 6) (val := .func (.func 166) #[] #[]) (Xt (t := 3) (by kernel_rfl)) rfl rfl rfl rfl rfl rfl ⟨_, rfl⟩ (by intro e he; simp at he; rcases he with rfl | rfl | rfl | rfl | rfl <;> exact ⟨_, rfl⟩) rfl rfl ?_
 refine KT (q := 0) (key := .int .i64 7) (val := .func (.func 167) #[] #[]) (Xt (t := 3) (by kernel_rfl)) rfl rfl rfl rfl rfl rfl ⟨_, rfl⟩ (by intro e he; simp at he; rcases he with rfl | rfl | rfl | rfl | rfl | rfl <;> exact ⟨_, rfl⟩) rfl rfl ?_
 refine KT (q := 0) (key := .int .i64 8) (val := .func (.func 170) #[] #[]) (Xt (t := 3) (by kernel_rfl)) rfl rfl rfl rfl rfl rfl ⟨_, rfl⟩ (by intro e he; simp at he; rcases he with rfl | rfl | rfl | rfl | rfl | rfl | rfl <;> exact ⟨_, rfl⟩) rfl rfl ?_; change HL _ _ _ ((rm, .map rootM 8) :: _) _ _ _ _; refine Xa 9 [2] rfl rfl ?_; refine LR rfl (WY (v := .func (.func g) #[] #[]) (Xt (t := 3) (by kernel_rfl)) rfl rfl (kn 0 rfl) rfl rfl ⟨_, rfl⟩ Jk9 (by show (Ku Y0 (.int .i64 k) (rootM.toList.map QX)).getD _ = _; rw [hlk]; rfl)) ?_; refine LS 2 [2, 1] rfl rfl ?_; refine Je rfl rfl rfl eg hg oR ?_; refine Jw 4 rfl ?_; refine pT rfl rfl rfl fun w1 hs1 => ?_; exact ⟨rfl, hs1.keep⟩
end
theorem Jli {l : List Vl} {k pick : Int} {ins : List Ty} (h : l.length = 1) : (JY l k pick ins 0).headD [] = KS (X5 l 0) (JR k pick ins 0) := by
 match l, h with
 | [x], _ => rw [JY]; rfl
theorem Jpx {a b c d : Nat} {bits : List Bool} {pb : Pl} {items : List Vl} {pi : Pl} {pick k n : Int} {p : Pl} {ins : List Ty} (hcz : chk (.mk k n p ins) 0 = 0) (hfit : KK (.mk a b c d bits pb items pi pick) (.mk k n p ins) = 0) (hk : k = 3 ∨ k = 4 ∨ k = 7) : (WM k n ins items (JY items k 0 ins 0)).length = 32 := by
 obtain ⟨q1, q2, q3⟩ := wx hcz hfit
 have hrow := fun (j : Nat) x (h : items[j]? = some x) => Jit hcz hfit (by omega) h
 have hrs : ∀ s ∈ JY items k 0 ins 0, s.length = 32 := fun s hs => by
  obtain ⟨j, x, h1, rfl⟩ := XZ hs
  rw [Nat.zero_add]
  obtain ⟨_, r1, r2, r3⟩ := hrow j x h1
  exact WS x _ 0 r2 r3
 have hrl := We items k 0 ins 0
 unfold WM
 by_cases h7 : k = 7
 ·rw [if_pos h7]
  exact V7 (by have := q3 h7; omega) hrs
 ·rw [if_neg h7]
  obtain ⟨w1, w2, w3, w4⟩ := q1 (by omega)
  match ins, w4 with
  | [x0], _ =>
  rw [show [x0].getD 0 default = x0 from rfl]
  by_cases hp : Xn x0 = true
  ·rw [if_pos hp]
   have hc0 := Zn hcz _ List.mem_cons_self
   obtain ⟨f1, f2, f3, f4⟩ := Zo hc0 hp
   refine V7 ?_ (Zm _); rw [YN]
   unfold Jab
   have hz : ∀ v ∈ items, (Vn v x0).length = (KX x0).toNat := fun v hv => by
    obtain ⟨j, hj⟩ := List.getElem?_of_mem hv
    have hg := (hrow j v hj).2.2.2
    rw [YO h7 (by omega)] at hg
    have := f4 v hg
    omega
   rw [j7 hz]
   have hm : items.length * (KX x0).toNat ≤ n.toNat * (KX x0).toNat := Nat.mul_le_mul_right _ (by omega)
   omega
  ·rw [if_neg hp]
   exact V7 (by omega) hrs
set_option maxHeartbeats 1000000 in
theorem Jx2 {R : Ji} {v : Vl} (hv : v.In R) : ∀ (t : Ty) (dp : Nat), t.In R → chk t (dp : Int) = 0 → KK v t = 0 → Y1 v ≤ 20000 → PureR Tryz.prog 100 [t.val, v.val].toArray (J4 (KS v t)) R := by
 have hv0 := hv
 induction hv with
 | @mk a b c d bits pb items pi pick ha hb hcc hd hlb hsb hl hs hp hi ih =>
 intro t dp ht hck hfit hw
 obtain ⟨k, n, p, ins⟩ := t
 have ht0 := ht
 cases ht with
 | mk hk hn hlt hst hit =>
 obtain ⟨hk8, ho, h6, hci⟩ := QZ hck
 obtain ⟨hf1, hf2, hf3⟩ := WR hfit
 obtain ⟨m1, m2, m3, m4⟩ := Jdn hck hfit
 obtain ⟨q1, q2, q3⟩ := wx hck hfit
 have hcz := Jac hck
 have hrow := fun (h8 : k ≠ 8) (j : Nat) x (h : items[j]? = some x) => Jit hcz hfit h8 h
 have hwi : ∀ x ∈ items, Y1 x ≤ 20000 := fun x hx => Nat.le_trans (Jfy hx) hw
 have hrec : k ≠ 8 → ∀ (i : Nat) x, items[i]? = some x → PureR Tryz.prog 100 [(JR k 0 ins i).val, x.val].toArray (J4 (KS x (JR k 0 ins i))) R := fun h8 i x hx => by
  obtain ⟨_, r1, r2, r3⟩ := hrow h8 i x hx
  have hm := List.mem_of_getElem? hx
  exact ih x hm (hi x hm) _ 0 (hit _ r1) r2 r3 (hwi x hm)
 have hlen := WS _ _ dp hck hfit
 rw [Xo] at hlen ⊢
 by_cases h1 : k = 1
 ·subst h1
  rw [if_pos (.inl rfl)]; exact X7 rfl (enters_of Tryz.func159 (by kernel_rfl) rfl) (Jdh _ hv0).toR
 by_cases h2 : k = 2
 ·subst h2
  rw [if_pos (.inr rfl)]; exact X7 rfl (enters_of Tryz.func159 (by kernel_rfl) rfl) (Jdh _ hv0).toR
 rw [if_neg (by omega)] at hlen ⊢
 have hone : k ≠ 7 → k ≠ 8 → ∀ x0, ins = [x0] → ∀ N : Nat, n = (N : Int) → N ≤ 512 → items.length ≤ N → PureR Tryz.prog 161 [Ty.val (.mk k n p ins), KL items.length pi].toArray (J4 (WM k n ins items (JY items k 0 ins 0))) R := fun h7 h8 x0 e N en hN hle => by
  subst e; subst en; refine Jx1 ht0 h7 h8 (Zn hcz _ List.mem_cons_self) hs hle hN (fun v hv => ?_) hwi hi fun i x hx => ?_
  ·obtain ⟨j, hj⟩ := List.getElem?_of_mem hv
   have := (hrow h8 j v hj).2.2.2
   rwa [YO h7 h8] at this
  ·have := hrec h8 i x hx
   rwa [YO h7 h8] at this
 by_cases h4 : k = 4
 ·subst h4
  obtain ⟨w1, w2, w3, w4⟩ := q1 (.inr rfl)
  rw [if_pos rfl, wv (by decide)] at hlen ⊢
  have hrl : (WM 4 n ins items (JY items 4 0 ins 0)).length = 32 := Jpx hcz hfit (.inr (.inl rfl))
  obtain ⟨x0, hx0⟩ := List.length_eq_one_iff.1 w4
  exact X7 rfl (enters_of Tryz.func162 (by kernel_rfl) rfl) (J1r hs hrl m1 (hone (by decide) (by decide) x0 hx0 n.toNat (by omega) (by omega) (by omega)))
 rw [if_neg h4] at hlen ⊢
 by_cases h5 : k = 5
 ·subst h5
  obtain ⟨w1, w2, w3⟩ := q2 (.inl rfl)
  rw [if_pos rfl] at hlen ⊢; refine X7 rfl (enters_of Tryz.func164 (by kernel_rfl) rfl) (J1s ?_)
  have := Jiy (k := 5) (p := p) (ins := ins) (l := bits) (n := n.toNat) (by omega) (by omega) hsb
  rwa [show ((n.toNat : Nat) : Int) = n by omega] at this
 rw [if_neg h5] at hlen ⊢
 by_cases h6 : k = 6
 ·subst h6
  obtain ⟨w1, w2, w3⟩ := q2 (.inr rfl)
  rw [if_pos rfl] at hlen ⊢; refine X7 rfl (enters_of Tryz.func166 (by kernel_rfl) rfl) (J1t hsb (V7 (qe w3) (Zm _)) m2 ?_)
  have := Jiy (k := 6) (p := p) (ins := ins) (l := bits) (n := n.toNat) (by omega) (by omega) hsb
  rwa [show ((n.toNat : Nat) : Int) = n by omega] at this
 rw [if_neg h6] at hlen ⊢
 by_cases h8 : k = 8
 ·subst h8
  obtain ⟨w1, w2, w3, w4⟩ := m4 rfl
  obtain ⟨m, rfl⟩ : ∃ m : Nat, pick = (m : Int) := ⟨pick.toNat, by omega⟩
  have hx8 := X6 (l := items) (i := 0) (by omega)
  have hg := Xl (j := 0) hf3 hx8.1
  have hin := qc (v := .mk a b c d bits pb items pi (m : Int)) (i := 0) hcz hf2 (show 0 < items.length by omega)
  have hty := QO hin
  have hX := ih _ hx8.2 (hi _ hx8.2) _ 0 (hit _ hty.2) (Zn hcz _ hty.2) hg (hwi _ hx8.2)
  have hXl := WS _ _ 0 (Zn hcz _ hty.2) hg
  rw [if_pos rfl, Jli w1, Int.toNat_natCast]; exact X7 rfl (enters_of Tryz.func170 (by kernel_rfl) rfl) (J1v hst hs (by omega) (show ins[m]? = some _ from hty.1) hx8.1 hXl hX)
 rw [if_neg h8, wv h8] at hlen ⊢
 by_cases h3 : k = 3
 ·subst h3
  obtain ⟨w1, w2, w3, w4⟩ := q1 (.inl rfl)
  obtain ⟨x0, hx0⟩ := List.length_eq_one_iff.1 w4
  exact X7 rfl (enters_of Tryz.func160 (by kernel_rfl) rfl) (J1q (hone (by decide) (by decide) x0 hx0 n.toNat (by omega) (by omega) (by omega)))
 have h7 : k = 7 := by omega
 subst h7
 obtain ⟨w1, w2, w3⟩ := q3 rfl
 have hM : WM 7 n ins items (JY items 7 0 ins 0) = Vd (JY items 7 0 ins 0) ins.length := by unfold WM; rw [if_pos rfl]
 rw [hM]
 have hrl := We items 7 0 ins 0
 refine X7 rfl (enters_of Tryz.func167 (by kernel_rfl) rfl) (J1u hst (by omega) w3 (fun s hs => ?_) (zr ht0 (by decide) hs (by omega) (fun i hi => ?_) (hrec (by decide))))
 ·obtain ⟨j, x, h1, rfl⟩ := XZ hs
  rw [Nat.zero_add]
  obtain ⟨_, r1, r2, r3⟩ := hrow (by decide) j x h1
  exact WS x _ 0 r2 r3
 ·show i < ins.length
  omega
def Yb (t : Ty) (v : Vl) : BS × Int := if Vx t v ≠ 0 then ([], Vx t v) else (KS v t, 0)
theorem Juq {R : Ji} {t : Ty} {v : Vl} (ht : t.In R) (hv : v.In R) (hw : Y1 v ≤ 20000) : PureR Tryz.prog 45 [t.val, v.val].toArray (Zs (Yb t v)) R := by
 have h1 := Jo4 ht hv
 have h2 := fun h => Jx2 hv t 0 ht (Yu (t := t) (v := v) h).1 (Yu h).2 hw
 unfold Yb
 generalize Vx t v = e at h1 h2 ⊢
 generalize KS v t = s at h2 ⊢
 obtain ⟨k, n, p, ins⟩ := t
 obtain ⟨a, b, c, d, bits, pb, items, pi, pick⟩ := v
 refine Ja Tryz.func45 rfl rfl fun w => ?_; refine JA ?_; refine Jq 2 rfl ?_; refine LN rfl fun r1 => ?_; refine LN rfl fun r2 => ?_; refine Xa 9 [1, 0] rfl rfl ?_; refine Je rfl rfl rfl (enters_of Tryz.func99 (by kernel_rfl) rfl) h1 oR ?_; refine JK 9 rfl ?_; refine cD (fun g => ?_) fun g => ?_
 refine Ko 9 rfl ?_; refine Jg rfl rfl (.cons (Jl rfl) (.cons (Jl rfl) .nil)) (fun w1 hs1 => ?_); refine ⟨?_, hs1.keep⟩; rw [if_pos (by omega)]; rfl
 ·refine Xs 6 [1, 0] rfl rfl ?_; refine Je rfl rfl rfl Jh0 (h2 (by omega)) oR ?_; refine Jw 5 rfl ?_; refine Jg rfl rfl (.cons (Jl rfl) (.cons (Jl rfl) .nil)) (fun w1 hs1 => ?_); refine ⟨?_, hs1.keep⟩; rw [if_neg (by omega)]; rfl
theorem Ji0 (l : List Vl) : (vq l).length = l.length := by rw [WN, List.length_map]
theorem Jwo : ∀ l : List Vl, (∀ x ∈ l, Y1 (Zy x) = Y1 x) → wL (vq l) = wL l
 | [], _ => by rw [vq]
 | x :: xs, h => by rw [vq, wL, wL, h x List.mem_cons_self, Jwo xs fun y hy => h y (List.mem_cons_of_mem _ hy)]
theorem J0a (v : Vl) : Y1 (Zy v) = Y1 v := by
 induction v using Vl.ind with
 | h a b c d bits pb items pi pick ih => rw [W8, Y1, Y1, Jwo items ih]
theorem Ji1 (k pick : Int) (ins : List Ty) : ∀ (l : List Vl), (∀ x ∈ l, ∀ t, KK (Zy x) t = KK x t) → ∀ i : Nat, QC (vq l) k pick ins i = QC l k pick ins i
 | [], _, i => by rw [vq]
 | x :: xs, h, i => by rw [vq, QC, QC, h x List.mem_cons_self, Ji1 k pick ins xs fun y hy => h y (List.mem_cons_of_mem _ hy)]
theorem Jx3 (k n : Int) (m : Nat) (v : Vl) : xO k n m (Zy v) = xO k n m v := by
 obtain ⟨a, b, c, d, bits, pb, items, pi, pick⟩ := v
 rw [W8]; rw [Vp k n m a b c d bits none (vq items) none pick _ rfl, Vp k n m a b c d bits pb items pi pick _ rfl]; simp only [Ve, Ji0]
theorem Jx4 (v : Vl) : ∀ t, KK (Zy v) t = KK v t := by
 induction v using Vl.ind with
 | h a b c d bits pb items pi pick ih =>
 intro t
 obtain ⟨k, n, p, ins⟩ := t
 have hl := Ji0 items
 have ho := Jx3 k n ins.length (.mk a b c d bits pb items pi pick)
 rw [W8] at ho ⊢; rw [KK, KK, hl, Ji1 k pick ins items ih, ho]
theorem Jpy (t : Ty) : (Yx t).k = t.k := by cases t; rw [Yx]; rfl
theorem Jwp (t : Ty) : (Yx t).n = t.n := by cases t; rw [Yx]; rfl
theorem Ji2 (t : Ty) : (Yx t).ins = WO t.ins := by cases t; rw [Yx]; rfl
theorem erT_def : Yx default = default := by show Yx (.mk 0 0 none []) = .mk 0 0 none []; rw [Yx, WO]
mutual
theorem Jag : ∀ (t : Ty) (d : Int), chk (Yx t) d = chk t d
 | .mk k n p ins, d => by rw [Yx, chk, chk, Jdt ins, wC]
theorem Jdt : ∀ (l : List Ty) (d : Int), XA (WO l) d = XA l d
 | [], _ => by rw [WO]
 | x :: xs, d => by rw [WO, XA, XA, Jag x, Jdt xs]
end
mutual
theorem Jdu : ∀ (t : Ty), Xc (Yx t) = Xc t
 | .mk k n p ins => by rw [Yx, Xc, Xc, Jdv ins]
theorem Jdv : ∀ (l : List Ty), jU (WO l) = jU l
 | [] => by rw [WO]
 | x :: xs => by rw [WO, jU, jU, Jdu x, Jdv xs]
end
mutual
theorem wE : ∀ (t : Ty), KX (Yx t) = KX t
 | .mk k n p ins => by rw [Yx, KX, KX, Jdw ins]
theorem Jdw : ∀ (l : List Ty), VK (WO l) = VK l
 | [] => by rw [WO]
 | x :: xs => by rw [WO, VK, VK, wE x, Jdw xs]
end
theorem zt (t : Ty) : Vt (Yx t) = Vt t := by unfold Vt; rw [Jag, Jdu]
theorem Jpz (t : Ty) : yx (Yx t) = yx t := by unfold yx; rw [zt, wE]
theorem Jdx : ∀ l : List Ty, Vf (l.map Yx) = Vf l
 | [] => rfl
 | x :: xs => by rw [List.map_cons, Vf, Vf, Jpz, Jdx xs]
theorem Jdy (ins : List Ty) (i : Nat) : (WO ins).getD i default = Yx (ins.getD i default) := by
 rw [wB, List.getD_eq_getElem?_getD, List.getD_eq_getElem?_getD, List.getElem?_map]
 cases ins[i]? with
 | none => exact erT_def.symm
 | some x => rfl
theorem wF (k pick : Int) (ins : List Ty) (i : Nat) : JR k pick (WO ins) i = Yx (JR k pick ins i) := by unfold JR; exact Jdy ins _
mutual
theorem Ji3 : ∀ (v : Vl) (t : Ty), KK v (Yx t) = KK v t
 | .mk a b c d bits pb items pi pick, .mk k n p ins => by rw [Yx, KK, KK, wC, Jdz items]
theorem Jdz : ∀ (l : List Vl) (k pick : Int) (ins : List Ty) (i : Nat), QC l k pick (WO ins) i = QC l k pick ins i
 | [], _, _, _, _ => by rw [QC, QC]
 | x :: xs, k, pick, ins, i => by rw [QC, QC, wF, Ji3 x, Jdz xs]
end
theorem Jp0 (t : Ty) (v : Vl) : Vx (Yx t) v = Vx t v := by unfold Vx; rw [Jag, Ji3]
theorem wG (h : Nat) : ∀ (l : List (Ty × BS)) (f th : BS), Zt h (l.map fun p => (Yx p.1, p.2)) f th = Zt h l f th
 | [], f, th => rfl
 | (x, s) :: l, f, th => by rw [List.map_cons, Zt, Zt, zt, wG h l, wG h l]
mutual
theorem Ji4 : ∀ (v : Vl) (t : Ty), Vn v (Yx t) = Vn v t
 | .mk a b c d bits pb items pi pick, t => by
  have h1 : ((Qg items t.k pick t.ins 0).map fun p => (Yx p.1, p.2)).headD (default, []) = (fun p : Ty × BS => (Yx p.1, p.2)) ((Qg items t.k pick t.ins 0).headD (default, [])) := by
   cases Qg items t.k pick t.ins 0 with
   | nil => show (default, []) = (Yx default, []); rw [erT_def]
   | cons x l => rfl
  have h2 : (((Qg items t.k pick t.ins 0).map fun p => (Yx p.1, p.2)).map Prod.fst) = ((Qg items t.k pick t.ins 0).map Prod.fst).map Yx := by rw [List.map_map, List.map_map]; rfl
  rw [Vn, Vn, Jpy, Jwp, Ji2, Jd0 items, wG, h1, h2, Jdx]
theorem Jd0 : ∀ (l : List Vl) (k pick : Int) (ins : List Ty) (i : Nat), Qg l k pick (WO ins) i = (Qg l k pick ins i).map fun p => (Yx p.1, p.2)
 | [], _, _, _, _ => by rw [Qg, Qg]; rfl
 | x :: xs, k, pick, ins, i => by rw [Qg, Qg, wF, Ji4 x, Jd0 xs]; rfl
end
theorem Jp1 (items : List Vl) (x : Ty) : WL items (Yx x) = WL items x := by unfold WL; rw [List.map_congr_left fun v _ => Ji4 v x]
theorem Jp2 (k n : Int) (ins : List Ty) (items : List Vl) (rs : List BS) : WM k n (WO ins) items rs = WM k n ins items rs := by
 unfold WM Xn
 rw [Jdy, wC, Jpy, Jp1, wE]
mutual
theorem Jd1 : ∀ (v : Vl) (t : Ty), KS v (Yx t) = KS v t
 | .mk a b c d bits pb items pi pick, t => by rw [KS, KS, Jpy, Jwp, Ji2, zu items, Jp2]
theorem zu : ∀ (l : List Vl) (k pick : Int) (ins : List Ty) (i : Nat), JY l k pick (WO ins) i = JY l k pick ins i
 | [], _, _, _, _ => by rw [JY, JY]
 | x :: xs, k, pick, ins, i => by rw [JY, JY, wF, Jd1 x, zu xs]
end
theorem Jlj (t : Ty) (v : Vl) : Yb (Yx t) v = Yb t v := by unfold Yb; rw [Jp0, Jd1]
def wH (x : BS × BS) : Vl := KY [yA x.1, yA x.2] 0
def acV (a : AcE) : Vl := KY [yA a.addr, .mk a.nonce 0 0 0 [] none [] none 0, .mk a.bal.a a.bal.b a.bal.c a.bal.d [] none [] none 0, yA a.code, KY (a.slots.map wH) 0] 0
def YR (l : List AcE) : Vl := KY (l.map acV) 0
theorem Ji5 : chk qf 0 = 0 := by decide +kernel
def Qz (l : List AcE) : BS × Int := if KR l ≠ 0 then ([], KR l) else Yb qf (YR l)
theorem Vl.In.up {R R' : Ji} {v : Vl} (h : v.In R) (hs : ∀ q ∈ R, q ∈ R') : v.In R' := h.mono hs
theorem J0b {s : BS} {r : Nat} {Lr : Ji} (hl : s.length ≤ 100000) (h : (r, Obj.cells (Q3 (s.map ZN)).toArray 0 (0, 0)) ∈ Lr) : Vl.In Lr (.mk 0 0 0 0 [] none (s.map ZN) (some (⟨r, 0, none⟩, s.length)) 0) :=
 .mk u0 u0 u0 u0 (by decide) rfl (by rw [List.length_map]; omega) ⟨by rw [List.length_map]; exact Nat.le_refl _, fun _ => ⟨rfl, _, 0, (0, 0), h, by rw [List.drop_zero, List.toList_toArray, List.take_length]⟩⟩ i0 fun x hx => by
  obtain ⟨b, _, rfl⟩ := List.mem_map.1 hx
  exact (Jwm b).mono fun q hq => absurd hq List.not_mem_nil
def Jp3 {s : BS} (hl : s.length ≤ 100000) : VR (yA s) := ⟨_, [(0, .cells (Q3 (s.map ZN)).toArray 0 (0, 0))], J0b hl (List.mem_singleton_self _), Jwn s _⟩
theorem Jp4 {Lr : Ji} {its : List Vl} {r e n : Nat} (h : (r, Obj.cells (Q3 its).toArray e (0, 0)) ∈ Lr) (hn : its.length = n) (hl : n ≤ 1000) (hi : ∀ x ∈ its, x.In Lr) : Vl.In Lr (.mk 0 0 0 0 [] none its (some (⟨r, 0, none⟩, n)) 0) :=
 .mk u0 u0 u0 u0 (by decide) rfl (by omega) ⟨Nat.le_of_eq hn, fun _ => ⟨rfl, _, e, (0, 0), h, by rw [List.drop_zero, List.toList_toArray, List.take_length]⟩⟩ i0 hi
theorem Jx5 {us : List Vl} {F yL zL : Ji} {y z : Vl} {rb e : Nat} (hin : ∀ x ∈ us, x.In F) (hy : y.In yL) (hz : z.In zL) {q : Vl} (hq : q ∈ us ++ [Vl.mk 0 0 0 0 [] none [y, z] (some (⟨rb, 0, none⟩, 2)) 0]) : q.In ((rb, Obj.cells (Q3 [y, z]).toArray e (0, 0)) :: (zL ++ (yL ++ F))) := by
 rcases List.mem_append.1 hq with hq | hq
 ·exact (hin q hq).mono fun p hp => by simp [hp]
 ·rw [List.mem_singleton.1 hq]
  refine Jp4 List.mem_cons_self rfl (by decide) fun x hx => ?_; simp only [List.mem_cons, List.not_mem_nil, or_false] at hx
  rcases hx with rfl | rfl
  ·exact hy.mono fun p hp => by simp [hp]
  ·exact hz.mono fun p hp => by simp [hp]
theorem Jx6 {slots : List (BS × BS)} {j : Nat} {us : List Vl} {k v : BS} {y z : Vl} {p : Pl} (her : us.map Zy = (slots.take j).map wH) (hx : slots[j]? = some (k, v)) (hy : Zy y = yA k) (hz : Zy z = yA v) : (us ++ [Vl.mk 0 0 0 0 [] none [y, z] p 0]).map Zy = (slots.take (j + 1)).map wH := by
 rw [List.map_append, her, ZG hx, List.map_append]
 congr 1
 show [Zy _] = [wH (k, v)]
 rw [W8, WN, List.map_cons, List.map_cons, List.map_nil, hy, hz]; rfl
theorem Jx7 {vs us : List Vl} {E F U yL zL : Ji} {y z : Vl} {rb e nonce ba bb bc bd n : Nat} {p : Pl} (hin : ∀ x ∈ vs, x.In E) (hs : Seg U n (Q3 us) p) (hn : us.length = n) (hn2 : n ≤ 100000) (hin2 : ∀ x ∈ us, x.In F) (hnu : VM nonce) (hba : W4.ok ⟨ba, bb, bc, bd⟩) (hy : y.In yL) (hz : z.In zL) {q : Vl}
  (hq : q ∈ vs ++ [Vl.mk 0 0 0 0 [] none [y, .mk nonce 0 0 0 [] none [] none 0, .mk ba bb bc bd [] none [] none 0, z, .mk 0 0 0 0 [] none us p 0] (some (⟨rb, 0, none⟩, 5)) 0]) : q.In ((rb, Obj.cells (Q3 [y, .mk nonce 0 0 0 [] none [] none 0, .mk ba bb bc bd [] none [] none 0, z, .mk 0 0 0 0 [] none us p 0]).toArray e (0, 0)) :: (zL ++ (yL ++ (U ++ (F ++ E))))) := by
 rcases List.mem_append.1 hq with hq | hq
 ·exact (hin q hq).mono fun p hp => by simp [hp]
 ·rw [List.mem_singleton.1 hq]
  refine Jp4 List.mem_cons_self rfl (by decide) fun x hx => ?_; simp only [List.mem_cons, List.not_mem_nil, or_false] at hx
  rcases hx with rfl | rfl | rfl | rfl | rfl
  ·exact hy.mono fun p hp => by simp [hp]
  ·exact .mk hnu u0 u0 u0 (by decide) rfl (by decide) rfl i0 (fun x hx => nomatch hx)
  ·exact .mk hba.a hba.b hba.c hba.d (by decide) rfl (by decide) rfl i0 (fun x hx => nomatch hx)
  ·exact hz.mono fun p hp => by simp [hp]
  ·refine .mk u0 u0 u0 u0 (by decide) rfl (by omega) (by rw [hn]; exact hs.mono fun p hp => by simp [hp]) i0 fun x hx => (hin2 x hx).mono fun p hp => by simp [hp]
theorem Jx8 {accts : List AcL} {i : Nat} {vs us : List Vl} {addr code : BS} {nonce ba bb bc bd : Nat} {slots : List (BS × BS)} {ap p p2 : Pl} {y z : Vl} (her : vs.map Zy = (accts.take i).map fun a => acV a.er) (hx : accts[i]? = some ⟨addr, nonce, ⟨ba, bb, bc, bd⟩, code, slots, ap⟩) (hy : Zy y = yA addr) (hz : Zy z = yA code) (hu : us.map Zy = (slots.take slots.length).map wH) :
  (vs ++ [Vl.mk 0 0 0 0 [] none [y, .mk nonce 0 0 0 [] none [] none 0, .mk ba bb bc bd [] none [] none 0, z, .mk 0 0 0 0 [] none us p 0] p2 0]).map Zy = (accts.take (i + 1)).map fun a => acV a.er := by
 rw [List.map_append, her, ZG hx, List.map_append]
 congr 1
 show [Zy _] = [acV (AcL.er ⟨addr, nonce, ⟨ba, bb, bc, bd⟩, code, slots, ap⟩)]
 rw [List.take_length] at hu; simp only [W8, WN, List.map_cons, List.map_nil, hy, hz, hu]
 rfl
theorem Jx9 (accts : List AcL) : Vl.mk 0 0 0 0 [] none (accts.map fun a => acV a.er) none 0 = YR (accts.map AcL.er) := by
 unfold YR KY
 rw [List.map_map]; rfl
open Classical in
theorem Jur {α : Type} (a b : α) (Z Y M U W : List α) : (a :: b :: (Z ++ (Y ++ (M ++ (U ++ W))))).Perm (U ++ (a :: b :: (M ++ (Z ++ (Y ++ W))))) := by
 rw [List.perm_iff_count]; intro x; simp only [List.count_append, List.count_cons]; omega
open Classical in
theorem Jus {α : Type} (a b : α) (Z Y M U F V E : List α) : (a :: b :: (Z ++ (Y ++ (M ++ (U ++ (F ++ (V ++ E))))))).Perm (V ++ (a :: b :: (M ++ (Z ++ (Y ++ (U ++ (F ++ E))))))) := by
 rw [List.perm_iff_count]; intro x; simp only [List.count_append, List.count_cons]; omega
open Classical in
theorem Jut {α : Type} (r a b : α) (M Z Y F W : List α) : (r :: a :: b :: (M ++ (Z ++ (Y ++ (F ++ W))))).Perm (a :: (M ++ (r :: ((b :: (Z ++ (Y ++ F))) ++ W)))) := by
 rw [List.perm_iff_count]; intro x; simp only [List.count_append, List.count_cons]; omega
open Classical in
theorem Juu {α : Type} (r a b : α) (M W : List α) : (r :: a :: b :: (M ++ W)).Perm (a :: (M ++ (r :: (b :: W)))) := by
 rw [List.perm_iff_count]; intro x; simp only [List.count_append, List.count_cons]; omega
def Ac1 (a : AcL) : Prop := a.addr.length ≤ 100000 ∧ a.code.length ≤ 100000 ∧ a.slots.length ≤ 100000 ∧ ∀ x ∈ a.slots, x.1.length ≤ 100000 ∧ x.2.length ≤ 100000
set_option maxHeartbeats 2000000 in
theorem Juv {R : Ji} {accts : List AcL} {p : Pl} (hs : StL.In R ⟨accts, p⟩) (hn : accts.length ≤ 100000) (hb : ∀ a ∈ accts, Ac1 a) : PureT (α := VR (YR (accts.map AcL.er))) Tryz.prog 47 [KL accts.length p].toArray (fun y => y.x.val) [] (fun y => y.L) R := by
 have hseg : Seg R accts.length (KO accts) p := hs.seg
 refine Ju Tryz.func47 rfl rfl fun w => ?_; refine JA ?_; refine Jq 2 rfl ?_; refine LN rfl fun r1 => ?_; refine JG 4 rfl ?_; refine LN rfl fun r2 => ?_; refine JG 6 rfl ?_; refine LR rfl (J1 rfl hseg rfl) ?_; refine JK 4 rfl ?_; refine J0 (σ := Nat × List Vl × QU × Ji) (fun q => q.1 ≤ accts.length ∧ rowOk 7 q.1 (Q3 q.2.1) q.2.2.1 ∧ (∀ x ∈ q.2.1, Vl.In q.2.2.2 x) ∧ q.2.1.map Zy = (accts.take q.1).map fun a => acV a.er) (fun q => [(2, XG r1), (3, XG r2), (9, KL accts.length p), (10, .int .i64 (accts.length : Int)), (11, .int .i64 (q.1 : Int))]) (fun q => (r2, .cells #[.int .u64 0, .int .u64 0, .int .u64 0, .int .u64 0, .slice none 0 0, JE q.1 q.2.2.1, .int .i64 0] 89 (0, 0)) :: (r1, .cells #[.int .u64 0, .int .u64 0, .int .u64 0, .int .u64 0, .slice none 0 0, .slice none 0 0, .int .i64 0] 89 (0, 0)) :: (JP 89 (Q3 q.2.1) q.2.2.1 ++ q.2.2.2)) (fun _ _ _ => True) (fun q => accts.length - q.1) (0, [], none, []) ⟨Nat.zero_le _, ⟨rfl, rfl⟩, fun x hx => (nomatch hx), rfl⟩ (lK rfl) (by simp only [JP, List.nil_append, List.append_nil]; exact List.Sublist.refl _) (fun _ _ h => h) ?_; rintro ⟨i, vs, row, E⟩ ⟨hi1, hrow, hin, her⟩; simp only at hi1 hrow hin her; refine JN 6 rfl ?_; refine cD (fun g => ?_) fun g => ?_
 ·refine JN 5 rfl ?_
  obtain ⟨a, ha, hma⟩ := Q4 (show i < accts.length by omega)
  have ha2 := hs.accts a hma
  obtain ⟨hb1, hb2, hb3, hb4⟩ := hb a hma
  obtain ⟨addr, nonce, ⟨ba, bb, bc, bd⟩, code, slots, ap⟩ := a
  have hnu : VM nonce := ha2.nonce
  have hba : W4.ok ⟨ba, bb, bc, bd⟩ := ha2.bal
  have hsg : Seg R slots.length (Js1 slots) ap := ha2.seg
  simp only at hb1 hb2 hb3 hb4; refine Jq 1 rfl ?_
  refine LR rfl (Jp (j := i) rfl hseg rfl rfl rfl (by first | rfl | omega) (by omega)) ?_; refine LR rfl (Ka AcL.len oR rfl hseg ha rfl rfl) ?_; refine LN rfl fun r3 => ?_
  refine LT 0 rfl rfl ?_; refine JG 4 rfl ?_; refine LN rfl fun r4 => ?_; refine Xa 7 [1] rfl rfl ?_; refine LR rfl (J1 rfl hsg rfl) ?_; refine JK 4 rfl ?_; refine J0 (σ := Nat × List Vl × QU × Ji) (fun q => q.1 ≤ slots.length ∧ rowOk 7 q.1 (Q3 q.2.1) q.2.2.1 ∧ (∀ x ∈ q.2.1, Vl.In q.2.2.2 x) ∧ q.2.1.map Zy = (slots.take q.1).map wH) (fun q => [(2, XG r1), (3, XG r2), (5, XG r3), (6, XG r4), (9, KL accts.length p), (10, .int .i64 (accts.length : Int)), (11, .int .i64 (i : Int)), (16, KL slots.length ap), (17, .int .i64 (slots.length : Int)), (18, .int .i64 (q.1 : Int))]) (fun q => (r4, .cells #[.int .u64 0, .int .u64 0, .int .u64 0, .int .u64 0, .slice none 0 0, JE q.1 q.2.2.1, .int .i64 0] 89 (0, 0)) :: (r3, .cells #[J4 addr, uV nonce, uV ba, uV bb, uV bc, uV bd, J4 code, KL slots.length ap] 48 (0, 0)) :: (r2, .cells #[.int .u64 0, .int .u64 0, .int .u64 0, .int .u64 0, .slice none 0 0, JE i row, .int .i64 0] 89 (0, 0)) :: (r1, .cells #[.int .u64 0, .int .u64 0, .int .u64 0, .int .u64 0, .slice none 0 0, .slice none 0 0, .int .i64 0] 89 (0, 0)) :: (JP 89 (Q3 q.2.1) q.2.2.1 ++ (q.2.2.2 ++ (JP 89 (Q3 vs) row ++ E)))) (fun _ _ _ => True) (fun q => slots.length - q.1) (0, [], none, []) ⟨Nat.zero_le _, ⟨rfl, rfl⟩, fun x hx => (nomatch hx), rfl⟩ (lK rfl) (by simp only [JP, List.nil_append, List.append_nil]; exact List.Sublist.refl _) (fun _ _ h => h) ?_; rintro ⟨j, us, rw2, F⟩ ⟨hj1, hrow2, hin2, her2⟩; simp only at hj1 hrow2 hin2 her2; refine JN 6 rfl ?_; refine cD (fun g => ?_) fun g => ?_
  ·refine JN 5 rfl ?_
   obtain ⟨⟨k, v⟩, hx, hmx⟩ := Q4 (show j < slots.length by omega)
   obtain ⟨hk1, hv1⟩ := hb4 _ hmx
   simp only at hk1 hv1; refine Jq 1 rfl ?_
   refine LR rfl (Jp (j := j) rfl hsg rfl rfl rfl (by first | rfl | omega) (by omega)) ?_; refine LR rfl (Ka Kf oR rfl hsg hx rfl rfl) ?_; refine LN rfl fun r5 => ?_
   refine LT 0 rfl rfl ?_; refine JK 2 rfl ?_
   refine JJ [(r4, .cells #[.int .u64 0, .int .u64 0, .int .u64 0, .int .u64 0, .slice none 0 0, JE j rw2, .int .i64 0] 89 (0, 0)), (r5, .cells #[J4 k, J4 v] 97 (0, 0))] [(0, .pure), (1, .pure), (2, .pure), (3, .pure), (4, .grow (Qj (Jp3 hk1) (fun y => y.x.val) (fun y => y.L))), (5, .pure), (6, .pure), (7, .grow (Qj (Jp3 hv1) (fun y => y.x.val) (fun y => y.L))), (8, .dep [26, 29] (Jb6 2 89)), (9, .pure), (10, .dep [31] (Jb6 1 89))] 11 [0, 1, 2, 3, 5, 6, 4, 7, 8, 9, 10] (by kernel_rfl) (by kernel_rfl) (by first | exact (fun _ h => absurd h List.not_mem_nil) | simp [SubS] | (intro p hp; simp [hp])) ?_
   refine Jj (k := 0) rfl rfl rfl rfl rfl (fun _ hS => (J9 rfl rfl rfl)) ?_; refine Jj (k := 1) rfl rfl rfl rfl rfl (fun _ hS => (Jd rfl (.inl (hS _ (Jr (n := 0) rfl))) rfl rfl)) ?_
   refine Jj (k := 2) rfl rfl rfl rfl rfl (fun _ hS => (J9 rfl rfl rfl)) ?_; refine Jj (k := 3) rfl rfl rfl rfl rfl (fun _ hS => (Jd rfl (.inl (hS _ (Jr (n := 1) rfl))) rfl rfl)) ?_
   refine Jj (k := 5) rfl rfl rfl rfl rfl (fun _ hS => (J9 rfl rfl rfl)) ?_; refine Jj (k := 6) rfl rfl rfl rfl rfl (fun _ hS => (Jd rfl (.inl (hS _ (Jr (n := 1) rfl))) rfl rfl)) ?_; refine Qd (k := 4) rfl rfl rfl rfl rfl Jh1 (Jaf hk1) oN fun y => ?_
   obtain ⟨⟨ya, yb, yc, yd, ybits, ypb, yitems, ypi, ypick⟩, yL, yok, yer⟩ := y
   refine Qd (k := 7) rfl rfl rfl rfl rfl Jh1 (Jaf hv1) oN fun y => ?_
   obtain ⟨⟨za, zb, zc, zd, zbits, zpb, zitems, zpi, zpick⟩, zL, zok, zer⟩ := y
   refine Va (k := 8) (dv := [_, _]) (n := 2) (sz := 7) (vs := [_, _]) (zs := [_, _, _, _, _, _, _, _, _, _, _, _, _, _]) (r := [uV ya, uV yb, uV yc, uV yd, KL ybits.length ypb, KL yitems.length ypi, .int .i64 ypick, uV za, uV zb, uV zc, uV zd, KL zbits.length zpb, KL zitems.length zpi, .int .i64 zpick]) rfl rfl rfl rfl rfl rfl rfl rfl rfl rfl rfl rfl rfl (by rw [Kt]; exact rfl) rfl fun rb => ?_; refine Jj (k := 9) rfl rfl rfl rfl rfl (fun _ hS => (Js (r := [_, _, _, _, _, _, _]) rfl rfl)) ?_; refine Va (k := 10) (dv := [_]) (n := 1) (sz := 7) (vs := [_]) (zs := [_, _, _, _, _, _, _]) (r := [.int .u64 0, .int .u64 0, .int .u64 0, .int .u64 0, .slice none 0 0, .slice (some ⟨rb, 0, none⟩) 2 2, .int .i64 0]) rfl rfl rfl rfl rfl rfl rfl rfl rfl rfl rfl rfl rfl (by rw [Kt]; exact rfl) rfl fun rc => ?_; refine Km ?_; refine Kx (Jur (M := [_, _, _, _, _]) ..) ?_; refine KI (L0 := _) (xs := Q3 us) (row := rw2) (n := j) (sz := 7) (b := 88) (news := [_, _, _, _, _, _, _]) (List.Perm.refl _) rfl rfl rfl rfl (kn 0 rfl) rfl rfl rfl rfl rfl (by decide) rfl rfl rfl (by decide) hrow2 (by omega) (by omega) fun ra cap sp hra => ?_
   refine LS 1 [] rfl rfl ?_; refine KP (k := 4) (cs' := #[.int .u64 0, .int .u64 0, .int .u64 0, .int .u64 0, .slice none 0 0, JE (j + 1) (some (ra, cap, sp)), .int .i64 0]) rfl rfl rfl rfl rfl rfl rfl rfl rfl rfl ?_; refine JG 5 rfl ?_; refine J3 (show _ = Value.int .i64 ((j + 1 : Nat) : Int) from by rw [wrap_i64 (by omega) (by omega)]; congr 1 <;> omega) ?_; refine Jw 2 rfl ?_; refine Jx ?_
   have hvc : Q3 us ++ Vl.cells (.mk 0 0 0 0 [] none [(.mk ya yb yc yd ybits ypb yitems ypi ypick), (.mk za zb zc zd zbits zpb zitems zpi zpick)] (some (⟨rb, 0, none⟩, 2)) 0) = Q3 (us ++ [.mk 0 0 0 0 [] none [(.mk ya yb yc yd ybits ypb yitems ypi ypick), (.mk za zb zc zd zbits zpb zitems zpi zpick)] (some (⟨rb, 0, none⟩, 2)) 0]) := by unfold Q3; rw [List.flatMap_append]; simp
   refine Jdr (Jut (M := [_, _, _, _, _]) ..) ?_; exact Jt (j + 1, us ++ [.mk 0 0 0 0 [] none [(.mk ya yb yc yd ybits ypb yitems ypi ypick), (.mk za zb zc zd zbits zpb zitems zpi zpick)] (some (⟨rb, 0, none⟩, 2)) 0], some (ra, cap, sp), _ :: (zL ++ (yL ++ F))) ⟨by simp only; omega, by simp only; rw [← hvc]; exact hra, fun z hz => Jx5 hin2 yok zok hz, Jx6 her2 hx yer zer⟩ (by simp only; omega) (lK rfl) (by simp only; rw [← hvc]; exact .cons _ (.cons _ (List.Sublist.refl _))) (fun _ _ h => h)
  ·refine JN 5 rfl ?_
   obtain rfl : j = slots.length := by omega
   have hul : us.length = slots.length := by have := congrArg List.length her2; simpa using this
   have hvr2 : JE slots.length rw2 = KL us.length (Vc rw2) := by rw [hul]; exact (Xi _ _ (fun h => by rw [h] at hrow2; exact hrow2.1)).symm
   rw [hvr2]
   refine JJ [(r2, .cells #[.int .u64 0, .int .u64 0, .int .u64 0, .int .u64 0, .slice none 0 0, JE i row, .int .i64 0] 89 (0, 0)), (r3, .cells #[J4 addr, uV nonce, uV ba, uV bb, uV bc, uV bd, J4 code, KL slots.length ap] 48 (0, 0)), (r4, .cells #[.int .u64 0, .int .u64 0, .int .u64 0, .int .u64 0, .slice none 0 0, KL us.length (Vc rw2), .int .i64 0] 89 (0, 0))] [(0, .pure), (1, .pure), (2, .pure), (3, .pure), (4, .grow (Qj (Jp3 hb1) (fun y => y.x.val) (fun y => y.L))), (5, .pure), (6, .pure), (7, .pure), (8, .pure), (9, .pure), (10, .pure), (11, .pure), (12, .pure), (13, .pure), (14, .grow (Qj (Jp3 hb2) (fun y => y.x.val) (fun y => y.L))), (15, .pure), (16, .dep [40, 44, 47, 50, 51] (Jb6 5 89)), (17, .pure), (18, .dep [53] (Jb6 1 89))] 19 [0, 1, 2, 3, 5, 6, 9, 10, 11, 12, 13, 15, 4, 7, 8, 14, 16, 17, 18] (by kernel_rfl) (by kernel_rfl) (by first | exact (fun _ h => absurd h List.not_mem_nil) | simp [SubS] | (intro p hp; simp [hp])) ?_
   refine Jj (k := 0) rfl rfl rfl rfl rfl (fun _ hS => (J9 rfl rfl rfl)) ?_; refine Jj (k := 1) rfl rfl rfl rfl rfl (fun _ hS => (Jd rfl (.inl (hS _ (Jr (n := 0) rfl))) rfl rfl)) ?_
   refine Jj (k := 2) rfl rfl rfl rfl rfl (fun _ hS => (J9 rfl rfl rfl)) ?_; refine Jj (k := 3) rfl rfl rfl rfl rfl (fun _ hS => (Jd rfl (.inl (hS _ (Jr (n := 1) rfl))) rfl rfl)) ?_
   refine Jj (k := 5) rfl rfl rfl rfl rfl (fun _ hS => (J9 rfl rfl rfl)) ?_; refine Jj (k := 6) rfl rfl rfl rfl rfl (fun _ hS => (Jd rfl (.inl (hS _ (Jr (n := 1) rfl))) rfl rfl)) ?_
   refine Jj (k := 9) rfl rfl rfl rfl rfl (fun _ hS => (J9 rfl rfl rfl)) ?_; refine Jj (k := 10) rfl rfl rfl rfl rfl (fun _ hS => (Jo (vs := [_, _, _, _]) rfl (.inl (hS _ (Jr (n := 1) rfl))) rfl rfl rfl rfl)) ?_; refine Jj (k := 11) rfl rfl rfl rfl rfl (fun _ hS => (Js (r := [_, _, _, _, _, _, _]) rfl rfl)) ?_
   refine Jj (k := 12) rfl rfl rfl rfl rfl (fun _ hS => (J9 rfl rfl rfl)) ?_; refine Jj (k := 13) rfl rfl rfl rfl rfl (fun _ hS => (Jd rfl (.inl (hS _ (Jr (n := 1) rfl))) rfl rfl)) ?_; refine Jj (k := 15) rfl rfl rfl rfl rfl (fun _ hS => (Jo (vs := [_, _, _, _, _, _, _]) rfl (.inl (hS _ (Jr (n := 2) rfl))) rfl rfl rfl rfl)) ?_; refine Qd (k := 4) rfl rfl rfl rfl rfl Jh1 (Jaf hb1) oN fun y => ?_
   obtain ⟨⟨ya, yb, yc, yd, ybits, ypb, yitems, ypi, ypick⟩, yL, yok, yer⟩ := y
   refine Qp (k := 7) rfl rfl rfl rfl rfl q8 (V8 _) ?_; refine Jj (k := 8) rfl rfl rfl rfl rfl (fun _ hS => (Js (r := [_, _, _, _, _, _, _]) rfl rfl)) ?_; refine Qd (k := 14) rfl rfl rfl rfl rfl Jh1 (Jaf hb2) oN fun y => ?_
   obtain ⟨⟨za, zb, zc, zd, zbits, zpb, zitems, zpi, zpick⟩, zL, zok, zer⟩ := y
   refine Va (k := 16) (dv := [_, _, _, _, _]) (n := 5) (sz := 7) (vs := [_, _, _, _, _]) (zs := [_, _, _, _, _, _, _, _, _, _, _, _, _, _, _, _, _, _, _, _, _, _, _, _, _, _, _, _, _, _, _, _, _, _, _]) (r := [uV ya, uV yb, uV yc, uV yd, KL ybits.length ypb, KL yitems.length ypi, .int .i64 ypick, uV nonce, uV 0, uV 0, uV 0, .slice none 0 0, .slice none 0 0, .int .i64 0, uV ba, uV bb, uV bc, uV bd, .slice none 0 0, .slice none 0 0, .int .i64 0, uV za, uV zb, uV zc, uV zd, KL zbits.length zpb, KL zitems.length zpi, .int .i64 zpick, uV 0, uV 0, uV 0, uV 0, .slice none 0 0, KL us.length (Vc rw2), .int .i64 0]) rfl rfl rfl rfl rfl rfl rfl rfl rfl rfl rfl rfl rfl (by rw [Kt]; exact rfl) rfl fun rb => ?_; refine Jj (k := 17) rfl rfl rfl rfl rfl (fun _ hS => (Js (r := [_, _, _, _, _, _, _]) rfl rfl)) ?_; refine Va (k := 18) (dv := [_]) (n := 1) (sz := 7) (vs := [_]) (zs := [_, _, _, _, _, _, _]) (r := [.int .u64 0, .int .u64 0, .int .u64 0, .int .u64 0, .slice none 0 0, .slice (some ⟨rb, 0, none⟩) 5 5, .int .i64 0]) rfl rfl rfl rfl rfl rfl rfl rfl rfl rfl rfl rfl rfl (by rw [Kt]; exact rfl) rfl fun rc => ?_; refine Km ?_; refine Kx (Jus (M := [_, _, _, _]) ..) ?_; refine KI (L0 := _) (xs := Q3 vs) (row := row) (n := i) (sz := 7) (b := 88) (news := [_, _, _, _, _, _, _]) (List.Perm.refl _) rfl rfl rfl rfl (kn 0 rfl) rfl rfl rfl rfl rfl (by decide) rfl rfl rfl (by decide) hrow (by omega) (by omega) fun ra cap sp hra => ?_
   refine LS 1 [] rfl rfl ?_; refine KP (k := 5) (cs' := #[.int .u64 0, .int .u64 0, .int .u64 0, .int .u64 0, .slice none 0 0, JE (i + 1) (some (ra, cap, sp)), .int .i64 0]) rfl rfl rfl rfl rfl rfl rfl rfl rfl rfl ?_; refine JG 5 rfl ?_; refine J3 (show _ = Value.int .i64 ((i + 1 : Nat) : Int) from by rw [wrap_i64 (by omega) (by omega)]; congr 1 <;> omega) ?_; refine Jw 2 rfl ?_; refine Jx ?_
   have hvc : Q3 vs ++ Vl.cells (.mk 0 0 0 0 [] none [(.mk ya yb yc yd ybits ypb yitems ypi ypick), (.mk nonce 0 0 0 [] none [] none 0), (.mk ba bb bc bd [] none [] none 0), (.mk za zb zc zd zbits zpb zitems zpi zpick), .mk 0 0 0 0 [] none us (Vc rw2) 0] (some (⟨rb, 0, none⟩, 5)) 0) = Q3 (vs ++ [.mk 0 0 0 0 [] none [(.mk ya yb yc yd ybits ypb yitems ypi ypick), (.mk nonce 0 0 0 [] none [] none 0), (.mk ba bb bc bd [] none [] none 0), (.mk za zb zc zd zbits zpb zitems zpi zpick), .mk 0 0 0 0 [] none us (Vc rw2) 0] (some (⟨rb, 0, none⟩, 5)) 0]) := by unfold Q3; rw [List.flatMap_append]; simp
   refine Jdr (Juu (M := [_, _, _, _]) ..) ?_; exact Jt (i + 1, vs ++ [.mk 0 0 0 0 [] none [(.mk ya yb yc yd ybits ypb yitems ypi ypick), (.mk nonce 0 0 0 [] none [] none 0), (.mk ba bb bc bd [] none [] none 0), (.mk za zb zc zd zbits zpb zitems zpi zpick), .mk 0 0 0 0 [] none us (Vc rw2) 0] (some (⟨rb, 0, none⟩, 5)) 0], some (ra, cap, sp), _ :: (zL ++ (yL ++ (_ ++ (F ++ E))))) ⟨by simp only; omega, by simp only; rw [← hvc]; exact hra, fun z hz => Jx7 hin (KF hrow2 (by decide)) hul hb3 hin2 hnu hba yok zok hz, Jx8 her ha yer zer her2⟩ (by simp only; omega) (lK rfl) (by simp only; rw [← hvc]; exact .cons _ (.cons _ (.cons _ (List.Sublist.refl _)))) (fun _ _ h => h)
 ·refine JN 6 rfl ?_
  have honeV : ([.int .u64 0, .int .u64 0, .int .u64 0, .int .u64 0, .slice none 0 0, JE i row, .int .i64 0] : List Value).all Q2 = true := by cases row <;> rfl
  refine Jq 1 rfl ?_; refine LR rfl (Jh (xs := [.int .u64 0, .int .u64 0, .int .u64 0, .int .u64 0, .slice none 0 0, JE i row, .int .i64 0]) (n := 7) rfl (kn 0 rfl) rfl rfl rfl) ?_; refine Jk (k := 1) (n := 7) (ys := [.int .u64 0, .int .u64 0, .int .u64 0, .int .u64 0, .slice none 0 0, JE i row, .int .i64 0]) rfl rfl rfl rfl rfl rfl rfl honeV rfl ?_; refine Jw 3 rfl ?_; refine Jg rfl rfl (.cons (Jy (vs := [_, _, _, _, _, _, _]) rfl (kn 1 rfl) rfl rfl) .nil) (fun w1 hs1 => ?_)
  have hiM : i = accts.length := by omega
  have hvl : vs.length = i := by have := congrArg List.length her; simp at this; omega
  rw [hiM, List.take_length] at her; rw [← hvl] at hrow
  have hvr : JE i row = KL vs.length (Vc row) := by rw [← hvl]; exact (Xi _ _ (fun h => by rw [h] at hrow; exact hrow.1)).symm
  exact ⟨⟨.mk 0 0 0 0 [] none vs (Vc row) 0, JP 89 (Q3 vs) row ++ E, Jdq (by omega) (KF hrow (by decide)) hin i0, by rw [W8, WN, her]; exact Jx9 ..⟩, congrArg (fun z => Ending.returned (Value.agg #[.int .u64 0, .int .u64 0, .int .u64 0, .int .u64 0, .slice none 0 0, z, .int .i64 0])) hvr, hs1.weakL (.cons _ (.cons _ (List.Sublist.refl _)))⟩
def vA (x : AcL) : Value := .agg (AcL.cells x).toArray
theorem Jah (x : AcL) : Pure Tryz.prog 98 [vA x].toArray (J4 (AcL.addr x)) := by
 refine Jm Tryz.func98 rfl rfl fun w => ?_; refine JA ?_; refine Jq 2 rfl ?_; refine LN rfl fun r1 => ?_; refine Goq 11 [0] rfl rfl ?_; refine pT rfl rfl rfl fun w1 hs1 => ?_; exact ⟨rfl, hs1.keep⟩
theorem Jp5 {R : Ji} {xs : List AcL} {p : Pl} (hl : xs.length ≤ 9223372036854775807) (hs : Seg R xs.length (xs.flatMap AcL.cells) p) {g : FuncId} {caps : List Value} {pr : AcL → Bool} (eg : Enters Tryz.prog g) (hg : ∀ x ∈ xs, PureR Tryz.prog g (vA x :: caps).toArray (.bool (pr x)) R) :
  PureR Tryz.prog 42 [KL xs.length p, .func (.func g) #[] caps.toArray].toArray (.int .i64 (Yp pr xs)) R := by
 refine Ja Tryz.func42 rfl rfl fun w => ?_; refine JA ?_; refine Jq 9 rfl ?_; refine LR rfl (J1 rfl hs rfl) ?_; refine JK 4 rfl ?_; refine J0 (σ := Nat) (fun i => i ≤ xs.length ∧ ∀ j, j < i → ∀ y, xs[j]? = some y → pr y = false) (fun i => [(0, KL xs.length p), (1, .func (.func g) #[] caps.toArray), (7, .int .i64 (xs.length : Int)), (8, .int .i64 (i : Int))]) (fun _ => []) (fun _ _ _ => True) (fun i => xs.length - i) 0 ⟨by omega, fun j hj => absurd hj (by omega)⟩ (lK rfl) (List.nil_sublist _) (fun _ _ h => h) ?_; rintro i ⟨hi1, hinv⟩; refine JN 6 rfl ?_; refine cD (fun h6 => ?_) fun h6 => ?_
 refine JN 11 rfl ?_
 obtain ⟨x, hx, hmx⟩ := Q4 (show i < xs.length by omega)
 refine Jq 4 rfl ?_
 refine LR rfl (Jp (j := i) rfl hs rfl rfl rfl (by first | rfl | omega) (by omega)) ?_; refine LR rfl (Ka AcL.len oR rfl hs hx rfl rfl) ?_; refine Je rfl rfl rfl eg (hg x hmx) oR ?_; refine JK 2 rfl ?_; refine cD (fun h10 => ?_) fun h10 => ?_
 refine Ko 12 rfl ?_; refine pT rfl rfl rfl fun w1 hs1 => ?_; refine ⟨?_, hs1.keep⟩; rw [Jcm hx (by assumption) hinv]; rfl
 refine Jq 5 rfl ?_; refine Jc (by omega) (by omega) ?_; refine Jw 2 rfl ?_; refine Jx ?_
 exact Jt (i + 1) ⟨by omega, fun j hj y hy => by
  rcases Nat.lt_succ_iff_lt_or_eq.1 hj with hj | rfl
  exact hinv j hj y hy
  rw [hx] at hy; cases hy; assumption⟩ (by omega) (lK rfl) (List.nil_sublist _) (fun _ _ h => h)
 ·refine Ko 11 rfl ?_; refine pT rfl rfl rfl fun w1 hs1 => ?_; refine ⟨?_, hs1.keep⟩; rw [Jcl fun j x hx => hinv j (by have := (List.getElem?_eq_some_iff.1 hx).1; omega) x hx]; rfl
theorem Jp6 {R : Ji} {xs : List AcL} {p : Pl} (hl : xs.length ≤ 9223372036854775807) (hs : Seg R xs.length (xs.flatMap AcL.cells) p) :
  PureR Tryz.prog 97 [KL xs.length p, fV 98].toArray (.bool (QI AcL.addr xs)) R := by
 refine Ja Tryz.func97 rfl rfl fun w => ?_; refine JA ?_; refine JN 12 rfl ?_; refine J0 (σ := Nat) (fun i => (i = 0 ∨ i < xs.length) ∧ ∀ j x y, j < i → xs[j]? = some x → xs[j + 1]? = some y → Op.bytesLess (AcL.addr x) (AcL.addr y) = true) (fun i => [(0, KL xs.length p), (1, fV 98), (5, .int .i64 ((i + 1 : Nat) : Int))]) (fun _ => []) (fun _ _ _ => True) (fun i => xs.length - i) 0 ⟨.inl rfl, fun j _ _ hj => absurd hj (by omega)⟩ (lK rfl) (List.nil_sublist _) (fun _ _ h => h) ?_; rintro i ⟨hi1, hinv⟩; refine Jq 5 rfl ?_; refine LR rfl (J1 rfl hs rfl) ?_; refine JK 3 rfl ?_; refine cD (fun g => ?_) fun g => ?_
 refine JN 5 rfl ?_
 obtain ⟨x, hx, hmx⟩ := Q4 (show i < xs.length by omega)
 obtain ⟨y, hy, hmy⟩ := Q4 (show i + 1 < xs.length by omega)
 refine JD 14 (by kernel_rfl) (by kernel_rfl) ?_; refine Jb rfl rfl rfl (Jf rfl) ?_; refine Jb rfl rfl rfl (Jf rfl) ?_; refine Jb rfl rfl rfl (Jf rfl) ?_; refine Jb rfl rfl rfl (Jv rfl rfl rfl) ?_; refine QD (by omega) (by omega) ?_
 refine Jb rfl rfl rfl (Jp (j := i) rfl hs rfl rfl rfl (by first | rfl | omega) (by omega)) ?_; refine Jb rfl rfl rfl (Ka AcL.len oR rfl hs hx rfl rfl) ?_; refine Kl rfl rfl rfl Jtp (Jah x) ?_; refine Jb rfl rfl rfl (Jf rfl) ?_; refine Jb rfl rfl rfl (Jf rfl) ?_; refine Jb rfl rfl rfl (Jf rfl) ?_
 refine Jb rfl rfl rfl (Jp (j := (i + 1)) rfl hs rfl rfl rfl (by first | rfl | omega) (by omega)) ?_; refine Jb rfl rfl rfl (Ka AcL.len oR rfl hs hy rfl rfl) ?_; refine Kl rfl rfl rfl Jtp (Jah y) ?_; refine Jb rfl rfl rfl (Jhr rfl rfl) ?_; refine JS ?_; refine JK 2 rfl ?_; refine cD (fun g => ?_) fun g => ?_
 refine Ko 11 rfl ?_; refine pT rfl rfl rfl fun w1 hs1 => ?_; refine ⟨?_, hs1.keep⟩; rw [jv hx hy (by simp_all)]; rfl
 refine Jq 6 rfl ?_; refine Jc (by omega) (by omega) ?_; refine Jw 2 rfl ?_; refine Jx ?_
 exact Jt (i + 1) ⟨.inr (by omega), fun j u v hj hu hv => by
  rcases Nat.lt_succ_iff_lt_or_eq.1 hj with hj | rfl
  exact hinv j u v hj hu hv
  rw [hx] at hu; rw [hy] at hv; cases hu; cases hv; simp_all⟩ (by omega) (lK rfl) (List.nil_sublist _) (fun _ _ h => h)
 ·refine Ko 11 rfl ?_; refine pT rfl rfl rfl fun w1 hs1 => ?_; refine ⟨?_, hs1.keep⟩; rw [Zf fun j u v hu hv => hinv j u v (by have := (List.getElem?_eq_some_iff.1 hv).1; omega) hu hv]; rfl
def vS (x : (BS × BS)) : Value := .agg (Q6 x).toArray
theorem Jai (x : (BS × BS)) : Pure Tryz.prog 156 [vS x].toArray (J4 (Prod.fst x)) := by
 refine Jm Tryz.func156 rfl rfl fun w => ?_; refine JA ?_; refine Jq 2 rfl ?_; refine LN rfl fun r1 => ?_; refine Goq 11 [0] rfl rfl ?_; refine pT rfl rfl rfl fun w1 hs1 => ?_; exact ⟨rfl, hs1.keep⟩
theorem wI {R : Ji} {xs : List (BS × BS)} {p : Pl} (hl : xs.length ≤ 9223372036854775807) (hs : Seg R xs.length (xs.flatMap Q6) p) {g : FuncId} {caps : List Value} {pr : (BS × BS) → Bool} (eg : Enters Tryz.prog g) (hg : ∀ x ∈ xs, PureR Tryz.prog g (vS x :: caps).toArray (.bool (pr x)) R) :
  PureR Tryz.prog 114 [KL xs.length p, .func (.func g) #[] caps.toArray].toArray (.int .i64 (Yp pr xs)) R := by
 refine Ja Tryz.func114 rfl rfl fun w => ?_; refine JA ?_; refine Jq 9 rfl ?_; refine LR rfl (J1 rfl hs rfl) ?_; refine JK 4 rfl ?_; refine J0 (σ := Nat) (fun i => i ≤ xs.length ∧ ∀ j, j < i → ∀ y, xs[j]? = some y → pr y = false) (fun i => [(0, KL xs.length p), (1, .func (.func g) #[] caps.toArray), (7, .int .i64 (xs.length : Int)), (8, .int .i64 (i : Int))]) (fun _ => []) (fun _ _ _ => True) (fun i => xs.length - i) 0 ⟨by omega, fun j hj => absurd hj (by omega)⟩ (lK rfl) (List.nil_sublist _) (fun _ _ h => h) ?_; rintro i ⟨hi1, hinv⟩; refine JN 6 rfl ?_; refine cD (fun h6 => ?_) fun h6 => ?_
 refine JN 11 rfl ?_
 obtain ⟨x, hx, hmx⟩ := Q4 (show i < xs.length by omega)
 refine Jq 4 rfl ?_
 refine LR rfl (Jp (j := i) rfl hs rfl rfl rfl (by first | rfl | omega) (by omega)) ?_; refine LR rfl (Ka Kf oR rfl hs hx rfl rfl) ?_; refine Je rfl rfl rfl eg (hg x hmx) oR ?_; refine JK 2 rfl ?_; refine cD (fun h10 => ?_) fun h10 => ?_
 refine Ko 12 rfl ?_; refine pT rfl rfl rfl fun w1 hs1 => ?_; refine ⟨?_, hs1.keep⟩; rw [Jcm hx (by assumption) hinv]; rfl
 refine Jq 5 rfl ?_; refine Jc (by omega) (by omega) ?_; refine Jw 2 rfl ?_; refine Jx ?_
 exact Jt (i + 1) ⟨by omega, fun j hj y hy => by
  rcases Nat.lt_succ_iff_lt_or_eq.1 hj with hj | rfl
  exact hinv j hj y hy
  rw [hx] at hy; cases hy; assumption⟩ (by omega) (lK rfl) (List.nil_sublist _) (fun _ _ h => h)
 ·refine Ko 11 rfl ?_; refine pT rfl rfl rfl fun w1 hs1 => ?_; refine ⟨?_, hs1.keep⟩; rw [Jcl fun j x hx => hinv j (by have := (List.getElem?_eq_some_iff.1 hx).1; omega) x hx]; rfl
theorem Jp7 {R : Ji} {xs : List (BS × BS)} {p : Pl} (hl : xs.length ≤ 9223372036854775807) (hs : Seg R xs.length (xs.flatMap Q6) p) :
  PureR Tryz.prog 155 [KL xs.length p, fV 156].toArray (.bool (QI Prod.fst xs)) R := by
 refine Ja Tryz.func155 rfl rfl fun w => ?_; refine JA ?_; refine JN 12 rfl ?_; refine J0 (σ := Nat) (fun i => (i = 0 ∨ i < xs.length) ∧ ∀ j x y, j < i → xs[j]? = some x → xs[j + 1]? = some y → Op.bytesLess (Prod.fst x) (Prod.fst y) = true) (fun i => [(0, KL xs.length p), (1, fV 156), (5, .int .i64 ((i + 1 : Nat) : Int))]) (fun _ => []) (fun _ _ _ => True) (fun i => xs.length - i) 0 ⟨.inl rfl, fun j _ _ hj => absurd hj (by omega)⟩ (lK rfl) (List.nil_sublist _) (fun _ _ h => h) ?_; rintro i ⟨hi1, hinv⟩; refine Jq 5 rfl ?_; refine LR rfl (J1 rfl hs rfl) ?_; refine JK 3 rfl ?_; refine cD (fun g => ?_) fun g => ?_
 refine JN 5 rfl ?_
 obtain ⟨x, hx, hmx⟩ := Q4 (show i < xs.length by omega)
 obtain ⟨y, hy, hmy⟩ := Q4 (show i + 1 < xs.length by omega)
 refine JD 14 (by kernel_rfl) (by kernel_rfl) ?_; refine Jb rfl rfl rfl (Jf rfl) ?_; refine Jb rfl rfl rfl (Jf rfl) ?_; refine Jb rfl rfl rfl (Jf rfl) ?_; refine Jb rfl rfl rfl (Jv rfl rfl rfl) ?_; refine QD (by omega) (by omega) ?_
 refine Jb rfl rfl rfl (Jp (j := i) rfl hs rfl rfl rfl (by first | rfl | omega) (by omega)) ?_; refine Jb rfl rfl rfl (Ka Kf oR rfl hs hx rfl rfl) ?_; refine Kl rfl rfl rfl Jh3 (Jai x) ?_; refine Jb rfl rfl rfl (Jf rfl) ?_; refine Jb rfl rfl rfl (Jf rfl) ?_; refine Jb rfl rfl rfl (Jf rfl) ?_
 refine Jb rfl rfl rfl (Jp (j := (i + 1)) rfl hs rfl rfl rfl (by first | rfl | omega) (by omega)) ?_; refine Jb rfl rfl rfl (Ka Kf oR rfl hs hy rfl rfl) ?_; refine Kl rfl rfl rfl Jh3 (Jai y) ?_; refine Jb rfl rfl rfl (Jhr rfl rfl) ?_; refine JS ?_; refine JK 2 rfl ?_; refine cD (fun g => ?_) fun g => ?_
 refine Ko 11 rfl ?_; refine pT rfl rfl rfl fun w1 hs1 => ?_; refine ⟨?_, hs1.keep⟩; rw [jv hx hy (by simp_all)]; rfl
 refine Jq 6 rfl ?_; refine Jc (by omega) (by omega) ?_; refine Jw 2 rfl ?_; refine Jx ?_
 exact Jt (i + 1) ⟨.inr (by omega), fun j u v hj hu hv => by
  rcases Nat.lt_succ_iff_lt_or_eq.1 hj with hj | rfl
  exact hinv j u v hj hu hv
  rw [hx] at hu; rw [hy] at hv; cases hu; cases hv; simp_all⟩ (by omega) (lK rfl) (List.nil_sublist _) (fun _ _ h => h)
 ·refine Ko 11 rfl ?_; refine pT rfl rfl rfl fun w1 hs1 => ?_; refine ⟨?_, hs1.keep⟩; rw [Zf fun j u v hu hv => hinv j u v (by have := (List.getElem?_eq_some_iff.1 hv).1; omega) hu hv]; rfl
theorem Juw (a : BS) : (!decide (a = a)) = false := by simp
theorem Ji6 (a : BS) : Pure Tryz.prog 126 [J4 a].toArray (.bool false) := by
 refine Jm Tryz.func126 rfl rfl fun w => ?_; refine JA ?_; refine Jq 9 rfl ?_; refine LR rfl (Yj rfl rfl) ?_; refine J3 (congrArg Value.bool (Juw a)) ?_; refine Jw 4 rfl ?_; refine pT rfl rfl rfl fun w1 hs1 => ?_; exact ⟨rfl, hs1.keep⟩
theorem zv (a b : BS) : Pure Tryz.prog 76 [J4 a, J4 b].toArray (.int .i64 (XS a b)) := by
 refine Jm Tryz.func76 rfl rfl fun w => ?_; refine JA ?_; refine Jq 8 rfl ?_; refine Jn rfl rfl rfl (enters_of Tryz.func126 (by kernel_rfl) rfl) (Ji6 a) ?_; refine JG 6 rfl ?_; refine Jn rfl rfl rfl (enters_of Tryz.func126 (by kernel_rfl) rfl) (Ji6 b) ?_; refine JK 9 rfl ?_; refine Jz rfl (fun g => ?_) (fun g => ?_)
 try exact Bool.noConfusion g
 ·try simp only [ZZ] at g
  refine JN 8 rfl ?_; refine Jz rfl (fun g => ?_) (fun g => ?_)
  try exact Bool.noConfusion g
  ·try simp only [ZZ] at g
   refine Jq 7 rfl ?_; refine LR rfl (Jsl rfl rfl) ?_; refine JK 2 rfl ?_; refine cD (fun g => ?_) fun g => ?_
   refine Ko 7 rfl ?_; refine pT rfl rfl rfl fun w1 hs1 => ?_; refine ⟨?_, hs1.keep⟩
   unfold XS
   simp_all [JB]
   ·refine Jq 7 rfl ?_; refine LR rfl (Js8 rfl rfl) ?_; refine JK 2 rfl ?_; refine cD (fun g => ?_) fun g => ?_
    refine Ko 7 rfl ?_; refine pT rfl rfl rfl fun w1 hs1 => ?_; refine ⟨?_, hs1.keep⟩
    unfold XS
    simp_all [JB]
    ·refine Ko 8 rfl ?_; refine pT rfl rfl rfl fun w1 hs1 => ?_; refine ⟨?_, hs1.keep⟩
     unfold XS
     simp_all [JB]
theorem Jp8 : Lib.repeatL [0] 32 = Vb := by decide +kernel
theorem Jf2 : Pure Tryz.prog 116 [].toArray (J4 Vb) := by
 rw [← Jp8]; refine Jm Tryz.func116 rfl rfl fun w => ?_; refine JA ?_; refine Jq 7 rfl ?_; refine Jn rfl rfl rfl (enters_of Tryz.func189 (by kernel_rfl) rfl) (zh (n := 32) (by decide)) ?_; refine Jw 4 rfl ?_; refine pT rfl rfl rfl fun w1 hs1 => ?_; exact ⟨rfl, hs1.keep⟩
theorem J0c {R : Ji} {rb e : Nat} (hb : (rb, Obj.cells #[fV 98] e (0, 0)) ∈ R) (x : AcL) (k : BS) : PureR Tryz.prog 351 [vA x, J4 k, .pointer (some ⟨rb, 0, none⟩)].toArray (.int .i64 (XS (AcL.addr x) k)) R := by
 refine Ja Tryz.func351 rfl rfl fun w => ?_; refine JA ?_; refine Jq 2 rfl ?_; refine LN rfl fun r1 => ?_; refine JG 5 rfl ?_; refine LR rfl (Jd rfl (Or.inr hb) rfl rfl) ?_; refine LR rfl (Jo (vs := [_, _, _, _, _, _, _, _]) rfl (kn 0 rfl) rfl rfl rfl rfl) ?_; refine Jn rfl rfl rfl Jtp (Jah x) ?_; refine QL rfl (Jn rfl rfl rfl (enters_of Tryz.func76 (by kernel_rfl) rfl) (zv (AcL.addr x) k) (Jw 4 rfl ?_)); refine pT rfl rfl rfl fun w1 hs1 => ?_; exact ⟨rfl, hs1.keep⟩
theorem Jlk {R : Ji} {xs : List AcL} {p : Pl} (hl : xs.length ≤ 1000) (hs : Seg R xs.length (xs.flatMap AcL.cells) p) (hso : Ky AcL.addr xs) {k : BS} {g : FuncId} {caps : List Value} (eg : Enters Tryz.prog g) (hg : ∀ x ∈ xs, PureR Tryz.prog g (vA x :: J4 k :: caps).toArray (.int .i64 (XS (AcL.addr x) k)) R) :
  PureR Tryz.prog 350 [KL xs.length p, J4 k, .func (.func g) #[] caps.toArray].toArray (.tuple #[.int .i64 (ZM AcL.addr k xs : Nat), .bool (V2 AcL.addr k xs)]) R := by
 refine Ja Tryz.func350 rfl rfl fun w => ?_; refine JA ?_; refine Jq 9 rfl ?_; refine LR rfl (J1 rfl hs rfl) ?_; refine JK 12 rfl ?_; refine J0 (σ := Nat × Nat) (fun s => (s.1 ≤ s.2 ∧ s.2 ≤ xs.length) ∧ (∀ q y, q < s.1 → xs[q]? = some y → Op.bytesLess (AcL.addr y) k = true) ∧ ∀ q y, s.2 ≤ q → xs[q]? = some y → Op.bytesLess (AcL.addr y) k = false) (fun s => [(0, KL xs.length p), (1, J4 k), (2, .func (.func g) #[] caps.toArray), (8, .int .i64 (xs.length : Int)), (9, .int .i64 (s.1 : Int)), (10, .int .i64 (s.2 : Int))]) (fun _ => []) (fun _ _ _ => True) (fun s => s.2 - s.1) (0, xs.length) ⟨⟨Nat.zero_le _, Nat.le_refl _⟩, fun q _ hq => absurd hq (Nat.not_lt_zero q), fun q y hq hy => absurd (List.getElem?_eq_some_iff.1 hy).1 (by omega)⟩ (lK rfl) (List.nil_sublist _) (fun _ _ h => h) ?_; rintro ⟨i, j⟩ ⟨⟨hi0, hj0⟩, hi1, hi2⟩; simp only at hi0 hj0 hi1 hi2; change HC _ _ [(0, _), (1, _), (2, _), (8, _), (9, .int .i64 (i : Int)), (10, .int .i64 (j : Int))] _ _ _ _; refine JN 8 rfl ?_; refine cD (fun h7 => ?_) fun h7 => ?_
 refine Jq 8 rfl ?_; refine Jc (by omega) (by omega) ?_; refine VQ rfl (Wn (by omega) (by omega) (LR rfl (vE (n := 1) (b := (((i + j) / 2 : Nat) : Int)) rfl rfl rfl (by decide) (by omega) (by omega)) ?_)); refine VQ rfl (Jc (by omega) (by omega) (JK 4 rfl ?_))
 obtain ⟨x, hx, hmx⟩ := Q4 (show (i + j) / 2 < xs.length by omega)
 refine Jq 4 rfl ?_
 refine LR rfl (Jp (j := ((i + j) / 2)) rfl hs rfl rfl rfl (by first | rfl | omega) (by omega)) ?_; refine LR rfl (Ka AcL.len oR rfl hs hx rfl rfl) ?_; refine QL rfl (Je rfl rfl rfl eg (hg x hmx) oR ?_); refine VQ rfl (J3 (congrArg Value.bool (vi (AcL.addr x) k)) (JK 2 rfl ?_)); refine cD (fun h10 => ?_) fun h10 => ?_
 refine Jq 3 rfl ?_; refine Jc (by omega) (by omega) ?_; refine Jw 3 rfl ?_; refine Jx ?_; exact Jt ((i + j) / 2 + 1, j) ⟨⟨by simp only; omega, hj0⟩, Jco hso hx (by assumption), hi2⟩ (by simp only; omega) (lK rfl) (List.nil_sublist _) (fun _ _ h => h)
 refine Ko 5 rfl ?_; refine Jx ?_; exact Jt (i, (i + j) / 2) ⟨⟨by simp only; omega, by simp only; omega⟩, hi1, Jcp hso hx (by assumption)⟩ (by simp only; omega) (lK rfl) (List.nil_sublist _) (fun _ _ h => h)
 ·refine JN 6 rfl ?_
  have hij : i = j := by omega
  have hlo : i = ZM AcL.addr k xs := Jny (by omega) hi1 (fun y hy => hi2 i y (by omega) hy)
  refine Jq 6 rfl ?_
  refine J8 39 rfl (fun gb => ?_) (fun gb => ?_) <;> (try simp only [ZZ] at gb) <;> first | (refine QL rfl ?_) | (refine LK rfl ?_)
  all_goals refine LW 2 [] rfl rfl ?_
  all_goals first | (obtain ⟨x, hx, hmx⟩ := Q4 (show i < xs.length by omega); refine LR rfl (Jp (j := i) rfl hs rfl rfl rfl (by first | rfl | omega) (by omega)) ?_) | refine LK rfl ?_
  all_goals first | refine LR rfl (Ka AcL.len oR rfl hs hx rfl rfl) ?_ | refine LK rfl ?_
  all_goals refine LW 1 [] rfl rfl ?_
  all_goals first | refine Je rfl rfl rfl eg (hg x hmx) oR ?_ | refine LK rfl ?_
  all_goals first | (refine VQ rfl ?_; refine J3 (congrArg Value.bool (Jcn (AcL.addr x) k)) ?_) | refine LK rfl ?_
  all_goals (
   refine LW 1 [] rfl rfl (Jw 3 rfl (ZK 2 rfl ?_)); refine Jg rfl rfl (.cons (Jl rfl) (.cons (Jl rfl) .nil)) (fun w1 hs1 => ?_); refine ⟨?_, hs1.keep⟩
   first | (rw [← Jcq (kf := AcL.addr) (hlo ▸ hx), ← hlo]; rfl) | (rw [qb (kf := AcL.addr) (by omega), ← hlo]; rfl)
   skip)
theorem Jp9 {R : Ji} {xs : List AcL} {p : Pl} (hl : xs.length ≤ 1000) (hs : Seg R xs.length (xs.flatMap AcL.cells) p) (hso : Ky AcL.addr xs) {k : BS} :
  PureR Tryz.prog 322 [KL xs.length p, J4 k, fV 98].toArray (.tuple #[.int .i64 (ZM AcL.addr k xs : Nat), .bool (V2 AcL.addr k xs)]) R := by
 refine Ja Tryz.func322 rfl rfl fun w => ?_; refine JA ?_; refine Jq 2 rfl ?_; refine LN rfl fun r1 => ?_; refine JG 8 rfl ?_; refine LR rfl (JC rfl rfl) ?_; refine Je (Rl := (r1, Obj.cells #[fV 98] _ (0, 0)) :: R) rfl rfl rfl (enters_of Tryz.func350 (by kernel_rfl) rfl) (Jlk (caps := [.pointer (some ⟨r1, 0, none⟩)]) hl (hs.mono fun q hq => List.mem_cons_of_mem _ hq) hso (enters_of Tryz.func351 (by kernel_rfl) rfl) (fun x hx => J0c List.mem_cons_self x k)) (fun q hq => (List.mem_cons.1 hq).elim (fun h => Or.inl (by rw [h]; exact List.mem_cons_self)) Or.inr) ?_; refine Jw 7 rfl ?_; refine Jg rfl rfl (.cons (Jl rfl) (.cons (Jl rfl) .nil)) (fun w1 hs1 => ?_); exact ⟨rfl, hs1.keep⟩
theorem J0d {R : Ji} {rb e : Nat} (hb : (rb, Obj.cells #[fV 156] e (0, 0)) ∈ R) (x : (BS × BS)) (k : BS) : PureR Tryz.prog 355 [vS x, J4 k, .pointer (some ⟨rb, 0, none⟩)].toArray (.int .i64 (XS (Prod.fst x) k)) R := by
 refine Ja Tryz.func355 rfl rfl fun w => ?_; refine JA ?_; refine Jq 2 rfl ?_; refine LN rfl fun r1 => ?_; refine JG 5 rfl ?_; refine LR rfl (Jd rfl (Or.inr hb) rfl rfl) ?_; refine LR rfl (Jo (vs := [_, _]) rfl (kn 0 rfl) rfl rfl rfl rfl) ?_; refine Jn rfl rfl rfl Jh3 (Jai x) ?_; refine QL rfl (Jn rfl rfl rfl (enters_of Tryz.func76 (by kernel_rfl) rfl) (zv (Prod.fst x) k) (Jw 4 rfl ?_)); refine pT rfl rfl rfl fun w1 hs1 => ?_; exact ⟨rfl, hs1.keep⟩
theorem Jll {R : Ji} {xs : List (BS × BS)} {p : Pl} (hl : xs.length ≤ 1000) (hs : Seg R xs.length (xs.flatMap Q6) p) (hso : Ky Prod.fst xs) {k : BS} {g : FuncId} {caps : List Value} (eg : Enters Tryz.prog g) (hg : ∀ x ∈ xs, PureR Tryz.prog g (vS x :: J4 k :: caps).toArray (.int .i64 (XS (Prod.fst x) k)) R) :
  PureR Tryz.prog 354 [KL xs.length p, J4 k, .func (.func g) #[] caps.toArray].toArray (.tuple #[.int .i64 (ZM Prod.fst k xs : Nat), .bool (V2 Prod.fst k xs)]) R := by
 refine Ja Tryz.func354 rfl rfl fun w => ?_; refine JA ?_; refine Jq 9 rfl ?_; refine LR rfl (J1 rfl hs rfl) ?_; refine JK 12 rfl ?_; refine J0 (σ := Nat × Nat) (fun s => (s.1 ≤ s.2 ∧ s.2 ≤ xs.length) ∧ (∀ q y, q < s.1 → xs[q]? = some y → Op.bytesLess (Prod.fst y) k = true) ∧ ∀ q y, s.2 ≤ q → xs[q]? = some y → Op.bytesLess (Prod.fst y) k = false) (fun s => [(0, KL xs.length p), (1, J4 k), (2, .func (.func g) #[] caps.toArray), (8, .int .i64 (xs.length : Int)), (9, .int .i64 (s.1 : Int)), (10, .int .i64 (s.2 : Int))]) (fun _ => []) (fun _ _ _ => True) (fun s => s.2 - s.1) (0, xs.length) ⟨⟨Nat.zero_le _, Nat.le_refl _⟩, fun q _ hq => absurd hq (Nat.not_lt_zero q), fun q y hq hy => absurd (List.getElem?_eq_some_iff.1 hy).1 (by omega)⟩ (lK rfl) (List.nil_sublist _) (fun _ _ h => h) ?_; rintro ⟨i, j⟩ ⟨⟨hi0, hj0⟩, hi1, hi2⟩; simp only at hi0 hj0 hi1 hi2; change HC _ _ [(0, _), (1, _), (2, _), (8, _), (9, .int .i64 (i : Int)), (10, .int .i64 (j : Int))] _ _ _ _; refine JN 8 rfl ?_; refine cD (fun h7 => ?_) fun h7 => ?_
 refine Jq 8 rfl ?_; refine Jc (by omega) (by omega) ?_; refine VQ rfl (Wn (by omega) (by omega) (LR rfl (vE (n := 1) (b := (((i + j) / 2 : Nat) : Int)) rfl rfl rfl (by decide) (by omega) (by omega)) ?_)); refine VQ rfl (Jc (by omega) (by omega) (JK 4 rfl ?_))
 obtain ⟨x, hx, hmx⟩ := Q4 (show (i + j) / 2 < xs.length by omega)
 refine Jq 4 rfl ?_
 refine LR rfl (Jp (j := ((i + j) / 2)) rfl hs rfl rfl rfl (by first | rfl | omega) (by omega)) ?_; refine LR rfl (Ka Kf oR rfl hs hx rfl rfl) ?_; refine QL rfl (Je rfl rfl rfl eg (hg x hmx) oR ?_); refine VQ rfl (J3 (congrArg Value.bool (vi (Prod.fst x) k)) (JK 2 rfl ?_)); refine cD (fun h10 => ?_) fun h10 => ?_
 refine Jq 3 rfl ?_; refine Jc (by omega) (by omega) ?_; refine Jw 3 rfl ?_; refine Jx ?_; exact Jt ((i + j) / 2 + 1, j) ⟨⟨by simp only; omega, hj0⟩, Jco hso hx (by assumption), hi2⟩ (by simp only; omega) (lK rfl) (List.nil_sublist _) (fun _ _ h => h)
 refine Ko 5 rfl ?_; refine Jx ?_; exact Jt (i, (i + j) / 2) ⟨⟨by simp only; omega, by simp only; omega⟩, hi1, Jcp hso hx (by assumption)⟩ (by simp only; omega) (lK rfl) (List.nil_sublist _) (fun _ _ h => h)
 ·refine JN 6 rfl ?_
  have hij : i = j := by omega
  have hlo : i = ZM Prod.fst k xs := Jny (by omega) hi1 (fun y hy => hi2 i y (by omega) hy)
  refine Jq 6 rfl ?_
  refine J8 39 rfl (fun gb => ?_) (fun gb => ?_) <;> (try simp only [ZZ] at gb) <;> first | (refine QL rfl ?_) | (refine LK rfl ?_)
  all_goals refine LW 2 [] rfl rfl ?_
  all_goals first | (obtain ⟨x, hx, hmx⟩ := Q4 (show i < xs.length by omega); refine LR rfl (Jp (j := i) rfl hs rfl rfl rfl (by first | rfl | omega) (by omega)) ?_) | refine LK rfl ?_
  all_goals first | refine LR rfl (Ka Kf oR rfl hs hx rfl rfl) ?_ | refine LK rfl ?_
  all_goals refine LW 1 [] rfl rfl ?_
  all_goals first | refine Je rfl rfl rfl eg (hg x hmx) oR ?_ | refine LK rfl ?_
  all_goals first | (refine VQ rfl ?_; refine J3 (congrArg Value.bool (Jcn (Prod.fst x) k)) ?_) | refine LK rfl ?_
  all_goals (
   refine LW 1 [] rfl rfl (Jw 3 rfl (ZK 2 rfl ?_)); refine Jg rfl rfl (.cons (Jl rfl) (.cons (Jl rfl) .nil)) (fun w1 hs1 => ?_); refine ⟨?_, hs1.keep⟩
   first | (rw [← Jcq (kf := Prod.fst) (hlo ▸ hx), ← hlo]; rfl) | (rw [qb (kf := Prod.fst) (by omega), ← hlo]; rfl)
   skip)
theorem Jqa {R : Ji} {xs : List (BS × BS)} {p : Pl} (hl : xs.length ≤ 1000) (hs : Seg R xs.length (xs.flatMap Q6) p) (hso : Ky Prod.fst xs) {k : BS} :
  PureR Tryz.prog 324 [KL xs.length p, J4 k, fV 156].toArray (.tuple #[.int .i64 (ZM Prod.fst k xs : Nat), .bool (V2 Prod.fst k xs)]) R := by
 refine Ja Tryz.func324 rfl rfl fun w => ?_; refine JA ?_; refine Jq 2 rfl ?_; refine LN rfl fun r1 => ?_; refine JG 8 rfl ?_; refine LR rfl (JC rfl rfl) ?_; refine Je (Rl := (r1, Obj.cells #[fV 156] _ (0, 0)) :: R) rfl rfl rfl (enters_of Tryz.func354 (by kernel_rfl) rfl) (Jll (caps := [.pointer (some ⟨r1, 0, none⟩)]) hl (hs.mono fun q hq => List.mem_cons_of_mem _ hq) hso (enters_of Tryz.func355 (by kernel_rfl) rfl) (fun x hx => J0d List.mem_cons_self x k)) (fun q hq => (List.mem_cons.1 hq).elim (fun h => Or.inl (by rw [h]; exact List.mem_cons_self)) Or.inr) ?_; refine Jw 7 rfl ?_; refine Jg rfl rfl (.cons (Jl rfl) (.cons (Jl rfl) .nil)) (fun w1 hs1 => ?_); exact ⟨rfl, hs1.keep⟩
end Go.Proofs.YtfaagelglpgpkaaGreatDoor
