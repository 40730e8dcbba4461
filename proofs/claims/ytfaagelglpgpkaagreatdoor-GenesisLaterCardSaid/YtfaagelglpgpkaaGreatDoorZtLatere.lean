import Derived.Test.YtfaagelglpgpkaaGreatDoorZtLaterd
set_option maxRecDepth 100000
namespace Go.Proofs.YtfaagelglpgpkaaGreatDoor
set_option linter.all false
open Go.SL Go.RowKit Go.Shelf
theorem Jeo {R : Jm} {xs : List AcL} {p : Pl} (hl : xs.length ≤ 1000) (hs : Seg R xs.length (xs.flatMap AcL.cells) p) :
  PureT (α := { row : QV // rowOk 8 xs.length (xs.flatMap AcL.cells) row }) Tryz.prog 79 [KP xs.length p].toArray (fun x => JE xs.length x.1) [] (fun x => JR 48 (xs.flatMap AcL.cells) x.1) R := by
 cases p with
 | none =>
  have h0 : xs = [] := List.length_eq_zero_iff.1 hs
  subst h0; refine Jt Tryz.func79 rfl rfl fun w => ?_; refine J8 ?_; refine JP 12 rfl ?_; refine cD (fun g => ?_) fun g => ?_
  refine Kn 7 rfl ?_; refine pT rfl rfl rfl fun w1 hs1 => ?_; exact ⟨⟨none, rfl, rfl⟩, rfl, hs1⟩
  try exact Bool.noConfusion g
 | some q =>
  refine Jt Tryz.func79 rfl rfl fun w => ?_; refine J8 ?_; refine JP 12 rfl ?_; refine Jw rfl (fun g => ?_) (fun g => ?_)
  try exact Bool.noConfusion g
  ·refine Jo 4 rfl ?_; refine Xn rfl rfl rfl rfl fun r1 => ?_; refine Qx rfl (wl (k := 0) (b := 96) (sz := 8) rfl rfl rfl rfl rfl rfl hs oR rfl rfl rfl rfl rfl (by decide) (Ks AcL.len xs) (Yv AcL.one xs) (by omega) (by omega) fun row hrow => (Jx 4 rfl ?_)); refine pT rfl rfl rfl fun w1 hs1 => ?_; exact ⟨⟨row, hrow⟩, rfl, hs1.weakL (List.sublist_append_left _ _)⟩
theorem Jl6 {R : Jm} {xs : List AcL} {row : QV} (hl : xs.length ≤ 1000) (hrow : rowOk 8 xs.length (xs.flatMap AcL.cells) row) {i : Nat} (hi : i ≤ xs.length) {y : AcL} {rv : Nat} (hv : (rv, Obj.cells (AcL.cells y).toArray 48 (0, 0)) ∈ R) :
  PureT (α := { row' : QV // rowOk 8 (xs.length + 1) ((xs.take i ++ y :: xs.drop i).flatMap AcL.cells) row' }) Tryz.prog 323 [JE xs.length row, .int .i64 (i : Int), .slice (some ⟨rv, 0, none⟩) 1 1].toArray (fun x => JE (xs.length + 1) x.1) (JR 48 (xs.flatMap AcL.cells) row) (fun x => JR 48 ((xs.take i ++ y :: xs.drop i).flatMap AcL.cells) x.1) R := by
 obtain ⟨A, hA⟩ : ∃ A, A = (xs.take i).flatMap AcL.cells := ⟨_, rfl⟩
 obtain ⟨B, hB⟩ : ∃ B, B = (xs.drop i).flatMap AcL.cells := ⟨_, rfl⟩
 obtain ⟨n, hn⟩ : ∃ n, n = xs.length := ⟨_, rfl⟩
 have e1 : xs.flatMap AcL.cells = A ++ B := by rw [hA, hB, ← List.flatMap_append, List.take_append_drop]
 have e2 : (xs.take i ++ y :: xs.drop i).flatMap AcL.cells = A ++ (AcL.cells y ++ B) := by rw [List.flatMap_append, List.flatMap_cons, hA, hB]
 have lA : A.length = i * 8 := by rw [hA, Ks AcL.len, List.length_take, Nat.min_eq_left hi]
 have lB : B.length = (n - i) * 8 := by rw [hB, Ks AcL.len, List.length_drop, hn]
 have lF : (AcL.cells y).length = 8 := AcL.len y
 have oF : (AcL.cells y).all Q6 = true := AcL.one y
 have oA : A.all Q6 = true := by rw [hA]; exact Yv AcL.one _
 have oB : B.all Q6 = true := by rw [hB]; exact Yv AcL.one _
 rw [e1] at hrow; rw [e1, e2]; rw [← hn] at hl hi hrow ⊢; clear hA hB e1 e2 hn
 cases row with
 | none =>
  obtain ⟨rfl, hAB⟩ := hrow
  obtain rfl : i = 0 := by omega
  obtain ⟨rfl, rfl⟩ := List.append_eq_nil_iff.1 hAB
  refine Jt Tryz.func323 rfl rfl fun w => ?_; refine J8 ?_; refine Jo 15 rfl ?_; refine LR rfl (JU rfl rfl) ?_; refine JI 10 rfl ?_; refine cD (fun g => ?_) fun g => ?_
  first | exact Bool.noConfusion g | omega
  refine Jo 5 rfl ?_; refine LR rfl (JU rfl rfl) ?_; refine JI 11 rfl ?_; refine Jw rfl (fun g => ?_) (fun g => ?_)
  try simp only [ZZ] at g
  refine Jo 4 rfl ?_; refine VU (n := 0) (m := 1) (b := 96) (sz := 8) (news := AcL.cells y) (xs := []) (L0 := []) rfl rfl rfl rfl (Or.inr hv) rfl rfl rfl rfl rfl (by decide) rfl rfl oF (by decide) SlOwn.nil (by decide) (by decide) fun r1 cap1 sp1 hsp1 => ?_; refine Jx 5 rfl ?_; refine pT rfl rfl rfl fun w1 hs1 => ?_; exact ⟨⟨some (r1, cap1, sp1), by simp [lF], hsp1⟩, rfl, by simpa [JR] using hs1⟩
  try exact Bool.noConfusion g
 | some q =>
  obtain ⟨r, cap, sp⟩ := q
  obtain ⟨hr1, hr2⟩ := hrow
  have hcap : n ≤ cap := by omega
  refine Jt Tryz.func323 rfl rfl fun w => ?_; refine J8 ?_; change HC _ _ _ [(r, .cells ((A ++ B) ++ sp).toArray 48 (0, 0))] _ _ _; refine Jo 9 rfl ?_; refine LR rfl (JO (m := i) (kl := some i) (kh := none) (km := none) (q := n) (z := cap) rfl rfl rfl ⟨_, rfl⟩ trivial trivial rfl rfl rfl (by omega) (by omega) (by omega) (fun _ => rfl) rfl) ?_; refine JC 5 rfl ?_; refine LR rfl (JU rfl rfl) ?_; refine JI 10 rfl ?_; refine Jw rfl (fun g => ?_) (fun g => ?_)
  try exact Bool.noConfusion g
  ·refine Jo 5 rfl ?_; refine LR rfl (JU rfl rfl) ?_; refine JI 11 rfl ?_; refine Jw rfl (fun g => ?_) (fun g => ?_)
   try simp only [ZZ] at g
   refine Jo 4 rfl ?_
   obtain rfl : B = [] := List.length_eq_zero_iff.1 (by omega)
   refine VU (n := n) (m := 1) (b := 96) (sz := 8) (news := AcL.cells y) (xs := A ++ []) (L0 := []) rfl rfl rfl rfl (Or.inr hv) rfl rfl rfl rfl rfl (by decide) rfl lF oF (by decide) (SlOwn.own (k := 0) rfl (by simp only [List.toList_toArray]; rw [List.take_left' hr1]) hr1 (by rw [List.size_toArray, List.length_append, hr1]; omega) rfl) (by omega) (by omega) fun r1 cap1 sp1 hsp1 => ?_; refine Jx 5 rfl ?_; refine pT rfl rfl rfl fun w1 hs1 => ?_; exact ⟨⟨some (r1, cap1, sp1), by simp only [List.length_append, List.length_nil, lF]; omega, hsp1⟩, rfl, by simpa [JR] using hs1⟩
   ·try simp only [ZZ] at g
    refine Jo 8 rfl ?_; refine Je (by omega) (by omega) ?_; refine Qx rfl (LR rfl (Jh7 rfl rfl) (JI 3 rfl ?_)); refine cD (fun g => ?_) fun g => ?_
    ·refine Jo 4 rfl ?_
     refine LR rfl (JO (sz := 8) (q := i) (kl := none) (kh := some (i)) (km := none) (m := 0) (z := cap) (off' := 0) rfl rfl rfl trivial ⟨_, rfl⟩ trivial rfl rfl rfl (by omega) (by omega) (by omega) (fun h => by cases h) (by split <;> omega)) ?_; refine LS 3 [] rfl rfl ?_; refine Je (by omega) (by omega) ?_; refine JC 2 rfl ?_; refine J2 (show _ = Value.int .i64 ((n + 1 - i : Nat) : Int) from by rw [wrap_i64 (by omega) (by omega)]; congr 1 <;> omega) ?_; refine wc (r := r) (off := 0) (n := i) (cap := cap) (m := n + 1 - i) (sz := 8) (b := 96) (xs := A) rfl rfl rfl rfl (kn 0 rfl) rfl rfl rfl rfl rfl rfl (by decide) (by simp only [List.toList_toArray, List.drop_zero]; rw [List.append_assoc, List.take_left' lA]) lA (by omega) (by omega) (by omega) (by omega) (by omega) fun r2 cap2 Z sp2 hZ hsp2 => ?_; rw [show i + (n + 1 - i) = n + 1 by omega] at hsp2 ⊢
     obtain ⟨Z1, Z2, rfl, lZ1⟩ := cut (l := Z) (a := 8) (by omega)
     have lZ2 : Z2.length = (n - i) * 8 := by rw [List.length_append, lZ1] at hZ; omega
     rw [show A ++ (Z1 ++ Z2) ++ sp2 = A ++ (Z1 ++ (Z2 ++ sp2)) by simp only [List.append_assoc]]; refine JC 7 rfl ?_; refine LR rfl (JO (sz := 8) (m := i) (kl := some (i)) (kh := none) (km := none) (q := n + 1) (z := cap2) (off' := i * 8) rfl rfl rfl ⟨_, rfl⟩ trivial trivial rfl rfl rfl (by omega) (by omega) (by omega) (fun _ => rfl) (by rw [if_neg (by omega)]; omega)) ?_; refine Qx rfl ?_
     refine X8 (k := 0) (n := 1) (sz := 8) (vs := AcL.cells y) (cs' := A ++ (AcL.cells y ++ (Z2 ++ sp2))) rfl rfl rfl rfl rfl (Or.inr hv) rfl rfl (by simp only [Nat.min_def]; split <;> omega) rfl lF oF (by simp only [List.size_toArray, List.length_append]; omega) (Xo lA (by rw [lZ1])) rfl ?_; refine JI 3 rfl ?_; refine JK 8 (by kernel_rfl) (by kernel_rfl) ?_; refine Jd rfl rfl rfl (Ji rfl) ?_; refine Jd rfl rfl rfl (Ji rfl) ?_; refine Jd rfl rfl rfl (Ji rfl) ?_
     refine Jd rfl rfl rfl (J0 rfl rfl rfl) ?_; refine Ql (show _ = Value.int .i64 ((i + 1 : Nat) : Int) from by rw [wrap_i64 (by omega) (by omega)]; congr 1 <;> omega) ?_; refine Jd rfl rfl rfl (JO (sz := 8) (m := i + 1) (kl := some (i + 1)) (kh := none) (km := none) (q := n + 1) (z := cap2) (off' := (i + 1) * 8) rfl rfl rfl ⟨_, rfl⟩ trivial trivial rfl rfl rfl (by omega) (by omega) (by omega) (fun _ => rfl) (by rw [if_neg (by omega)]; omega)) ?_; refine Jd rfl rfl rfl (Ji rfl) ?_; refine Jd rfl rfl rfl (Ji rfl) ?_; refine Jd rfl rfl rfl (JO (sz := 8) (m := i) (kl := some (i)) (kh := none) (km := none) (q := n) (z := cap) (off' := i * 8) rfl rfl rfl ⟨_, rfl⟩ trivial trivial rfl rfl rfl (by omega) (by omega) (by omega) (fun _ => rfl) (by rw [if_neg (by omega)]; omega)) ?_; refine JW ?_; rw [show A ++ (AcL.cells y ++ (Z2 ++ sp2)) = (A ++ AcL.cells y) ++ (Z2 ++ sp2) by simp only [List.append_assoc]]
     refine X8 (k := 0) (n := n - i) (sz := 8) (vs := B) (cs' := (A ++ AcL.cells y) ++ (B ++ sp2)) rfl rfl rfl rfl rfl (kn 1 rfl) rfl rfl (by simp only [Nat.min_def]; split <;> omega) (by simp only [List.toList_toArray]; rw [List.append_assoc, List.drop_left' lA, List.take_left' lB]) lB oB (by simp only [List.size_toArray, List.length_append]; omega) (Xo (by rw [List.length_append, lA, lF]; omega) lZ2) rfl ?_; refine Jx 10 rfl ?_; refine pT rfl rfl rfl fun w1 hs1 => ?_; exact ⟨⟨some (r2, cap2, sp2), by simp only [List.length_append]; omega, hsp2⟩, rfl, hs1.weakL (by simp [JR])⟩
    ·refine Jo 8 rfl ?_; refine J2 (show _ = Value.int .i64 ((n + 1 : Nat) : Int) from by rw [wrap_i64 (by omega) (by omega)]; congr 1 <;> omega) ?_
     refine LR rfl (JO (sz := 8) (q := n + 1) (kl := none) (kh := some (n + 1)) (km := none) (m := 0) (z := cap) (off' := 0) rfl rfl rfl trivial ⟨_, rfl⟩ trivial rfl rfl rfl (by omega) (by omega) (by omega) (fun h => by cases h) (by split <;> omega)) ?_; refine JC 11 rfl ?_; refine J2 (show _ = Value.int .i64 ((i + 1 : Nat) : Int) from by rw [wrap_i64 (by omega) (by omega)]; congr 1 <;> omega) ?_; refine LR rfl (JO (sz := 8) (m := i + 1) (kl := some (i + 1)) (kh := none) (km := none) (q := n + 1) (z := cap) (off' := (i + 1) * 8) rfl rfl rfl ⟨_, rfl⟩ trivial trivial rfl rfl rfl (by omega) (by omega) (by omega) (fun _ => rfl) (by rw [if_neg (by omega)]; omega)) ?_; refine LR rfl (qE (k := 0) rfl rfl rfl hv rfl rfl rfl (by simp only [List.size_toArray, List.length_append]; omega) Tryz.func352 rfl rfl rfl rfl) ?_; refine JI 3 rfl ?_; refine Jw rfl (fun g => ?_) (fun g => ?_)
     ·try simp only [ZZ] at g
      refine JP 1 rfl ?_; refine JK 8 (by kernel_rfl) (by kernel_rfl) ?_; refine Jd rfl rfl rfl (Ji rfl) ?_; refine Jd rfl rfl rfl (Ji rfl) ?_; refine Jd rfl rfl rfl (Ji rfl) ?_
      refine Jd rfl rfl rfl (J0 rfl rfl rfl) ?_; refine Ql (show _ = Value.int .i64 ((i + 1 : Nat) : Int) from by rw [wrap_i64 (by omega) (by omega)]; congr 1 <;> omega) ?_; refine Jd rfl rfl rfl (JO (sz := 8) (m := i + 1) (kl := some (i + 1)) (kh := none) (km := none) (q := n + 1) (z := cap) (off' := (i + 1) * 8) rfl rfl rfl ⟨_, rfl⟩ trivial trivial rfl rfl rfl (by omega) (by omega) (by omega) (fun _ => rfl) (by rw [if_neg (by omega)]; omega)) ?_; refine Jd rfl rfl rfl (Ji rfl) ?_; refine Jd rfl rfl rfl (Ji rfl) ?_; refine Jd rfl rfl rfl (JO (sz := 8) (m := i) (kl := some (i)) (kh := none) (km := none) (q := n + 1) (z := cap) (off' := i * 8) rfl rfl rfl ⟨_, rfl⟩ trivial trivial rfl rfl rfl (by omega) (by omega) (by omega) (fun _ => rfl) (by rw [if_neg (by omega)]; omega)) ?_; refine JW ?_
      obtain ⟨X1, X2, hX, lX1⟩ := cut (l := B ++ sp) (a := 8) (by rw [List.length_append]; omega)
      obtain ⟨X3, X4, rfl, lX3⟩ := cut (l := X2) (a := (n - i) * 8) (by have := congrArg List.length hX; simp only [List.length_append] at this; omega)
      rw [show (A ++ B) ++ sp = (A ++ X1) ++ (X3 ++ X4) by rw [List.append_assoc, hX]; simp only [List.append_assoc]]
      refine X8 (k := 0) (n := n - i) (sz := 8) (vs := B) (cs' := (A ++ X1) ++ (B ++ X4)) rfl rfl rfl rfl rfl (kn 0 rfl) rfl rfl (by simp only [Nat.min_def]; split <;> omega) (by simp only [List.toList_toArray]; rw [List.append_assoc, List.drop_left' lA, ← hX, List.take_left' lB]) lB oB (by have := congrArg List.length hX; simp only [List.size_toArray, List.length_append] at this ⊢; omega) (Xo (by rw [List.length_append, lA, lX1]; omega) lX3) rfl ?_; refine JC 6 rfl ?_; refine LR rfl (JO (sz := 8) (m := i) (kl := some (i)) (kh := none) (km := none) (q := n + 1) (z := cap) (off' := i * 8) rfl rfl rfl ⟨_, rfl⟩ trivial trivial rfl rfl rfl (by omega) (by omega) (by omega) (fun _ => rfl) (by rw [if_neg (by omega)]; omega)) ?_; refine Qx rfl ?_; rw [show (A ++ X1) ++ (B ++ X4) = A ++ (X1 ++ (B ++ X4)) by simp only [List.append_assoc]]
      refine X8 (k := 0) (n := 1) (sz := 8) (vs := AcL.cells y) (cs' := A ++ (AcL.cells y ++ (B ++ X4))) rfl rfl rfl rfl rfl (Or.inr hv) rfl rfl (by simp only [Nat.min_def]; split <;> omega) rfl lF oF (by simp only [List.size_toArray, List.length_append]; omega) (Xo lA (by rw [lX1])) rfl ?_; refine Jx 10 rfl ?_; refine pT rfl rfl rfl fun w1 hs1 => ?_; exact ⟨⟨some (r, cap, X4), by simp only [List.length_append]; omega, by have := congrArg List.length hX; simp only [List.length_append] at this; omega⟩, rfl, by simpa [JR] using hs1⟩
     ·try exact Bool.noConfusion g
theorem Jqx {R : Jm} {xs : List (BS × BS)} {p : Pl} (hl : xs.length ≤ 1000) (hs : Seg R xs.length (xs.flatMap Q9) p) :
  PureT (α := { row : QV // rowOk 2 xs.length (xs.flatMap Q9) row }) Tryz.prog 325 [KP xs.length p].toArray (fun x => JE xs.length x.1) [] (fun x => JR 97 (xs.flatMap Q9) x.1) R := by
 cases p with
 | none =>
  have h0 : xs = [] := List.length_eq_zero_iff.1 hs
  subst h0; refine Jt Tryz.func325 rfl rfl fun w => ?_; refine J8 ?_; refine JP 12 rfl ?_; refine cD (fun g => ?_) fun g => ?_
  refine Kn 7 rfl ?_; refine pT rfl rfl rfl fun w1 hs1 => ?_; exact ⟨⟨none, rfl, rfl⟩, rfl, hs1⟩
  try exact Bool.noConfusion g
 | some q =>
  refine Jt Tryz.func325 rfl rfl fun w => ?_; refine J8 ?_; refine JP 12 rfl ?_; refine Jw rfl (fun g => ?_) (fun g => ?_)
  try exact Bool.noConfusion g
  ·refine Jo 4 rfl ?_; refine Xn rfl rfl rfl rfl fun r1 => ?_; refine Qx rfl (wl (k := 0) (b := 32) (sz := 2) rfl rfl rfl rfl rfl rfl hs oR rfl rfl rfl rfl rfl (by decide) (Ks Kl xs) (Yv j4 xs) (by omega) (by omega) fun row hrow => (Jx 4 rfl ?_)); refine pT rfl rfl rfl fun w1 hs1 => ?_; exact ⟨⟨row, hrow⟩, rfl, hs1.weakL (List.sublist_append_left _ _)⟩
theorem Jl7 {R : Jm} {xs : List (BS × BS)} {row : QV} (hl : xs.length ≤ 1000) (hrow : rowOk 2 xs.length (xs.flatMap Q9) row) {i : Nat} (hi : i ≤ xs.length) {y : (BS × BS)} {rv : Nat} (hv : (rv, Obj.cells (Q9 y).toArray 97 (0, 0)) ∈ R) :
  PureT (α := { row' : QV // rowOk 2 (xs.length + 1) ((xs.take i ++ y :: xs.drop i).flatMap Q9) row' }) Tryz.prog 326 [JE xs.length row, .int .i64 (i : Int), .slice (some ⟨rv, 0, none⟩) 1 1].toArray (fun x => JE (xs.length + 1) x.1) (JR 97 (xs.flatMap Q9) row) (fun x => JR 97 ((xs.take i ++ y :: xs.drop i).flatMap Q9) x.1) R := by
 obtain ⟨A, hA⟩ : ∃ A, A = (xs.take i).flatMap Q9 := ⟨_, rfl⟩
 obtain ⟨B, hB⟩ : ∃ B, B = (xs.drop i).flatMap Q9 := ⟨_, rfl⟩
 obtain ⟨n, hn⟩ : ∃ n, n = xs.length := ⟨_, rfl⟩
 have e1 : xs.flatMap Q9 = A ++ B := by rw [hA, hB, ← List.flatMap_append, List.take_append_drop]
 have e2 : (xs.take i ++ y :: xs.drop i).flatMap Q9 = A ++ (Q9 y ++ B) := by rw [List.flatMap_append, List.flatMap_cons, hA, hB]
 have lA : A.length = i * 2 := by rw [hA, Ks Kl, List.length_take, Nat.min_eq_left hi]
 have lB : B.length = (n - i) * 2 := by rw [hB, Ks Kl, List.length_drop, hn]
 have lF : (Q9 y).length = 2 := Kl y
 have oF : (Q9 y).all Q6 = true := j4 y
 have oA : A.all Q6 = true := by rw [hA]; exact Yv j4 _
 have oB : B.all Q6 = true := by rw [hB]; exact Yv j4 _
 rw [e1] at hrow; rw [e1, e2]; rw [← hn] at hl hi hrow ⊢; clear hA hB e1 e2 hn
 cases row with
 | none =>
  obtain ⟨rfl, hAB⟩ := hrow
  obtain rfl : i = 0 := by omega
  obtain ⟨rfl, rfl⟩ := List.append_eq_nil_iff.1 hAB
  refine Jt Tryz.func326 rfl rfl fun w => ?_; refine J8 ?_; refine Jo 15 rfl ?_; refine LR rfl (JU rfl rfl) ?_; refine JI 10 rfl ?_; refine cD (fun g => ?_) fun g => ?_
  first | exact Bool.noConfusion g | omega
  refine Jo 5 rfl ?_; refine LR rfl (JU rfl rfl) ?_; refine JI 11 rfl ?_; refine Jw rfl (fun g => ?_) (fun g => ?_)
  try simp only [ZZ] at g
  refine Jo 4 rfl ?_; refine VU (n := 0) (m := 1) (b := 32) (sz := 2) (news := Q9 y) (xs := []) (L0 := []) rfl rfl rfl rfl (Or.inr hv) rfl rfl rfl rfl rfl (by decide) rfl rfl oF (by decide) SlOwn.nil (by decide) (by decide) fun r1 cap1 sp1 hsp1 => ?_; refine Jx 5 rfl ?_; refine pT rfl rfl rfl fun w1 hs1 => ?_; exact ⟨⟨some (r1, cap1, sp1), by simp [lF], hsp1⟩, rfl, by simpa [JR] using hs1⟩
  try exact Bool.noConfusion g
 | some q =>
  obtain ⟨r, cap, sp⟩ := q
  obtain ⟨hr1, hr2⟩ := hrow
  have hcap : n ≤ cap := by omega
  refine Jt Tryz.func326 rfl rfl fun w => ?_; refine J8 ?_; change HC _ _ _ [(r, .cells ((A ++ B) ++ sp).toArray 97 (0, 0))] _ _ _; refine Jo 9 rfl ?_; refine LR rfl (JO (m := i) (kl := some i) (kh := none) (km := none) (q := n) (z := cap) rfl rfl rfl ⟨_, rfl⟩ trivial trivial rfl rfl rfl (by omega) (by omega) (by omega) (fun _ => rfl) rfl) ?_; refine JC 5 rfl ?_; refine LR rfl (JU rfl rfl) ?_; refine JI 10 rfl ?_; refine Jw rfl (fun g => ?_) (fun g => ?_)
  try exact Bool.noConfusion g
  ·refine Jo 5 rfl ?_; refine LR rfl (JU rfl rfl) ?_; refine JI 11 rfl ?_; refine Jw rfl (fun g => ?_) (fun g => ?_)
   try simp only [ZZ] at g
   refine Jo 4 rfl ?_
   obtain rfl : B = [] := List.length_eq_zero_iff.1 (by omega)
   refine VU (n := n) (m := 1) (b := 32) (sz := 2) (news := Q9 y) (xs := A ++ []) (L0 := []) rfl rfl rfl rfl (Or.inr hv) rfl rfl rfl rfl rfl (by decide) rfl lF oF (by decide) (SlOwn.own (k := 0) rfl (by simp only [List.toList_toArray]; rw [List.take_left' hr1]) hr1 (by rw [List.size_toArray, List.length_append, hr1]; omega) rfl) (by omega) (by omega) fun r1 cap1 sp1 hsp1 => ?_; refine Jx 5 rfl ?_; refine pT rfl rfl rfl fun w1 hs1 => ?_; exact ⟨⟨some (r1, cap1, sp1), by simp only [List.length_append, List.length_nil, lF]; omega, hsp1⟩, rfl, by simpa [JR] using hs1⟩
   ·try simp only [ZZ] at g
    refine Jo 8 rfl ?_; refine Je (by omega) (by omega) ?_; refine Qx rfl (LR rfl (Jh7 rfl rfl) (JI 3 rfl ?_)); refine cD (fun g => ?_) fun g => ?_
    ·refine Jo 4 rfl ?_
     refine LR rfl (JO (sz := 2) (q := i) (kl := none) (kh := some (i)) (km := none) (m := 0) (z := cap) (off' := 0) rfl rfl rfl trivial ⟨_, rfl⟩ trivial rfl rfl rfl (by omega) (by omega) (by omega) (fun h => by cases h) (by split <;> omega)) ?_; refine LS 3 [] rfl rfl ?_; refine Je (by omega) (by omega) ?_; refine JC 2 rfl ?_; refine J2 (show _ = Value.int .i64 ((n + 1 - i : Nat) : Int) from by rw [wrap_i64 (by omega) (by omega)]; congr 1 <;> omega) ?_; refine wc (r := r) (off := 0) (n := i) (cap := cap) (m := n + 1 - i) (sz := 2) (b := 32) (xs := A) rfl rfl rfl rfl (kn 0 rfl) rfl rfl rfl rfl rfl rfl (by decide) (by simp only [List.toList_toArray, List.drop_zero]; rw [List.append_assoc, List.take_left' lA]) lA (by omega) (by omega) (by omega) (by omega) (by omega) fun r2 cap2 Z sp2 hZ hsp2 => ?_; rw [show i + (n + 1 - i) = n + 1 by omega] at hsp2 ⊢
     obtain ⟨Z1, Z2, rfl, lZ1⟩ := cut (l := Z) (a := 2) (by omega)
     have lZ2 : Z2.length = (n - i) * 2 := by rw [List.length_append, lZ1] at hZ; omega
     rw [show A ++ (Z1 ++ Z2) ++ sp2 = A ++ (Z1 ++ (Z2 ++ sp2)) by simp only [List.append_assoc]]; refine JC 7 rfl ?_; refine LR rfl (JO (sz := 2) (m := i) (kl := some (i)) (kh := none) (km := none) (q := n + 1) (z := cap2) (off' := i * 2) rfl rfl rfl ⟨_, rfl⟩ trivial trivial rfl rfl rfl (by omega) (by omega) (by omega) (fun _ => rfl) (by rw [if_neg (by omega)]; omega)) ?_; refine Qx rfl ?_
     refine X8 (k := 0) (n := 1) (sz := 2) (vs := Q9 y) (cs' := A ++ (Q9 y ++ (Z2 ++ sp2))) rfl rfl rfl rfl rfl (Or.inr hv) rfl rfl (by simp only [Nat.min_def]; split <;> omega) rfl lF oF (by simp only [List.size_toArray, List.length_append]; omega) (Xo lA (by rw [lZ1])) rfl ?_; refine JI 3 rfl ?_; refine JK 8 (by kernel_rfl) (by kernel_rfl) ?_; refine Jd rfl rfl rfl (Ji rfl) ?_; refine Jd rfl rfl rfl (Ji rfl) ?_; refine Jd rfl rfl rfl (Ji rfl) ?_
     refine Jd rfl rfl rfl (J0 rfl rfl rfl) ?_; refine Ql (show _ = Value.int .i64 ((i + 1 : Nat) : Int) from by rw [wrap_i64 (by omega) (by omega)]; congr 1 <;> omega) ?_; refine Jd rfl rfl rfl (JO (sz := 2) (m := i + 1) (kl := some (i + 1)) (kh := none) (km := none) (q := n + 1) (z := cap2) (off' := (i + 1) * 2) rfl rfl rfl ⟨_, rfl⟩ trivial trivial rfl rfl rfl (by omega) (by omega) (by omega) (fun _ => rfl) (by rw [if_neg (by omega)]; omega)) ?_; refine Jd rfl rfl rfl (Ji rfl) ?_; refine Jd rfl rfl rfl (Ji rfl) ?_; refine Jd rfl rfl rfl (JO (sz := 2) (m := i) (kl := some (i)) (kh := none) (km := none) (q := n) (z := cap) (off' := i * 2) rfl rfl rfl ⟨_, rfl⟩ trivial trivial rfl rfl rfl (by omega) (by omega) (by omega) (fun _ => rfl) (by rw [if_neg (by omega)]; omega)) ?_; refine JW ?_; rw [show A ++ (Q9 y ++ (Z2 ++ sp2)) = (A ++ Q9 y) ++ (Z2 ++ sp2) by simp only [List.append_assoc]]
     refine X8 (k := 0) (n := n - i) (sz := 2) (vs := B) (cs' := (A ++ Q9 y) ++ (B ++ sp2)) rfl rfl rfl rfl rfl (kn 1 rfl) rfl rfl (by simp only [Nat.min_def]; split <;> omega) (by simp only [List.toList_toArray]; rw [List.append_assoc, List.drop_left' lA, List.take_left' lB]) lB oB (by simp only [List.size_toArray, List.length_append]; omega) (Xo (by rw [List.length_append, lA, lF]; omega) lZ2) rfl ?_; refine Jx 10 rfl ?_; refine pT rfl rfl rfl fun w1 hs1 => ?_; exact ⟨⟨some (r2, cap2, sp2), by simp only [List.length_append]; omega, hsp2⟩, rfl, hs1.weakL (by simp [JR])⟩
    ·refine Jo 8 rfl ?_; refine J2 (show _ = Value.int .i64 ((n + 1 : Nat) : Int) from by rw [wrap_i64 (by omega) (by omega)]; congr 1 <;> omega) ?_
     refine LR rfl (JO (sz := 2) (q := n + 1) (kl := none) (kh := some (n + 1)) (km := none) (m := 0) (z := cap) (off' := 0) rfl rfl rfl trivial ⟨_, rfl⟩ trivial rfl rfl rfl (by omega) (by omega) (by omega) (fun h => by cases h) (by split <;> omega)) ?_; refine JC 11 rfl ?_; refine J2 (show _ = Value.int .i64 ((i + 1 : Nat) : Int) from by rw [wrap_i64 (by omega) (by omega)]; congr 1 <;> omega) ?_; refine LR rfl (JO (sz := 2) (m := i + 1) (kl := some (i + 1)) (kh := none) (km := none) (q := n + 1) (z := cap) (off' := (i + 1) * 2) rfl rfl rfl ⟨_, rfl⟩ trivial trivial rfl rfl rfl (by omega) (by omega) (by omega) (fun _ => rfl) (by rw [if_neg (by omega)]; omega)) ?_; refine LR rfl (qE (k := 0) rfl rfl rfl hv rfl rfl rfl (by simp only [List.size_toArray, List.length_append]; omega) Tryz.func356 rfl rfl rfl rfl) ?_; refine JI 3 rfl ?_; refine Jw rfl (fun g => ?_) (fun g => ?_)
     ·try simp only [ZZ] at g
      refine JP 1 rfl ?_; refine JK 8 (by kernel_rfl) (by kernel_rfl) ?_; refine Jd rfl rfl rfl (Ji rfl) ?_; refine Jd rfl rfl rfl (Ji rfl) ?_; refine Jd rfl rfl rfl (Ji rfl) ?_
      refine Jd rfl rfl rfl (J0 rfl rfl rfl) ?_; refine Ql (show _ = Value.int .i64 ((i + 1 : Nat) : Int) from by rw [wrap_i64 (by omega) (by omega)]; congr 1 <;> omega) ?_; refine Jd rfl rfl rfl (JO (sz := 2) (m := i + 1) (kl := some (i + 1)) (kh := none) (km := none) (q := n + 1) (z := cap) (off' := (i + 1) * 2) rfl rfl rfl ⟨_, rfl⟩ trivial trivial rfl rfl rfl (by omega) (by omega) (by omega) (fun _ => rfl) (by rw [if_neg (by omega)]; omega)) ?_; refine Jd rfl rfl rfl (Ji rfl) ?_; refine Jd rfl rfl rfl (Ji rfl) ?_; refine Jd rfl rfl rfl (JO (sz := 2) (m := i) (kl := some (i)) (kh := none) (km := none) (q := n + 1) (z := cap) (off' := i * 2) rfl rfl rfl ⟨_, rfl⟩ trivial trivial rfl rfl rfl (by omega) (by omega) (by omega) (fun _ => rfl) (by rw [if_neg (by omega)]; omega)) ?_; refine JW ?_
      obtain ⟨X1, X2, hX, lX1⟩ := cut (l := B ++ sp) (a := 2) (by rw [List.length_append]; omega)
      obtain ⟨X3, X4, rfl, lX3⟩ := cut (l := X2) (a := (n - i) * 2) (by have := congrArg List.length hX; simp only [List.length_append] at this; omega)
      rw [show (A ++ B) ++ sp = (A ++ X1) ++ (X3 ++ X4) by rw [List.append_assoc, hX]; simp only [List.append_assoc]]
      refine X8 (k := 0) (n := n - i) (sz := 2) (vs := B) (cs' := (A ++ X1) ++ (B ++ X4)) rfl rfl rfl rfl rfl (kn 0 rfl) rfl rfl (by simp only [Nat.min_def]; split <;> omega) (by simp only [List.toList_toArray]; rw [List.append_assoc, List.drop_left' lA, ← hX, List.take_left' lB]) lB oB (by have := congrArg List.length hX; simp only [List.size_toArray, List.length_append] at this ⊢; omega) (Xo (by rw [List.length_append, lA, lX1]; omega) lX3) rfl ?_; refine JC 6 rfl ?_; refine LR rfl (JO (sz := 2) (m := i) (kl := some (i)) (kh := none) (km := none) (q := n + 1) (z := cap) (off' := i * 2) rfl rfl rfl ⟨_, rfl⟩ trivial trivial rfl rfl rfl (by omega) (by omega) (by omega) (fun _ => rfl) (by rw [if_neg (by omega)]; omega)) ?_; refine Qx rfl ?_; rw [show (A ++ X1) ++ (B ++ X4) = A ++ (X1 ++ (B ++ X4)) by simp only [List.append_assoc]]
      refine X8 (k := 0) (n := 1) (sz := 2) (vs := Q9 y) (cs' := A ++ (Q9 y ++ (B ++ X4))) rfl rfl rfl rfl rfl (Or.inr hv) rfl rfl (by simp only [Nat.min_def]; split <;> omega) rfl lF oF (by simp only [List.size_toArray, List.length_append]; omega) (Xo lA (by rw [lX1])) rfl ?_; refine Jx 10 rfl ?_; refine pT rfl rfl rfl fun w1 hs1 => ?_; exact ⟨⟨some (r, cap, X4), by simp only [List.length_append]; omega, by have := congrArg List.length hX; simp only [List.length_append] at this; omega⟩, rfl, by simpa [JR] using hs1⟩
     ·try exact Bool.noConfusion g
theorem Jvq {R : Jm} {xs : List AcL} {p : Pl} (hl : xs.length ≤ 1000) (hs : Seg R xs.length (xs.flatMap AcL.cells) p) (hso : Kx AcL.addr xs) (y : AcL) :
  PureT (α := { row : QV // rowOk 8 (Qg AcL.addr y xs).length ((Qg AcL.addr y xs).flatMap AcL.cells) row }) Tryz.prog 256 [KP xs.length p, vA y, fV 98].toArray (fun x => JE (Qg AcL.addr y xs).length x.1) [] (fun x => JR 48 ((Qg AcL.addr y xs).flatMap AcL.cells) x.1) R := by
 have hins := Jok (x := y) hso
 obtain ⟨j, hj⟩ : ∃ j, j = ZU AcL.addr (AcL.addr y) xs := ⟨_, rfl⟩
 have hjl : j ≤ xs.length := hj ▸ Joi _ _
 have hpl := Jqv (k := AcL.addr y) hl hs hso
 have hlt : VB AcL.addr (AcL.addr y) xs = true → j < xs.length := fun h => hj ▸ Jdf h
 rw [← hj] at hins hpl
 obtain ⟨b, hb⟩ : ∃ b, b = VB AcL.addr (AcL.addr y) xs := ⟨_, rfl⟩
 rw [← hb] at hins hpl hlt; clear hj hb; refine Jt Tryz.func256 rfl rfl fun w => ?_; refine J8 ?_; refine Jo 2 rfl ?_; refine LN rfl fun r1 => ?_; refine Xj 8 [0] rfl rfl ?_; refine Jl rfl rfl rfl Jui (Jay y) ?_; refine Qx rfl (Jg rfl rfl rfl (enters_of Tryz.func322 (by kernel_rfl) rfl) hpl oR (JC 10 rfl ?_)); refine Ke rfl rfl rfl (enters_of Tryz.func79 (by kernel_rfl) rfl) (Jeo hl hs) oR fun x => ?_
 obtain ⟨row, hrow⟩ := x
 change HL _ _ ((20, JE xs.length row) :: _) (JR 48 (xs.flatMap AcL.cells) row ++ [(r1, _)]) _ _ _ _; refine JI 9 rfl ?_; refine cD (fun g => ?_) fun g => ?_
 refine JP 1 rfl ?_
 have hltb := hlt (by assumption)
 obtain ⟨r2, cap2, sp2, rfl⟩ := row_some hrow (by omega)
 change HC _ _ _ [(r2, .cells (xs.flatMap AcL.cells ++ sp2).toArray 48 (0, 0)), (r1, _)] _ _ _; refine Jo 3 rfl ?_; refine LR rfl (Jp (vs := AcL.cells y) rfl (kn 1 rfl) rfl rfl rfl rfl) ?_; refine LR rfl (JH (j := j) (m := 8) rfl rfl rfl rfl rfl (by omega) rfl) ?_; refine Qk (k := 0) (n := 8) (vs := (AcL.cells y).toArray) (cs' := ((xs.set j y).flatMap AcL.cells ++ sp2).toArray) rfl rfl rfl rfl rfl rfl (AcL.one y) (by have := hrow.1; simp only [List.size_toArray, List.length_append, Ks AcL.len]; omega) (by apply Array.toList_inj.1; simp only [List.toList_toArray, Nat.zero_add]; exact xY AcL.len hltb y sp2) rfl ?_; refine Jx 10 rfl ?_; refine pT rfl rfl rfl fun w1 hs1 => ?_
 (rw [if_pos (by assumption)] at hins
  rw [hins, List.length_set]
  exact ⟨⟨some (r2, cap2, sp2), hrow.same (by rw [Ks AcL.len, Ks AcL.len, List.length_set])⟩, rfl, hs1.weakL (by simp [JR])⟩)
 ·refine Jo 6 rfl ?_; refine LR rfl (Jp (vs := AcL.cells y) rfl (Or.inl (List.mem_append_right _ List.mem_cons_self)) rfl rfl rfl rfl) ?_; refine JN (n := 1) (sz := 8) (vs := [_]) (zs := [_, _, _, _, _, _, _, _]) (r := AcL.cells y) rfl rfl rfl rfl rfl rfl rfl rfl rfl (by rw [Ky]; exact rfl) rfl fun rv => ?_; refine Qh (T := JR 48 (xs.flatMap AcL.cells) row) (L0 := [(rv, _), (r1, _)]) (Rl := [(rv, Obj.cells (AcL.cells y).toArray 48 (0, 0))]) (by exact List.perm_middle.symm) rfl rfl rfl (enters_of Tryz.func323 (by kernel_rfl) rfl) (Jl6 (i := j) (y := y) hl hrow hjl List.mem_cons_self) (fun q hq => Or.inl (by rw [List.mem_singleton.1 hq]; exact List.mem_cons_self)) fun x => ?_
  obtain ⟨row2, hrow2⟩ := x
  refine Jx 4 rfl ?_; refine pT rfl rfl rfl fun w1 hs1 => ?_
  (rw [if_neg (by simp_all)] at hins
   have hln : (xs.take j ++ y :: xs.drop j).length = xs.length + 1 := by simp only [List.length_append, List.length_take, List.length_cons, List.length_drop]; omega
   rw [hins, hln]
   exact ⟨⟨row2, hrow2⟩, rfl, hs1.weakL (List.sublist_append_left _ _)⟩)
theorem Jvr {R : Jm} {xs : List (BS × BS)} {p : Pl} (hl : xs.length ≤ 1000) (hs : Seg R xs.length (xs.flatMap Q9) p) (hso : Kx Prod.fst xs) (y : (BS × BS)) :
  PureT (α := { row : QV // rowOk 2 (Qg Prod.fst y xs).length ((Qg Prod.fst y xs).flatMap Q9) row }) Tryz.prog 257 [KP xs.length p, vS y, fV 156].toArray (fun x => JE (Qg Prod.fst y xs).length x.1) [] (fun x => JR 97 ((Qg Prod.fst y xs).flatMap Q9) x.1) R := by
 have hins := Jok (x := y) hso
 obtain ⟨j, hj⟩ : ∃ j, j = ZU Prod.fst (Prod.fst y) xs := ⟨_, rfl⟩
 have hjl : j ≤ xs.length := hj ▸ Joi _ _
 have hpl := Jqw (k := Prod.fst y) hl hs hso
 have hlt : VB Prod.fst (Prod.fst y) xs = true → j < xs.length := fun h => hj ▸ Jdf h
 rw [← hj] at hins hpl
 obtain ⟨b, hb⟩ : ∃ b, b = VB Prod.fst (Prod.fst y) xs := ⟨_, rfl⟩
 rw [← hb] at hins hpl hlt; clear hj hb; refine Jt Tryz.func257 rfl rfl fun w => ?_; refine J8 ?_; refine Jo 2 rfl ?_; refine LN rfl fun r1 => ?_; refine Xj 8 [0] rfl rfl ?_; refine Jl rfl rfl rfl Jii (Jaz y) ?_; refine Qx rfl (Jg rfl rfl rfl (enters_of Tryz.func324 (by kernel_rfl) rfl) hpl oR (JC 10 rfl ?_)); refine Ke rfl rfl rfl (enters_of Tryz.func325 (by kernel_rfl) rfl) (Jqx hl hs) oR fun x => ?_
 obtain ⟨row, hrow⟩ := x
 change HL _ _ ((20, JE xs.length row) :: _) (JR 97 (xs.flatMap Q9) row ++ [(r1, _)]) _ _ _ _; refine JI 9 rfl ?_; refine cD (fun g => ?_) fun g => ?_
 refine JP 1 rfl ?_
 have hltb := hlt (by assumption)
 obtain ⟨r2, cap2, sp2, rfl⟩ := row_some hrow (by omega)
 change HC _ _ _ [(r2, .cells (xs.flatMap Q9 ++ sp2).toArray 97 (0, 0)), (r1, _)] _ _ _; refine Jo 3 rfl ?_; refine LR rfl (Jp (vs := Q9 y) rfl (kn 1 rfl) rfl rfl rfl rfl) ?_; refine LR rfl (JH (j := j) (m := 2) rfl rfl rfl rfl rfl (by omega) rfl) ?_; refine Qk (k := 0) (n := 2) (vs := (Q9 y).toArray) (cs' := ((xs.set j y).flatMap Q9 ++ sp2).toArray) rfl rfl rfl rfl rfl rfl (j4 y) (by have := hrow.1; simp only [List.size_toArray, List.length_append, Ks Kl]; omega) (by apply Array.toList_inj.1; simp only [List.toList_toArray, Nat.zero_add]; exact xY Kl hltb y sp2) rfl ?_; refine Jx 10 rfl ?_; refine pT rfl rfl rfl fun w1 hs1 => ?_
 (rw [if_pos (by assumption)] at hins
  rw [hins, List.length_set]
  exact ⟨⟨some (r2, cap2, sp2), hrow.same (by rw [Ks Kl, Ks Kl, List.length_set])⟩, rfl, hs1.weakL (by simp [JR])⟩)
 ·refine Jo 6 rfl ?_; refine LR rfl (Jp (vs := Q9 y) rfl (Or.inl (List.mem_append_right _ List.mem_cons_self)) rfl rfl rfl rfl) ?_; refine JN (n := 1) (sz := 2) (vs := [_]) (zs := [_, _]) (r := Q9 y) rfl rfl rfl rfl rfl rfl rfl rfl rfl (by rw [Ky]; exact rfl) rfl fun rv => ?_; refine Qh (T := JR 97 (xs.flatMap Q9) row) (L0 := [(rv, _), (r1, _)]) (Rl := [(rv, Obj.cells (Q9 y).toArray 97 (0, 0))]) (by exact List.perm_middle.symm) rfl rfl rfl (enters_of Tryz.func326 (by kernel_rfl) rfl) (Jl7 (i := j) (y := y) hl hrow hjl List.mem_cons_self) (fun q hq => Or.inl (by rw [List.mem_singleton.1 hq]; exact List.mem_cons_self)) fun x => ?_
  obtain ⟨row2, hrow2⟩ := x
  refine Jx 4 rfl ?_; refine pT rfl rfl rfl fun w1 hs1 => ?_
  (rw [if_neg (by simp_all)] at hins
   have hln : (xs.take j ++ y :: xs.drop j).length = xs.length + 1 := by simp only [List.length_append, List.length_take, List.length_cons, List.length_drop]; omega
   rw [hins, hln]
   exact ⟨⟨row2, hrow2⟩, rfl, hs1.weakL (List.sublist_append_left _ _)⟩)
theorem Jvs (x : BS × BS) : qX x = (((x.1.length : Int) != 32) || ((x.2.length : Int) != 32)) := by
 have key : ∀ n : Nat, decide (n ≠ 32) = ((n : Int) != 32) := fun n => by
  by_cases h : n = 32
  ·subst h; rfl
  ·have h2 : ¬ (n : Int) = 32 := by omega
   simp [h, h2]
 unfold qX
 rw [key, key]
theorem J1f (x : BS × BS) : Pure Tryz.prog 152 [vS x].toArray (.bool (qX x)) := by
 refine Jk Tryz.func152 rfl rfl fun w => ?_; refine J8 ?_; refine Jo 2 rfl ?_; refine LN rfl fun r1 => ?_; refine Xj 7 [0] rfl rfl ?_; refine LR rfl (Qm rfl rfl) ?_; refine LS 2 [] rfl rfl ?_
 refine J4 7 rfl (fun gb => ?_) (fun gb => ?_) <;> (try simp only [ZZ] at gb) <;> first | (refine LR rfl (JD rfl rfl rfl) ?_) | (refine LK rfl ?_)
 all_goals refine LW 1 [0] rfl rfl ?_
 all_goals first | refine LR rfl (Qm rfl rfl) ?_ | refine LK rfl ?_
 all_goals (
  refine LW 3 [] rfl rfl (Jx 1 rfl (ZJ 2 rfl ?_)); refine pT rfl rfl rfl fun w1 hs1 => ?_; refine ⟨?_, hs1.keep⟩; rw [Jvs]
  simp_all [JA]
  skip)
theorem Jvt (x : BS × BS) : Pure Tryz.prog 153 [vS x].toArray (.bool (XL x)) := by
 refine Jk Tryz.func153 rfl rfl fun w => ?_; refine J8 ?_; refine Jo 2 rfl ?_; refine LN rfl fun r1 => ?_; refine JI 4 rfl ?_; refine JK 5 (by kernel_rfl) (by kernel_rfl) ?_
 refine Jd rfl rfl rfl (JD rfl rfl rfl) ?_; refine Jd rfl rfl rfl (Jh rfl (kn 0 rfl) rfl rfl) ?_; refine Kz rfl rfl rfl Jo3 Jgm ?_; refine Jd rfl rfl rfl (X5 rfl rfl) ?_; refine Jd rfl rfl rfl (J9 rfl) ?_; refine JW ?_; refine Jx 3 rfl ?_; refine pT rfl rfl rfl fun w1 hs1 => ?_; exact ⟨rfl, hs1.keep⟩
theorem qL {R : Jm} {xs : List (BS × BS)} {p : Pl} (hl : xs.length ≤ 9223372036854775807) (hs : Seg R xs.length (xs.flatMap Q9) p) {g : FuncId} {caps : List Value} {pr : BS × BS → Bool} (eg : Enters Tryz.prog g) (hg : ∀ x ∈ xs, PureR Tryz.prog g (vS x :: caps).toArray (.bool (pr x)) R) :
  PureR Tryz.prog 154 [KP xs.length p, .func (.func g) #[] caps.toArray].toArray (.bool (xs.any pr)) R := by
 have h := wW hl hs eg hg
 refine Ja Tryz.func154 rfl rfl fun w => ?_; refine J8 ?_; refine Jo 9 rfl ?_; refine Jg rfl rfl rfl Jo2 h oR ?_; refine Wo rfl (J2 (congrArg Value.bool Jt1) (Jx 4 rfl ?_)); refine pT rfl rfl rfl fun w1 hs1 => ?_; exact ⟨rfl, hs1.keep⟩
theorem Jgn {R : Jm} {a : AcL} (ha : a.In R) : PureR Tryz.prog 96 [a.val].toArray (.int .i64 (Wj a.er)) R := by
  have h1 := qL (g := 152) (caps := []) ha.len ha.seg (enters_of Tryz.func152 (by kernel_rfl) rfl) (fun x _ => (J1f x).toR)
  have h2 := qL (g := 153) (caps := []) ha.len ha.seg (enters_of Tryz.func153 (by kernel_rfl) rfl) (fun x _ => (Jvt x).toR)
  have h3 := Jqt ha.len ha.seg
  have hl := ha.len
  have hseg := ha.seg
  have hE : Wj a.er = if ¬ ((a.addr.length : Int) = 20) ∨ a.slots.any qX = true then 2 else if QN Prod.fst a.slots = false then 11 else if (512 < (a.code.length : Int)) ∨ (16 < (a.slots.length : Int)) then 5 else if a.slots.any XL = true then 8 else 0 := by
    exact ite_congr (propext (or_congr (by show ¬ a.addr.length = 20 ↔ _; omega) Iff.rfl)) (fun _ => rfl) (fun _ => ite_congr rfl (fun _ => rfl) (fun _ => ite_congr (propext (or_congr (by show a.code.length > 512 ↔ _; omega) (by show a.slots.length > 16 ↔ _; omega))) (fun _ => rfl) (fun _ => rfl)))
  rw [hE]; clear hE
  generalize a.slots.any qX = oB at h1 ⊢
  generalize a.slots.any XL = sBo at h2 ⊢
  generalize QN Prod.fst a.slots = rB at h3 ⊢
  refine Ja Tryz.func96 rfl rfl fun w => ?_; refine J8 ?_; refine Jo 2 rfl ?_; refine LN rfl fun r1 => ?_; refine Xj 19 [0] rfl rfl ?_; refine LR rfl (Qm rfl rfl) ?_; refine LS 2 [] rfl rfl ?_
  refine J4 10 rfl (fun gb => ?_) (fun gb => ?_) <;> (try simp only [ZZ] at gb) <;> first | (refine LR rfl (JD rfl rfl rfl) ?_) | (refine LK rfl ?_)
  all_goals refine LW 2 [0] rfl rfl ?_
  all_goals first | (refine Jg rfl rfl rfl (enters_of Tryz.func154 (by kernel_rfl) rfl) h1 oR ?_) | refine LK rfl ?_
  all_goals (
   refine LW 2 [] rfl rfl (Jx 1 rfl (Y7 1 rfl ?_)); refine Jw rfl (fun h10 => ?_) (fun h10 => ?_)
   try simp only [ZZ] at h10
   refine Kn 8 rfl ?_; refine pT rfl rfl rfl fun w1 hs1 => ?_; refine ⟨?_, hs1.keep⟩; simp only [JA]
   simp_all
   · try exact Bool.noConfusion h10
     all_goals try simp only [ZZ] at h10
     all_goals (
      refine X6 4 [0] rfl rfl ?_; refine Jg rfl rfl rfl (enters_of Tryz.func155 (by kernel_rfl) rfl) h3 oR ?_; refine JI 4 rfl ?_; refine cD (fun h13 => ?_) fun h13 => ?_
      refine Kn 8 rfl ?_; refine pT rfl rfl rfl fun w1 hs1 => ?_; refine ⟨?_, hs1.keep⟩; simp only [JA]
      simp_all
      · refine X6 4 [0] rfl rfl ?_; refine LR rfl (Qm rfl rfl) ?_; refine LS 2 [] rfl rfl ?_
        refine J4 26 rfl (fun gb => ?_) (fun gb => ?_) <;> (try simp only [ZZ] at gb) <;> first | (refine LR rfl (JD rfl rfl rfl) ?_) | (refine LK rfl ?_)
        all_goals refine LW 1 [0] rfl rfl ?_
        all_goals first | refine LR rfl (J3 rfl hseg rfl) ?_ | refine LK rfl ?_
        all_goals (
         refine LW 3 [] rfl rfl (Jx 1 rfl (Y7 1 rfl ?_)); refine Jw rfl (fun h20 => ?_) (fun h20 => ?_)
         try simp only [ZZ] at h20
         refine Kn 8 rfl ?_; refine pT rfl rfl rfl fun w1 hs1 => ?_; refine ⟨?_, hs1.keep⟩; simp only [JA]
         simp_all
         · try exact Bool.noConfusion h20
           all_goals try simp only [ZZ] at h20
           all_goals (
            refine X6 5 [0] rfl rfl ?_; refine Jg rfl rfl rfl (enters_of Tryz.func154 (by kernel_rfl) rfl) h2 oR ?_; refine JI 3 rfl ?_; refine cD (fun h23 => ?_) fun h23 => ?_
            refine Kn 8 rfl ?_; refine pT rfl rfl rfl fun w1 hs1 => ?_; refine ⟨?_, hs1.keep⟩; simp only [JA]
            simp_all
            refine Kn 9 rfl ?_; refine pT rfl rfl rfl fun w1 hs1 => ?_; refine ⟨?_, hs1.keep⟩; simp only [JA]
            simp_all
            skip)
         skip)
      skip)
   skip)
theorem Jvu {R : Jm} {rb e : Nat} {k : BS} (hb : (rb, Obj.cells #[J5 k] e (0, 0)) ∈ R) (a : AcL) : PureR Tryz.prog 43 [vA a, .pointer (some ⟨rb, 0, none⟩)].toArray (.bool (decide (a.addr = k))) R := by
 refine Ja Tryz.func43 rfl rfl fun w => ?_; refine J8 ?_; refine Jo 2 rfl ?_; refine LN rfl fun r1 => ?_; refine Xj 7 [0] rfl rfl ?_; refine LR rfl (Jh rfl (Or.inr hb) rfl rfl) ?_; refine LR rfl (X5 rfl rfl) ?_; refine Jx 4 rfl ?_; refine pT rfl rfl rfl fun w1 hs1 => ?_; exact ⟨rfl, hs1.keep⟩
theorem Jvv {R : Jm} {rb e : Nat} {k : BS} (hb : (rb, Obj.cells #[J5 k] e (0, 0)) ∈ R) (x : BS × BS) : PureR Tryz.prog 115 [vS x, .pointer (some ⟨rb, 0, none⟩)].toArray (.bool (decide (x.1 = k))) R := by
 refine Ja Tryz.func115 rfl rfl fun w => ?_; refine J8 ?_; refine Jo 2 rfl ?_; refine LN rfl fun r1 => ?_; refine Xj 7 [0] rfl rfl ?_; refine LR rfl (Jh rfl (Or.inr hb) rfl rfl) ?_; refine LR rfl (X5 rfl rfl) ?_; refine Jx 4 rfl ?_; refine pT rfl rfl rfl fun w1 hs1 => ?_; exact ⟨rfl, hs1.keep⟩
theorem Jza {R : Jm} {rb e : Nat} {k : BS} (hb : (rb, Obj.cells #[J5 k] e (0, 0)) ∈ R) (x : BS × BS) : PureR Tryz.prog 259 [vS x, .pointer (some ⟨rb, 0, none⟩)].toArray (.bool (decide (x.1 = k))) R := by
 refine Ja Tryz.func259 rfl rfl fun w => ?_; refine J8 ?_; refine Jo 2 rfl ?_; refine LN rfl fun r1 => ?_; refine Xj 7 [0] rfl rfl ?_; refine LR rfl (Jh rfl (Or.inr hb) rfl rfl) ?_; refine LR rfl (X5 rfl rfl) ?_; refine Jx 4 rfl ?_; refine pT rfl rfl rfl fun w1 hs1 => ?_; exact ⟨rfl, hs1.keep⟩
theorem wX {R : Jm} {s : StL} (hs : s.In R) (k : BS) : PureR Tryz.prog 18 [s.val, J5 k].toArray (.tuple #[(Kt s k).val, .bool (WA s k)]) R := by
 have hl := hs.len
 have hseg := hs.seg
 refine Ja Tryz.func18 rfl rfl fun w => ?_; refine J8 ?_; refine Jo 2 rfl ?_; refine LN rfl fun r1 => ?_; refine LN rfl fun r2 => ?_; refine LN rfl fun r3 => ?_; refine Xj 7 [2] rfl rfl ?_; refine LR rfl (JB rfl rfl) ?_; refine Jg (Rl := (r2, Obj.cells #[J5 k] 9 (0, 0)) :: R) rfl rfl rfl (enters_of Tryz.func42 (by kernel_rfl) rfl) (Jqr (caps := [.pointer (some ⟨r2, 0, none⟩)]) (pr := fun a => decide (a.addr = k)) hl (hseg.mono fun q hq => List.mem_cons_of_mem _ hq) (enters_of Tryz.func43 (by kernel_rfl) rfl) (fun a _ => Jvu List.mem_cons_self a)) (fun q hq => (List.mem_cons.1 hq).elim (fun h => Or.inl (by rw [h]; simp)) Or.inr) ?_; refine JI 10 rfl ?_; refine cD (fun g => ?_) fun g => ?_
 refine JP 1 rfl ?_
 have hf := wn (by assumption)
 refine Jo 1 rfl ?_; refine LR rfl (Js (r := [_, _, _, _, _, _, _, _]) rfl rfl) ?_
 refine LT 0 rfl rfl ?_; refine Jx 5 rfl ?_; refine Jf rfl rfl (.cons (Jq (vs := [_, _, _, _, _, _, _, _]) rfl (kn 0 rfl) rfl rfl) (.cons (Jj rfl) .nil)) (fun w1 hs1 => ?_); refine ⟨?_, hs1.keep⟩; rw [(zr hf).1, (zr hf).2]; rfl
 ·refine JP 3 rfl ?_
  obtain ⟨i, a, hidx, ha, hf⟩ := Jh8 (by assumption)
  refine X6 4 [2] rfl rfl ?_
  refine LR rfl (Ju (j := i) rfl hseg rfl rfl rfl (by first | rfl | omega) (by have := (List.getElem?_eq_some_iff.1 ha).1; omega)) ?_; refine LR rfl (Kp AcL.len oR rfl hseg ha rfl rfl) ?_
  refine LT 0 rfl rfl ?_; refine Jx 4 rfl ?_; refine Jf rfl rfl (.cons (Jq (vs := [_, _, _, _, _, _, _, _]) rfl (kn 0 rfl) rfl rfl) (.cons (Jj rfl) .nil)) (fun w1 hs1 => ?_); refine ⟨?_, hs1.keep⟩; rw [(Jdh hf).1, (Jdh hf).2]; rfl
theorem Yi {R : Jm} {s : StL} (hs : s.In R) : PureR Tryz.prog 44 [s.val].toArray (.int .i64 (KR s.er)) R := by
  have hl : s.accts.length ≤ 9223372036854775807 := hs.len
  have hseg := hs.seg
  obtain ⟨hc5, hcg⟩ := Jt6 s
  refine Ja Tryz.func44 rfl rfl fun w => ?_; refine J8 ?_; refine Jo 2 rfl ?_; refine LN rfl fun r1 => ?_; refine Xj 8 [0] rfl rfl ?_; refine LR rfl (J3 rfl hseg rfl) ?_; refine JI 3 rfl ?_; refine cD (fun g => ?_) fun g => ?_
  refine Kn 7 rfl ?_; refine pT rfl rfl rfl fun w1 hs1 => ?_; refine ⟨?_, hs1.keep⟩; rw [hc5 (by assumption)]; rfl
  · refine X6 7 [0] rfl rfl ?_; refine LR rfl (J3 rfl hseg rfl) ?_; refine JI 4 rfl ?_; refine J1 (σ := Nat) (fun i => i ≤ s.accts.length ∧ goS (Ya s.er i) (s.er.drop i) = goS none s.er) (fun i => [(1, .pointer (some ⟨r1, 0, none⟩)), (11, KP s.accts.length s.p), (12, .int .i64 (s.accts.length : Int)), (13, .int .i64 (i : Int))]) (fun _ => [(r1, .cells s.cells.toArray 36 (0, 0))]) (fun _ _ _ => True) (fun i => s.accts.length - i) 0 ⟨Nat.zero_le _, rfl⟩ (lK rfl) (List.Sublist.refl _) (fun _ _ h => h) ?_; rintro i ⟨hi1, hinv⟩; refine JP 6 rfl ?_; refine cD (fun g => ?_) fun g => ?_
    · refine JP 5 rfl ?_
      obtain ⟨a, ha, hma⟩ := QM (show i < s.accts.length by omega)
      rw [Jt2 (Yw ha)] at hinv; refine Jo 2 rfl ?_
      refine LR rfl (Ju (j := i) rfl hseg rfl rfl rfl (by first | rfl | omega) (by omega)) ?_; refine LR rfl (Kp AcL.len oR rfl hseg ha rfl rfl) ?_; refine LN rfl fun r2 => ?_; refine Qx rfl (Jc (k := 0) (n := 8) (ys := a.cells) rfl rfl rfl rfl rfl a.len rfl a.one rfl (JC 4 rfl ?_)); refine LR rfl (Jb (xs := a.cells) (n := 8) rfl (kn 0 rfl) rfl rfl a.len) ?_; refine Jg rfl rfl rfl Jym (Jgn (hs.accts a hma)) oR ?_; refine JC 9 rfl ?_
      refine J4 22 rfl (fun gb => ?_) (fun gb => ?_) <;> (try simp only [ZZ] at gb) <;> first | (refine Qx rfl ?_) | (refine LK rfl ?_)
      all_goals refine LW 3 [] rfl rfl ?_
      all_goals first | refine LK rfl ?_ | (refine J4 26 rfl (fun gb => ?_) (fun gb => ?_) <;> (try simp only [ZZ] at gb) <;> first | (refine LR rfl (JD rfl rfl rfl) ?_) | (refine LK rfl ?_))
      all_goals refine LW 2 [1] rfl rfl ?_
      all_goals first | (refine Wo rfl ?_; refine Je (by omega) (by omega) ?_) | refine LK rfl ?_
      all_goals refine LW 1 [] rfl rfl ?_
      all_goals first | (refine Wo rfl ?_; refine Je (by omega) (by omega) ?_) | refine LK rfl ?_
      all_goals first | (obtain ⟨x, hx, hmx⟩ := QM (show i - 1 < s.accts.length by omega); refine LR rfl (Jlc (sz := 8) (a := i - 1) (b := i + 1) (m := 2) rfl hseg rfl rfl (by omega) (by omega) rfl rfl (by omega) (by omega) (by omega)) ?_; have hlast := Jt5 hx (show i - 1 + 1 = i by omega)) | refine LK rfl ?_
      all_goals first | (refine Jg rfl rfl rfl (enters_of Tryz.func97 (by kernel_rfl) rfl) (Jqs (xs := [x, a]) (show 2 ≤ 9223372036854775807 by decide) (hseg.two AcL.len hx ha (by omega))) oR ?_; refine J2 (congrArg Value.bool (Jf0 x a)) ?_) | refine LK rfl ?_
      all_goals (
       refine LW 2 [] rfl rfl (Jx 1 rfl (Y7 1 rfl ?_)); refine Jw rfl (fun g => ?_) (fun g => ?_)
       · try exact Bool.noConfusion g
         all_goals try simp only [ZZ] at g
         all_goals (
          refine JP 5 rfl ?_
          have hst : VF (Ya s.er i) a.er = 11 ∨ VF (Ya s.er i) a.er = Wj a.er := by unfold VF; split <;> simp
          have hst : VF (Ya s.er i) a.er = 11 := Jt3 (by assumption) hlast (by assumption)
          rw [hst] at hinv; refine JP 5 rfl ?_; refine Jw rfl (fun g => ?_) (fun g => ?_)
          try simp only [ZZ] at g
          refine Kn 12 rfl ?_; refine pT rfl rfl rfl fun w1 hs1 => ?_; refine ⟨?_, hs1.keep⟩; rw [hcg (by omega), ← hinv, if_pos (by simp_all)]; rfl
          try exact Bool.noConfusion g
          skip)
       · try simp only [ZZ] at g
         refine JP 3 rfl ?_
         have hst : VF (Ya s.er i) a.er = 11 ∨ VF (Ya s.er i) a.er = Wj a.er := by unfold VF; split <;> simp
         have hst : VF (Ya s.er i) a.er = Wj a.er := Jt4 (by first | exact Or.inl (by assumption) | exact Or.inr (Or.inl (by rw [show i = 0 by omega]; rfl)) | exact Or.inr (Or.inr ⟨_, hlast, by assumption⟩))
         rw [hst] at hinv; refine JP 5 rfl ?_; refine cD (fun g => ?_) fun g => ?_
         refine Kn 12 rfl ?_; refine pT rfl rfl rfl fun w1 hs1 => ?_; refine ⟨?_, hs1.keep⟩; rw [hcg (by omega), ← hinv, if_pos (by simp_all)]; rfl
         refine Jo 5 rfl ?_; refine Je (by omega) (by omega) ?_; refine Jx 2 rfl ?_; refine Jz ?_; exact Jv (i + 1) ⟨by omega, by rw [if_neg (by simp_all)] at hinv; exact hinv⟩ (by omega) (lK rfl) (List.sublist_cons_self _ _) (fun _ _ h => h)
       skip)
    · refine Kn 11 rfl ?_; refine pT rfl rfl rfl fun w1 hs1 => ?_; refine ⟨?_, hs1.keep⟩; rw [hcg (by omega), ← hinv, List.drop_of_length_le (by rw [s.er_len]; omega)]; rfl
theorem Jgo {R : Jm} {a : AcL} (ha : a.In R) (k : BS) : PureR Tryz.prog 60 [a.val, J5 k].toArray (J5 (KM a.er k)) R := by
 have hl : a.slots.length ≤ 9223372036854775807 := ha.len
 have hseg := ha.seg
 refine Ja Tryz.func60 rfl rfl fun w => ?_; refine J8 ?_; refine Jo 2 rfl ?_; refine LN rfl fun r1 => ?_; refine LN rfl fun r2 => ?_; refine Xj 7 [1] rfl rfl ?_; refine LR rfl (JB rfl rfl) ?_; refine Jg (Rl := (r2, Obj.cells #[J5 k] 9 (0, 0)) :: R) rfl rfl rfl Jo2 (wW (caps := [.pointer (some ⟨r2, 0, none⟩)]) (pr := fun x => decide (x.1 = k)) hl (hseg.mono fun q hq => List.mem_cons_of_mem _ hq) (enters_of Tryz.func115 (by kernel_rfl) rfl) (fun x _ => Jvv List.mem_cons_self x)) (fun q hq => (List.mem_cons.1 hq).elim (fun h => Or.inl (by rw [h]; simp)) Or.inr) ?_; refine JI 10 rfl ?_; refine cD (fun g => ?_) fun g => ?_
 refine JP 1 rfl ?_
 have hf := wn (by assumption)
 refine Jo 1 rfl ?_; refine Jl rfl rfl rfl Jo3 Jgm ?_; refine Jx 5 rfl ?_; refine pT rfl rfl rfl fun w1 hs1 => ?_; refine ⟨?_, hs1.keep⟩; rw [Jle (a := a.er) hf]; rfl
 ·refine JP 3 rfl ?_
  obtain ⟨i, x, hidx, hx, hf⟩ := Jh8 (by assumption)
  refine X6 4 [1] rfl rfl ?_
  refine LR rfl (Ju (j := i) rfl hseg rfl rfl rfl (by first | rfl | omega) (by have := (List.getElem?_eq_some_iff.1 hx).1; omega)) ?_; refine LR rfl (QG (off' := plO a.p + (i * 2 + 1)) rfl rfl (by show plO a.p + i * 2 + 1 = _; omega)) ?_; refine LR rfl (j5 Kl (k := 1) (v := J5 x.2) oR rfl hseg hx rfl rfl) ?_; refine Jx 4 rfl ?_; refine pT rfl rfl rfl fun w1 hs1 => ?_; refine ⟨?_, hs1.keep⟩; rw [Jom (a := a.er) hf]; rfl
theorem Jqy {R : Jm} {xs : List (BS × BS)} {row : QV} (hl : xs.length ≤ 1000) (hrow : rowOk 2 xs.length (xs.flatMap Q9) row) {g : FuncId} {caps : List Value} {pr : BS × BS → Bool} (eg : Enters Tryz.prog g) (hg : ∀ x ∈ xs, PureR Tryz.prog g (vS x :: caps).toArray (.bool (pr x)) R) :
  PureT (α := { row' : QV // rowOk 2 (xs.filter fun x => !pr x).length ((xs.filter fun x => !pr x).flatMap Q9) row' }) Tryz.prog 258 [JE xs.length row, .func (.func g) #[] caps.toArray].toArray (fun x => JE (xs.filter fun x => !pr x).length x.1) (JR 97 (xs.flatMap Q9) row) (fun x => JR 97 ((xs.filter fun x => !pr x).flatMap Q9) x.1) R := by
 have hseg := KJ (e := 97) hrow (by decide)
 have hV := Xp xs.length row (fun h => by subst h; exact hrow.1)
 have hidx := wW (R := JR 97 (xs.flatMap Q9) row ++ R) (by omega) (hseg.mono fun q hq => List.mem_append_left _ hq) eg (fun x hx => (hg x hx).mono fun q hq => List.mem_append_right _ hq)
 rw [hV] at hidx
 obtain ⟨m, hm⟩ : ∃ m, m = Yu pr xs := ⟨_, rfl⟩
 rw [← hm] at hidx; refine Jt Tryz.func258 rfl rfl fun w => ?_; refine J8 ?_; refine Jo 9 rfl ?_; refine Jg (Rl := JR 97 (xs.flatMap Q9) row ++ R) rfl rfl rfl Jo2 hidx (fun q hq => (List.mem_append.1 hq).elim Or.inl Or.inr) ?_; refine JI 10 rfl ?_; refine cD (fun h5 => ?_) fun h5 => ?_
 refine Kn 8 rfl ?_; refine pT rfl rfl rfl fun w1 hs1 => ?_
 (have hall := Jt8 (pr := pr) (xs := xs) (by omega)
  rw [hall]
  exact ⟨⟨row, hrow⟩, rfl, hs1⟩)
 ·refine JP 4 rfl ?_
  obtain ⟨i, e0⟩ : ∃ i : Nat, m = (i : Int) := by
   rcases wm (pr := pr) (xs := xs) with ⟨h, _⟩ | ⟨i, _, h, _⟩
   ·unfold Yu at hm h; split at hm <;> split at h <;> first | omega | simp_all
   exact ⟨i, hm.trans h⟩
  subst e0
  obtain ⟨hil, hif⟩ := Jt7 hm.symm
  obtain ⟨r, cap, sp, rfl⟩ := row_some hrow (by omega)
  obtain ⟨hr1, hr2⟩ := hrow
  obtain ⟨x0, hx0, _⟩ := QM hil
  have hsplit : xs.flatMap Q9 ++ sp = ((xs.take (i + 1)).filter fun x => !pr x).flatMap Q9 ++ (Q9 x0 ++ ((xs.drop (i + 1)).flatMap Q9 ++ sp)) := by
   rw [hif, ← List.append_assoc (Q9 x0), ← Jdi hx0, ← List.append_assoc, ← List.flatMap_append, List.take_append_drop]
  change HC _ _ _ [(r, .cells (xs.flatMap Q9 ++ sp).toArray 97 (0, 0))] _ _ _; rw [hsplit]
  have hcap : xs.length ≤ cap := by omega
  have hi1 : ((xs.take (i + 1)).filter fun x => !pr x).length = i := by rw [hif, List.length_take]; omega
  refine Jo 3 rfl ?_; refine Je (by omega) (by omega) ?_; refine JI 4 rfl ?_; refine J1 (σ := Nat × List Value) (fun s => s.1 ≤ xs.length ∧ ((xs.take s.1).filter fun x => !pr x).length < s.1 ∧ s.2.length + ((xs.take s.1).filter fun x => !pr x).length * 2 = s.1 * 2) (fun s => [(0, .slice (some ⟨r, 0, none⟩) xs.length cap), (1, .func (.func g) #[] caps.toArray), (5, .int .i64 (((xs.take s.1).filter fun x => !pr x).length : Nat)), (6, .int .i64 (s.1 : Int))]) (fun s => [(r, .cells (((xs.take s.1).filter fun x => !pr x).flatMap Q9 ++ (s.2 ++ ((xs.drop s.1).flatMap Q9 ++ sp))).toArray 97 (0, 0))]) (fun _ _ _ => True) (fun s => xs.length - s.1) (i + 1, Q9 x0) ⟨by simp only; omega, by simp only; omega, by simp only [Kl]; omega⟩ (.cons rfl (.cons rfl (.cons (by rw [hi1]; rfl) (.cons rfl .nil)))) (List.Sublist.refl _) (fun _ _ h => h) ?_; rintro ⟨j, G⟩ ⟨hj1, hj2, hG⟩; simp only at hj1 hj2 hG; change HC _ _ [(0, _), (1, _), (5, .int .i64 (((xs.take j).filter fun x => !pr x).length : Nat)), (6, .int .i64 (j : Int))] [(r, .cells (((xs.take j).filter fun x => !pr x).flatMap Q9 ++ (G ++ ((xs.drop j).flatMap Q9 ++ sp))).toArray 97 (0, 0))] _ _ _; refine Jo 5 rfl ?_; refine LR rfl (JU rfl rfl) ?_; refine JI 3 rfl ?_; refine cD (fun h11 => ?_) fun h11 => ?_
  refine JP 5 rfl ?_
  obtain ⟨x, hx, hmx⟩ := QM (show j < xs.length by omega)
  rw [Jdi hx, List.append_assoc (Q9 x)]; refine Jo 3 rfl ?_; refine LR rfl (JH (j := j) (m := 2) rfl rfl rfl rfl rfl (by omega) rfl) ?_; refine LR rfl (Jp (n := 2) (vs := Q9 x) rfl (kn 0 rfl) rfl rfl (by simp only [List.toList_toArray]; rw [← List.append_assoc, List.drop_left' (by rw [List.length_append, Ks Kl]; omega), List.take_left' (Kl x)]) rfl) ?_; refine LN rfl fun r1 => ?_; refine Jc (k := 0) (n := 2) (ys := Q9 x) rfl rfl rfl rfl rfl rfl rfl rfl rfl ?_; refine JC 5 rfl ?_; refine LR rfl (Jb (xs := Q9 x) (n := 2) rfl (kn 0 rfl) rfl rfl rfl) ?_; refine Jg rfl rfl rfl eg (hg x hmx) oR ?_; refine JI 3 rfl ?_; refine cD (fun h15 => ?_) fun h15 => ?_
  refine JP 1 rfl ?_
  obtain ⟨M, G2, hcut, lM⟩ := cut (l := G ++ Q9 x) (a := 2) (by rw [List.length_append, Kl]; omega)
  have lG2 : G2.length = G.length := by have := congrArg List.length hcut; simp only [List.length_append, Kl] at this; omega
  have hkeep := Yb (pr := fun x => !pr x) hx
  rw [if_pos (by simp_all)] at hkeep; refine Jo 3 rfl ?_; refine LR rfl (Jb (xs := Q9 x) (n := 2) rfl (kn 0 rfl) rfl rfl rfl) ?_; refine LR rfl (JH (j := ((xs.take j).filter fun x => !pr x).length) (m := 2) rfl rfl rfl rfl rfl (by omega) rfl) ?_; refine Qk (k := 1) (n := 2) (vs := (Q9 x).toArray) (cs' := (((xs.take j).filter fun x => !pr x).flatMap Q9 ++ (Q9 x ++ (G2 ++ ((xs.drop (j + 1)).flatMap Q9 ++ sp)))).toArray) rfl rfl rfl rfl rfl rfl rfl (by simp only [List.size_toArray, List.length_append, Ks Kl]; omega) (by apply Array.toList_inj.1; simp only [List.toList_toArray, Nat.zero_add]; rw [show G ++ (Q9 x ++ ((xs.drop (j + 1)).flatMap Q9 ++ sp)) = M ++ (G2 ++ ((xs.drop (j + 1)).flatMap Q9 ++ sp)) by rw [← List.append_assoc, hcut, List.append_assoc]]; exact Xo (Ks Kl _) lM) rfl ?_; refine JC 5 rfl ?_; refine Je (by omega) (by omega) ?_; refine JC 7 rfl ?_; refine Je (by omega) (by omega) ?_; refine Jx 2 rfl ?_; refine Jz ?_; exact Jv (j + 1, G2) ⟨by simp only; omega, by simp only; rw [hkeep, List.length_append, List.length_singleton]; omega, by simp only; rw [hkeep, List.length_append, List.length_singleton]; omega⟩ (by simp only; omega) (.cons rfl (.cons rfl (.cons (by simp only [QB]; rw [hkeep, List.length_append, List.length_singleton]; rfl) (.cons rfl .nil)))) (by simp only [hkeep, List.flatMap_append, List.flatMap_singleton, List.append_assoc]; exact List.sublist_cons_self _ _) (fun _ _ h => h)
  refine Jo 6 rfl ?_; refine Je (by omega) (by omega) ?_; refine Jx 2 rfl ?_; refine Jz ?_
  (have hdel := Yb (pr := fun x => !pr x) hx
   rw [if_neg (by simp_all), List.append_nil] at hdel
   exact Jv (j + 1, G ++ Q9 x) ⟨by simp only; omega, by simp only; rw [hdel]; omega, by simp only [List.length_append, Kl]; rw [hdel]; omega⟩ (by simp only; omega) (.cons rfl (.cons rfl (.cons (by simp only [QB]; rw [hdel]; try rfl) (.cons rfl .nil)))) (by simp only [hdel, List.append_assoc]; exact List.sublist_cons_self _ _) (fun _ _ h => h))
  ·refine JP 6 rfl ?_
   have hjn : j = xs.length := by omega
   have hdrop : (xs.drop j).flatMap Q9 = [] := by rw [List.drop_of_length_le (by omega)]; rfl
   rw [hdrop, List.nil_append]; refine Jo 3 rfl ?_; refine LR rfl (JO (sz := 2) (m := ((xs.take j).filter fun x => !pr x).length) (kl := some ((xs.take j).filter fun x => !pr x).length) (kh := none) (km := none) (q := xs.length) (z := cap) (off' := ((xs.take j).filter fun x => !pr x).length * 2) rfl rfl rfl ⟨_, rfl⟩ trivial trivial rfl rfl rfl (by omega) (by omega) (by omega) (fun _ => rfl) (by rw [if_neg (by omega)]; omega)) ?_; refine zo (k := 0) (sz := 2) rfl rfl rfl rfl rfl rfl rfl (by decide) (by simp only [List.size_toArray, List.length_append, Ks Kl, List.length_drop]; omega) (Xo (P := ((xs.take j).filter fun x => !pr x).flatMap Q9) (M := G) (S := sp) (Ks Kl _) (by omega)) rfl ?_; refine JC 6 rfl ?_
   refine LR rfl (JO (sz := 2) (q := ((xs.take j).filter fun x => !pr x).length) (kl := none) (kh := some ((xs.take j).filter fun x => !pr x).length) (km := none) (m := 0) (z := cap) (off' := 0) rfl rfl rfl trivial ⟨_, rfl⟩ trivial rfl rfl rfl (by omega) (by omega) (by omega) (fun h => by cases h) (by split <;> omega)) ?_; refine Jx 4 rfl ?_; refine pT rfl rfl rfl fun w1 hs1 => ?_
   (have hfull : (xs.take j).filter (fun x => !pr x) = xs.filter fun x => !pr x := by rw [hjn, List.take_length]
    rw [hfull] at hs1 ⊢; refine ⟨⟨some (r, cap, _), Ks Kl _, ?_⟩, rfl, hs1.weakL (by simp only [JR]; exact List.Sublist.refl _)⟩
    have hz : ∀ n, (Builtin.zeroCells (Value.agg #[Value.string ⟨#[]⟩, Value.string ⟨#[]⟩]).cells n).toList.length = n * 2 := fun n => by rw [Array.length_toList, size_zeroCells]; rfl
    rw [List.length_append, hz]
    have := List.length_filter_le (fun x => !pr x) xs
    omega)
theorem J1g {R : Jm} {a : AcL} (ha : a.In R) (k v : BS) : PureT (α := AcRes R (Wb a.er k v)) Tryz.prog 197 [a.val, J5 k, J5 v].toArray (fun x => x.val) [] (fun x => x.L) R := by
  have hlk := Jgn ha
  have hl := ha.len
  have hseg := ha.seg
  have hset : Wb a.er k v = if Wj a.er ≠ 0 then (a.er, Wj a.er) else if k.length ≠ 32 ∨ v.length ≠ 32 then (a.er, 2) else if (KI a.slots k v).length > 16 then (a.er, 5) else (⟨a.addr, a.nonce, a.bal, a.code, KI a.slots k v⟩, 0) := rfl
  refine Jt Tryz.func197 rfl rfl fun w => ?_; refine J8 ?_; refine Jo 2 rfl ?_; refine LN rfl fun r1 => ?_; refine LN rfl fun r2 => ?_; refine LN rfl fun r3 => ?_; refine JC 6 rfl ?_; refine LR rfl (Jp (vs := [_, _, _, _, _, _, _, _]) rfl (kn 2 rfl) rfl rfl rfl rfl) ?_; refine Jg rfl rfl rfl Jym hlk oR ?_; refine JI 9 rfl ?_; refine cD (fun g => ?_) fun g => ?_
  refine X6 4 [2] rfl rfl ?_
  refine LT 0 rfl rfl ?_; refine Jx 5 rfl ?_; refine Jf rfl rfl (.cons (Jq (vs := [_, _, _, _, _, _, _, _]) rfl (kn 0 rfl) rfl rfl) (.cons (Jj rfl) .nil)) (fun w1 hs1 => ?_); rw [hset, if_pos (by omega)]; exact ⟨⟨a, Wj a.er, [], ha, rfl⟩, rfl, hs1.weakL (List.nil_sublist _)⟩
  · refine Jo 5 rfl ?_; refine LR rfl (Jh rfl (kn 1 rfl) rfl rfl) ?_; refine LR rfl (Qm rfl rfl) ?_; refine LS 2 [] rfl rfl ?_
    refine J4 19 rfl (fun gb => ?_) (fun gb => ?_) <;> (try simp only [ZZ] at gb) <;> first | (refine Qx rfl ?_) | (refine LK rfl ?_)
    all_goals first | refine LR rfl (Qm rfl rfl) ?_ | refine LK rfl ?_
    all_goals (
     refine LW 2 [] rfl rfl (Jx 1 rfl (Y7 1 rfl ?_)); refine Jw rfl (fun g => ?_) (fun g => ?_)
     try simp only [ZZ] at g
     refine Jo 2 rfl ?_; refine LR rfl (Jp (vs := [_, _, _, _, _, _, _, _]) rfl (kn 2 rfl) rfl rfl rfl rfl) ?_
     refine LT 0 rfl rfl ?_; refine Jx 5 rfl ?_; refine Jf rfl rfl (.cons (Jq (vs := [_, _, _, _, _, _, _, _]) rfl (kn 0 rfl) rfl rfl) (.cons (Jj rfl) .nil)) (fun w1 hs1 => ?_); rw [hset, if_neg (by omega), if_pos (by omega)]; exact ⟨⟨a, 2, [], ha, rfl⟩, rfl, hs1.weakL (List.nil_sublist _)⟩
     · try exact Bool.noConfusion g
       all_goals try simp only [ZZ] at g
       all_goals (
        refine JP 3 rfl ?_
        have hok : Kx Prod.fst a.slots ∧ a.slots.length ≤ 16 := ⟨(Q1 (a := a.er) (by omega)).2.2.1, (Q1 (a := a.er) (by omega)).2.2.2.2⟩
        have hinl : (Qg Prod.fst (k, v) a.slots).length ≤ 17 := by
          have := hok.2
          rw [Jhy hok.1]
          split <;> omega
        refine X6 5 [2, 1] rfl rfl ?_; refine LR rfl (Js (r := [_, _]) rfl rfl) ?_; refine Ke rfl rfl rfl (enters_of Tryz.func257 (by kernel_rfl) rfl) (Jvr (by have := hok.2; omega) hseg hok.1 (k, v)) oR fun x => ?_
        obtain ⟨row, hrow⟩ := x
        refine JY List.perm_append_comm ?_; change HL _ _ ((30, JE (Qg Prod.fst (k, v) a.slots).length row) :: _) ((r3, _) :: (r2, _) :: (r1, _) :: JR _ _ row) _ _ _ _; refine JC 7 rfl ?_; refine Jl rfl rfl rfl Jo3 Jgm ?_; refine LR rfl (X5 rfl rfl) ?_; refine JI 2 rfl ?_; refine cD (fun g => ?_) fun g => ?_
        have hdC := Jqy (R := [(r2, Obj.cells #[J5 k] 9 (0, 0))]) (caps := [.pointer (some ⟨r2, 0, none⟩)]) (pr := fun x => decide (x.1 = k)) (by omega) hrow (enters_of Tryz.func259 (by kernel_rfl) rfl) (fun x _ => Jza List.mem_cons_self x)
        rw [Jf1, show qg Prod.fst k a.slots = KI a.slots k v from by unfold KI; rw [if_pos (by assumption)]] at hdC; refine Jo 2 rfl ?_; refine LR rfl (JB rfl rfl) ?_; refine Qh (T := JR _ _ row) (L0 := [(r3, _), (r2, _), (r1, _)]) (Rl := [(r2, Obj.cells #[J5 k] 9 (0, 0))]) (List.perm_append_comm (l₁ := [_, _, _])) rfl rfl rfl (enters_of Tryz.func258 (by kernel_rfl) rfl) hdC (fun q hq => Or.inl (by rw [List.mem_singleton.1 hq]; exact List.mem_cons_of_mem _ List.mem_cons_self)) fun x => ?_
        obtain ⟨row2, hrow2⟩ := x
        refine JY List.perm_append_comm ?_; change HL _ _ ((36, JE (KI a.slots k v).length row2) :: _) ((r3, _) :: (r2, _) :: (r1, _) :: JR _ _ row2) _ _ _ _; refine JI 5 rfl ?_
        try rw [show Qg Prod.fst (k, v) a.slots = KI a.slots k v from by unfold KI; rw [if_neg (by assumption)]] at hrow ⊢
        refine Jo 2 rfl ?_; refine LR rfl (Xi rfl hrow2.zero rfl) ?_; refine JI 3 rfl ?_; refine cD (fun g => ?_) fun g => ?_
        refine Jo 2 rfl ?_; refine LR rfl (Jp (vs := [_, _, _, _, _, _, _, _]) rfl (kn 2 rfl) rfl rfl rfl rfl) ?_
        refine LT 0 rfl rfl ?_; refine Jx 5 rfl ?_; refine Jf rfl rfl (.cons (Jq (vs := [_, _, _, _, _, _, _, _]) rfl (kn 0 rfl) rfl rfl) (.cons (Jj rfl) .nil)) (fun w1 hs1 => ?_); rw [hset, if_neg (by omega), if_neg (by omega), if_pos (by omega)]; exact ⟨⟨a, 5, [], ha, rfl⟩, rfl, hs1.weakL (List.nil_sublist _)⟩
        refine Jo 6 rfl ?_; refine KC (k := 2) (cs' := #[J5 a.addr, uV a.nonce, uV a.bal.a, uV a.bal.b, uV a.bal.c, uV a.bal.d, J5 a.code, JE (KI a.slots k v).length row2]) rfl rfl rfl rfl rfl (YK _ _) rfl rfl rfl rfl ?_; refine JC 4 rfl ?_; refine LR rfl (Jp (vs := [_, _, _, _, _, _, _, _]) rfl (kn 2 rfl) rfl rfl rfl rfl) ?_; refine Qk (k := 0) (n := 8) (cs' := #[J5 a.addr, uV a.nonce, uV a.bal.a, uV a.bal.b, uV a.bal.c, uV a.bal.d, J5 a.code, JE (KI a.slots k v).length row2]) (vs := #[_, _, _, _, _, _, _, _]) rfl rfl rfl rfl rfl rfl (by show (Q6 (JE _ _) && true) = true; rw [YK]; rfl) (by exact Nat.le_of_ble_eq_true rfl) rfl rfl ?_; refine Jx 4 rfl ?_; refine Jf rfl rfl (.cons (Jq (vs := [_, _, _, _, _, _, _, _]) rfl (kn 0 rfl) rfl rfl) (.cons (Jj rfl) .nil)) (fun w1 hs1 => ?_)
        (rw [hset, if_neg (by omega), if_neg (by omega), if_neg (by omega)]
         exact ⟨⟨⟨a.addr, a.nonce, a.bal, a.code, KI a.slots k v, Vd row2⟩, 0, JR 97 ((KI a.slots k v).flatMap Q9) row2, ZN ha (by omega) (by omega) (by omega) (KJ hrow2 (by decide)), rfl⟩, by show Ending.returned _ = Ending.returned (Value.tuple #[Value.agg #[J5 a.addr, uV a.nonce, uV a.bal.a, uV a.bal.b, uV a.bal.c, uV a.bal.d, J5 a.code, KP (KI a.slots k v).length (Vd row2)], .int .i64 0]); rw [Xp _ _ hrow2.zero]; rfl, hs1.weakL (List.sublist_append_right [_, _, _] _)⟩)
        refine JP 4 rfl ?_
        try rw [show Qg Prod.fst (k, v) a.slots = KI a.slots k v from by unfold KI; rw [if_neg (by assumption)]] at hrow ⊢
        refine Jo 2 rfl ?_; refine LR rfl (Xi rfl hrow.zero rfl) ?_; refine JI 3 rfl ?_; refine cD (fun g => ?_) fun g => ?_
        refine Jo 2 rfl ?_; refine LR rfl (Jp (vs := [_, _, _, _, _, _, _, _]) rfl (kn 2 rfl) rfl rfl rfl rfl) ?_
        refine LT 0 rfl rfl ?_; refine Jx 5 rfl ?_; refine Jf rfl rfl (.cons (Jq (vs := [_, _, _, _, _, _, _, _]) rfl (kn 0 rfl) rfl rfl) (.cons (Jj rfl) .nil)) (fun w1 hs1 => ?_); rw [hset, if_neg (by omega), if_neg (by omega), if_pos (by omega)]; exact ⟨⟨a, 5, [], ha, rfl⟩, rfl, hs1.weakL (List.nil_sublist _)⟩
        refine Jo 6 rfl ?_; refine KC (k := 2) (cs' := #[J5 a.addr, uV a.nonce, uV a.bal.a, uV a.bal.b, uV a.bal.c, uV a.bal.d, J5 a.code, JE (KI a.slots k v).length row]) rfl rfl rfl rfl rfl (YK _ _) rfl rfl rfl rfl ?_; refine JC 4 rfl ?_; refine LR rfl (Jp (vs := [_, _, _, _, _, _, _, _]) rfl (kn 2 rfl) rfl rfl rfl rfl) ?_; refine Qk (k := 0) (n := 8) (cs' := #[J5 a.addr, uV a.nonce, uV a.bal.a, uV a.bal.b, uV a.bal.c, uV a.bal.d, J5 a.code, JE (KI a.slots k v).length row]) (vs := #[_, _, _, _, _, _, _, _]) rfl rfl rfl rfl rfl rfl (by show (Q6 (JE _ _) && true) = true; rw [YK]; rfl) (by exact Nat.le_of_ble_eq_true rfl) rfl rfl ?_; refine Jx 4 rfl ?_; refine Jf rfl rfl (.cons (Jq (vs := [_, _, _, _, _, _, _, _]) rfl (kn 0 rfl) rfl rfl) (.cons (Jj rfl) .nil)) (fun w1 hs1 => ?_)
        (rw [hset, if_neg (by omega), if_neg (by omega), if_neg (by omega)]
         exact ⟨⟨⟨a.addr, a.nonce, a.bal, a.code, KI a.slots k v, Vd row⟩, 0, JR 97 ((KI a.slots k v).flatMap Q9) row, ZN ha (by omega) (by omega) (by omega) (KJ hrow (by decide)), rfl⟩, by show Ending.returned _ = Ending.returned (Value.tuple #[Value.agg #[J5 a.addr, uV a.nonce, uV a.bal.a, uV a.bal.b, uV a.bal.c, uV a.bal.d, J5 a.code, KP (KI a.slots k v).length (Vd row)], .int .i64 0]); rw [Xp _ _ hrow.zero]; rfl, hs1.weakL (List.sublist_append_right [_, _, _] _)⟩)
        skip)
     skip)
theorem J1h {R : Jm} {s : StL} {a : AcL} (hs : s.In R) (ha : a.In R) : PureT (α := StRes R (qh s.er a.er)) Tryz.prog 196 [s.val, a.val].toArray (fun x => x.val) [] (fun x => x.L) R := by
 have hc := Yi hs
 have hlk := Jgn ha
 have hl := hs.len
 have hseg := hs.seg
 have hput : qh s.er a.er = if KR s.er ≠ 0 then (s.er, KR s.er) else if Wj a.er ≠ 0 then (s.er, Wj a.er) else if (Qg AcE.addr a.er s.er).length > 32 then (s.er, 5) else (Qg AcE.addr a.er s.er, 0) := rfl
 have hil : (Qg AcE.addr a.er s.er).length = (Qg AcL.addr a s.accts).length := by unfold StL.er; rw [← Jf2, List.length_map]
 rw [hil] at hput; refine Jt Tryz.func196 rfl rfl fun w => ?_; refine J8 ?_; refine Jo 2 rfl ?_; refine LN rfl fun r1 => ?_; refine LN rfl fun r2 => ?_; refine LN rfl fun r3 => ?_; refine JC 6 rfl ?_; refine LR rfl (Jp (vs := [_]) rfl (kn 2 rfl) rfl rfl rfl rfl) ?_; refine Jg rfl rfl rfl Jo0 hc oR ?_; refine JI 9 rfl ?_; refine cD (fun g => ?_) fun g => ?_
 refine X6 4 [2] rfl rfl ?_
 refine LT 0 rfl rfl ?_; refine Jx 5 rfl ?_; refine Jf rfl rfl (.cons (Jq (vs := [_]) rfl (kn 0 rfl) rfl rfl) (.cons (Jj rfl) .nil)) (fun w1 hs1 => ?_); rw [hput, if_pos (by omega)]; exact ⟨⟨s, KR s.er, [], hs, rfl⟩, rfl, hs1.weakL (List.nil_sublist _)⟩
 ·refine Jo 5 rfl ?_; refine LR rfl (Jp (vs := [_, _, _, _, _, _, _, _]) rfl (kn 1 rfl) rfl rfl rfl rfl) ?_; refine Jg rfl rfl rfl Jym hlk oR ?_; refine JI 9 rfl ?_; refine cD (fun g => ?_) fun g => ?_
  refine X6 4 [2] rfl rfl ?_
  refine LT 0 rfl rfl ?_; refine Jx 5 rfl ?_; refine Jf rfl rfl (.cons (Jq (vs := [_]) rfl (kn 0 rfl) rfl rfl) (.cons (Jj rfl) .nil)) (fun w1 hs1 => ?_); rw [hput, if_neg (by omega), if_pos (by omega)]; exact ⟨⟨s, Wj a.er, [], hs, rfl⟩, rfl, hs1.weakL (List.nil_sublist _)⟩
  ·refine JP 3 rfl ?_
   have hok : s.accts.length ≤ 32 ∧ Kx AcL.addr s.accts := by
    have h := W8.1 (show KR s.er = 0 by omega)
    rw [s.er_len] at h; exact ⟨h.1, (Jlf s).2 h.2.2⟩
   refine X6 4 [2, 1] rfl rfl ?_; refine Ke rfl rfl rfl (enters_of Tryz.func256 (by kernel_rfl) rfl) (Jvq (by omega) hseg hok.2 a) oR fun x => ?_
   obtain ⟨row, hrow⟩ := x
   refine JY List.perm_append_comm ?_; change HL _ _ ((24, JE (Qg AcL.addr a s.accts).length row) :: _) ((r3, _) :: (r2, _) :: (r1, _) :: JR _ _ row) _ _ _ _; refine JC 7 rfl ?_; refine LR rfl (Xi rfl hrow.zero rfl) ?_; refine JI 3 rfl ?_; refine cD (fun g => ?_) fun g => ?_
   refine Jo 2 rfl ?_; refine LR rfl (Jp (vs := [_]) rfl (kn 2 rfl) rfl rfl rfl rfl) ?_
   refine LT 0 rfl rfl ?_; refine Jx 5 rfl ?_; refine Jf rfl rfl (.cons (Jq (vs := [_]) rfl (kn 0 rfl) rfl rfl) (.cons (Jj rfl) .nil)) (fun w1 hs1 => ?_); rw [hput, if_neg (by omega), if_neg (by omega), if_pos (by omega)]; exact ⟨⟨s, 5, [], hs, rfl⟩, rfl, hs1.weakL (List.nil_sublist _)⟩
   ·refine Jo 5 rfl ?_
    refine LR rfl (Js (r := [JE _ row]) rfl (by cases row <;> rfl)) ?_; refine Qk (k := 0) (n := 1) (cs' := #[JE (Qg AcL.addr a s.accts).length row]) (vs := #[_]) rfl rfl rfl rfl rfl rfl (by show (Q6 (JE _ _) && true) = true; rw [YK]; rfl) (by exact Nat.le_of_ble_eq_true rfl) rfl rfl ?_; refine Jx 4 rfl ?_; refine Jf rfl rfl (.cons (Jq (vs := [_]) rfl (kn 0 rfl) rfl rfl) (.cons (Jj rfl) .nil)) (fun w1 hs1 => ?_)
    (rw [hput, if_neg (by omega), if_neg (by omega), if_neg (by omega)]
     exact ⟨⟨⟨Qg AcL.addr a s.accts, Vd row⟩, 0, JR 48 ((Qg AcL.addr a s.accts).flatMap AcL.cells) row, ⟨by show (Qg AcL.addr a s.accts).length ≤ 9223372036854775807; omega, (KJ hrow (by decide)).mono fun q hq => List.mem_append_left _ hq, fun x hx => ((j3 hx).elim (fun e => by rw [e]; exact ha) (hs.accts x)).mono fun q hq => List.mem_append_right _ hq⟩, by unfold StL.er; rw [Jf2]⟩, by show Ending.returned _ = Ending.returned (Value.tuple #[Value.agg #[KP (Qg AcL.addr a s.accts).length (Vd row)], .int .i64 0]); rw [Xp _ _ hrow.zero]; rfl, hs1.weakL (List.sublist_append_right [_, _, _] _)⟩)
theorem Jqz {R : Jm} {xs ys : List (BS × BS)} {p q : Pl} (hl : xs.length ≤ 9223372036854775807) (hl2 : ys.length ≤ 9223372036854775807) (hs : Seg R xs.length (xs.flatMap Q9) p) (hs' : Seg R ys.length (ys.flatMap Q9) q) :
  PureR Tryz.prog 52 [KP xs.length p, KP ys.length q].toArray (.bool (decide (xs = ys))) R := by
 refine Ja Tryz.func52 rfl rfl fun w => ?_; refine J8 ?_; refine Jo 9 rfl ?_; refine LR rfl (J3 rfl hs rfl) ?_; refine Qx rfl (LR rfl (J3 rfl hs' rfl) (JI 3 rfl ?_)); refine cD (fun g => ?_) fun g => ?_
 refine Kn 7 rfl ?_; refine pT rfl rfl rfl fun w1 hs1 => ?_; refine ⟨?_, hs1.keep⟩; rw [decide_eq_false (show ¬ xs = ys from fun e => by have := congrArg List.length e; omega)]; rfl
 ·refine Jo 6 rfl ?_; refine LR rfl (J3 rfl hs rfl) ?_; refine JI 4 rfl ?_
  have hll : xs.length = ys.length := by omega
  refine J1 (σ := Nat) (fun i => i ≤ xs.length ∧ ∀ j, j < i → xs[j]? = ys[j]?) (fun i => [(0, KP xs.length p), (1, KP ys.length q), (12, .int .i64 (xs.length : Int)), (13, .int .i64 (i : Int))]) (fun _ => []) (fun _ _ _ => True) (fun i => xs.length - i) 0 ⟨by omega, fun j hj => absurd hj (by omega)⟩ (lK rfl) (List.nil_sublist _) (fun _ _ h => h) ?_; rintro i ⟨hi1, hinv⟩; refine JP 6 rfl ?_; refine cD (fun g => ?_) fun g => ?_
  refine JP 11 rfl ?_
  obtain ⟨x, hx, hmx⟩ := QM (show i < xs.length by omega)
  obtain ⟨y, hy, hmy⟩ := QM (show i < ys.length by omega)
  refine JK 9 (by kernel_rfl) (by kernel_rfl) ?_; refine Jd rfl rfl rfl (Ji rfl) ?_; refine Jd rfl rfl rfl (Ji rfl) ?_
  refine Jd rfl rfl rfl (Ju (j := i) rfl hs rfl rfl rfl (by first | rfl | omega) (by omega)) ?_; refine Jd rfl rfl rfl (Kp Kl oR rfl hs hx rfl rfl) ?_; refine Jd rfl rfl rfl (Ji rfl) ?_; refine Jd rfl rfl rfl (Ji rfl) ?_
  refine Jd rfl rfl rfl (Ju (j := i) rfl hs' rfl rfl rfl (by first | rfl | omega) (by omega)) ?_; refine Jd rfl rfl rfl (Kp Kl oR rfl hs' hy rfl rfl) ?_; refine Jd rfl rfl rfl (Jh9 rfl rfl rfl (by kernel_rfl) (by kernel_rfl) (.scal (by decide) rfl rfl rfl rfl rfl (.scal (by decide) rfl rfl rfl rfl rfl .nil))) ?_; refine Ql (congrArg (fun b => Value.bool (!b)) (Jt9 x y)) ?_; refine JW ?_; refine JI 2 rfl ?_; refine cD (fun g => ?_) fun g => ?_
  refine Kn 11 rfl ?_; refine pT rfl rfl rfl fun w1 hs1 => ?_; refine ⟨?_, hs1.keep⟩; rw [decide_eq_false (Jyh hx hy (by simp_all))]; rfl
  refine Jo 5 rfl ?_; refine Je (by omega) (by omega) ?_; refine Jx 2 rfl ?_; refine Jz ?_
  exact Jv (i + 1) ⟨by omega, fun j hj => by
   rcases Nat.lt_succ_iff_lt_or_eq.1 hj with hj | rfl
   exact hinv j hj
   rw [hx, hy]; simp_all⟩ (by omega) (lK rfl) (List.nil_sublist _) (fun _ _ h => h)
  ·refine Kn 11 rfl ?_; refine pT rfl rfl rfl fun w1 hs1 => ?_; refine ⟨?_, hs1.keep⟩; rw [decide_eq_true (Jyg hll (by omega) hinv)]; rfl
theorem Jvw (a b : AcL) : a.er = b.er ↔ a.addr = b.addr ∧ a.nonce = b.nonce ∧ a.bal = b.bal ∧ a.code = b.code ∧ a.slots = b.slots := by
 unfold AcL.er
 simp
theorem Jvx {R : Jm} {a b : AcL} (ha : a.In R) (hb : b.In R) : PureR Tryz.prog 51 [vA a, vA b].toArray (.bool (decide (a.er = b.er))) R := by
 have heq := Jqz ha.len hb.len ha.seg hb.seg
 have hE : decide (a.er = b.er) = (decide (a.addr = b.addr) && (decide (a.nonce = b.nonce) && (decide (a.bal = b.bal) && (decide (a.code = b.code) && decide (a.slots = b.slots))))) := by
  rw [Bool.eq_iff_iff]; simp only [decide_eq_true_eq, Bool.and_eq_true]; exact Jvw a b
 rw [hE]; refine Ja Tryz.func51 rfl rfl fun w => ?_; refine J8 ?_; refine Jo 2 rfl ?_; refine LN rfl fun r1 => ?_; refine LN rfl fun r2 => ?_; refine Xj 9 [1, 0] rfl rfl ?_; refine LR rfl (X5 rfl rfl) ?_; refine Qx rfl ?_
 refine J4 10 rfl (fun gb => ?_) (fun gb => ?_) <;> (try simp only [ZZ] at gb) <;> first | (refine LR rfl (JD rfl rfl rfl) ?_) | (refine LK rfl ?_)
 all_goals refine LW 1 [1] rfl rfl ?_
 all_goals first | refine LR rfl (JD rfl rfl rfl) ?_ | refine LK rfl ?_
 all_goals refine LW 2 [0] rfl rfl ?_
 all_goals first | (refine J2 (congrArg Value.bool (eqU a.nonce b.nonce)) ?_) | skip
 all_goals refine LW 2 [] rfl rfl ?_
 all_goals first | refine LK rfl ?_ | (refine J4 17 rfl (fun gb => ?_) (fun gb => ?_) <;> (try simp only [ZZ] at gb) <;> first | (refine LR rfl (JD rfl rfl rfl) ?_) | (refine LK rfl ?_))
 all_goals refine LW 1 [1] rfl rfl ?_
 all_goals first | refine LR rfl (JD rfl rfl rfl) ?_ | refine LK rfl ?_
 all_goals refine LW 1 [0] rfl rfl ?_
 all_goals first | (refine LR rfl (xy rfl rfl rfl rfl rfl (by kernel_rfl) rfl rfl rfl rfl) ?_) | refine LK rfl ?_
 all_goals first | (refine J2 (congrArg Value.bool (eqW a.bal b.bal)) ?_) | skip
 all_goals refine LW 2 [] rfl rfl ?_
 all_goals first | refine LK rfl ?_ | (refine J4 24 rfl (fun gb => ?_) (fun gb => ?_) <;> (try simp only [ZZ] at gb) <;> first | (refine LR rfl (JD rfl rfl rfl) ?_) | (refine LK rfl ?_))
 all_goals refine LW 1 [1] rfl rfl ?_
 all_goals first | refine LR rfl (JD rfl rfl rfl) ?_ | refine LK rfl ?_
 all_goals refine LW 1 [0] rfl rfl ?_
 all_goals first | refine LR rfl (X5 rfl rfl) ?_ | refine LK rfl ?_
 all_goals refine LW 2 [] rfl rfl ?_
 all_goals first | refine LK rfl ?_ | (refine J4 31 rfl (fun gb => ?_) (fun gb => ?_) <;> (try simp only [ZZ] at gb) <;> first | (refine LR rfl (JD rfl rfl rfl) ?_) | (refine LK rfl ?_))
 all_goals refine LW 1 [1] rfl rfl ?_
 all_goals first | refine LR rfl (JD rfl rfl rfl) ?_ | refine LK rfl ?_
 all_goals refine LW 1 [0] rfl rfl ?_
 all_goals first | (refine Jg rfl rfl rfl (enters_of Tryz.func52 (by kernel_rfl) rfl) heq oR ?_) | refine LK rfl ?_
 all_goals (
  refine LW 2 [] rfl rfl (Jx 1 rfl (ZJ 2 rfl ?_)); refine pT rfl rfl rfl fun w1 hs1 => ?_; refine ⟨?_, hs1.keep⟩
  simp_all [JA]
  skip)
theorem qr {s t : StL} : s.er = t.er ↔ s.accts.length = t.accts.length ∧ ∀ (i : Nat) a b, s.accts[i]? = some a → t.accts[i]? = some b → a.er = b.er := by
 constructor
 ·intro h
  refine ⟨by have := congrArg List.length h; rwa [s.er_len, t.er_len] at this, fun i a b ha hb => ?_⟩
  have h1 := Yw ha
  have h2 := Yw hb
  rw [h, h2] at h1; exact (Option.some.inj h1).symm
 ·rintro ⟨h1, h2⟩
  apply List.ext_getElem?
  intro i
  by_cases hi : i < s.accts.length
  ·obtain ⟨a, ha, _⟩ := QM hi
   obtain ⟨b, hb, _⟩ := QM (show i < t.accts.length by omega)
   rw [Yw ha, Yw hb, h2 i a b ha hb]
  ·rw [List.getElem?_eq_none (by rw [s.er_len]; omega), List.getElem?_eq_none (by rw [t.er_len]; omega)]
theorem Jq0 {R : Jm} {s t : StL} (hs : s.In R) (ht : t.In R) :
  PureR Tryz.prog 53 [KP s.accts.length s.p, KP t.accts.length t.p, fV 51].toArray (.bool (decide (s.er = t.er))) R := by
 have hl : s.accts.length ≤ 9223372036854775807 := hs.len
 have hl2 : t.accts.length ≤ 9223372036854775807 := ht.len
 have h1 := hs.seg
 have h2 := ht.seg
 refine Ja Tryz.func53 rfl rfl fun w => ?_; refine J8 ?_; refine Jo 9 rfl ?_; refine LR rfl (J3 rfl h1 rfl) ?_; refine Qx rfl (LR rfl (J3 rfl h2 rfl) (JI 3 rfl ?_)); refine cD (fun g => ?_) fun g => ?_
 refine Kn 7 rfl ?_; refine pT rfl rfl rfl fun w1 hs1 => ?_; refine ⟨?_, hs1.keep⟩; rw [decide_eq_false (show ¬ s.er = t.er from fun e => by have := (qr.1 e).1; omega)]; rfl
 ·refine Jo 6 rfl ?_; refine LR rfl (J3 rfl h1 rfl) ?_; refine JI 4 rfl ?_
  have hll : s.accts.length = t.accts.length := by omega
  refine J1 (σ := Nat) (fun i => i ≤ s.accts.length ∧ ∀ q, q < i → ∀ a b, s.accts[q]? = some a → t.accts[q]? = some b → a.er = b.er) (fun i => [(1, KP t.accts.length t.p), (2, fV 51), (15, KP s.accts.length s.p), (16, .int .i64 (s.accts.length : Int)), (17, .int .i64 (i : Int))]) (fun _ => []) (fun _ _ _ => True) (fun i => s.accts.length - i) 0 ⟨by omega, fun j hj => absurd hj (by omega)⟩ (lK rfl) (List.nil_sublist _) (fun _ _ h => h) ?_; rintro i ⟨hi1, hinv⟩; refine JP 6 rfl ?_; refine cD (fun g => ?_) fun g => ?_
  refine JP 5 rfl ?_
  obtain ⟨x, hx, hmx⟩ := QM (show i < s.accts.length by omega)
  obtain ⟨y, hy, hmy⟩ := QM (show i < t.accts.length by omega)
  refine Jo 2 rfl ?_
  refine LR rfl (Ju (j := i) rfl h1 rfl rfl rfl (by first | rfl | omega) (by omega)) ?_; refine LR rfl (Kp AcL.len oR rfl h1 hx rfl rfl) ?_; refine LN rfl fun r1 => ?_; refine Qx rfl (Jc (k := 0) (n := 8) (ys := x.cells) rfl rfl rfl rfl rfl x.len rfl x.one rfl (JC 6 rfl ?_))
  refine LR rfl (Ju (j := i) rfl h2 rfl rfl rfl (by first | rfl | omega) (by omega)) ?_; refine LR rfl (Kp AcL.len oR rfl h2 hy rfl rfl) ?_; refine LN rfl fun r2 => ?_; refine Jc (k := 0) (n := 8) (ys := y.cells) rfl rfl rfl rfl rfl y.len rfl y.one rfl ?_; refine JC 5 rfl ?_; refine LR rfl (Jb (xs := x.cells) (n := 8) rfl (kn 1 rfl) rfl rfl x.len) ?_; refine LR rfl (Jb (xs := y.cells) (n := 8) rfl (kn 0 rfl) rfl rfl y.len) ?_; refine Jg rfl rfl rfl (enters_of Tryz.func51 (by kernel_rfl) rfl) (Jvx (hs.accts x hmx) (ht.accts y hmy)) oR ?_; refine JI 3 rfl ?_; refine cD (fun g => ?_) fun g => ?_
  refine Kn 11 rfl ?_; refine pT rfl rfl rfl fun w1 hs1 => ?_; refine ⟨?_, hs1.keep⟩; rw [decide_eq_false (show ¬ s.er = t.er from fun e => by have := (qr.1 e).2 i x y hx hy; simp_all)]; rfl
  refine Jo 5 rfl ?_; refine Je (by omega) (by omega) ?_; refine Jx 2 rfl ?_; refine Jz ?_
  exact Jv (i + 1) ⟨by omega, fun q hq u v hu hv => by
   rcases Nat.lt_succ_iff_lt_or_eq.1 hq with hq | rfl
   exact hinv q hq u v hu hv
   rw [hx] at hu; rw [hy] at hv; cases hu; cases hv; simp_all⟩ (by omega) (lK rfl) (List.nil_sublist _) (fun _ _ h => h)
  ·refine Kn 11 rfl ?_; refine pT rfl rfl rfl fun w1 hs1 => ?_; refine ⟨?_, hs1.keep⟩; rw [decide_eq_true (qr.2 ⟨hll, fun q a b ha hb => hinv q (by have := (List.getElem?_eq_some_iff.1 ha).1; omega) a b ha hb⟩)]; rfl
theorem Jq1 {R : Jm} {s t : StL} (hs : s.In R) (ht : t.In R) : PureR Tryz.prog 23 [s.val, t.val].toArray (.bool (decide (s.er = t.er))) R := by
 have h := Jq0 hs ht
 refine Ja Tryz.func23 rfl rfl fun w => ?_; refine J8 ?_; refine Jo 2 rfl ?_; refine LN rfl fun r1 => ?_; refine LN rfl fun r2 => ?_; refine Xj 15 [1, 0] rfl rfl ?_; refine Jg rfl rfl rfl (enters_of Tryz.func53 (by kernel_rfl) rfl) h oR ?_; refine Jx 4 rfl ?_; refine pT rfl rfl rfl fun w1 hs1 => ?_; exact ⟨rfl, hs1.keep⟩
theorem Jgp (f : Int) : decide (KA f) = (decide (f ≥ 0) && decide (f ≤ 5)) := by
 rw [Bool.eq_iff_iff, Bool.and_eq_true, decide_eq_true_eq, decide_eq_true_eq, decide_eq_true_eq]; exact Iff.rfl
theorem jN (f : Int) : Pure Tryz.prog 55 [.int .i64 f].toArray (.bool (decide (KA f))) := by
 rw [Jgp]; refine Jk Tryz.func55 rfl rfl fun w => ?_; refine J8 ?_; refine Jo 10 rfl ?_
 refine J4 5 rfl (fun gb => ?_) (fun gb => ?_) <;> (try simp only [ZZ] at gb) <;> first | (refine Qx rfl ?_) | (refine LK rfl ?_)
 all_goals (
  refine LW 3 [] rfl rfl (Jx 1 rfl (ZJ 2 rfl ?_)); refine pT rfl rfl rfl fun w1 hs1 => ?_; refine ⟨?_, hs1.keep⟩
  simp_all [JA]
  all_goals first | done | omega | trace_state
  skip)
theorem Jq2 : WOk w40.l := w40_ok.wok
theorem Jjm : Pure Tryz.prog 58 [].toArray (J5 Vc) := by
 rw [Jya]; refine Jk Tryz.func58 rfl rfl fun w => ?_; refine J8 ?_; refine Jo 7 rfl ?_; refine LR rfl (Js (r := [_, _, _, _]) rfl rfl) ?_; refine Jl rfl rfl rfl Jaf (Q2 Jq2) ?_; refine Jx 4 rfl ?_; refine pT rfl rfl rfl fun w1 hs1 => ?_; exact ⟨rfl, hs1.keep⟩
theorem Ja0 {n : Nat} (h : VK n) : Pure Tryz.prog 61 [uV n].toArray (J5 (Wc n)) := by
 refine Jk Tryz.func61 rfl rfl fun w => ?_; refine J8 ?_; refine Jo 8 rfl ?_; refine Jl rfl rfl rfl jD (Vo n) ?_; refine Jl rfl rfl rfl Jaf (Q2 (xU h).wok) ?_; refine Jx 4 rfl ?_; refine pT rfl rfl rfl fun w1 hs1 => ?_; exact ⟨rfl, hs1.keep⟩
theorem P_Addr0 : Pure Tryz.prog 19 [.int .i64 0].toArray (J5 A0) := by
 refine Jk Tryz.func19 rfl rfl fun w => ?_; refine J8 ?_; refine JP 16 rfl ?_; refine Jw rfl (fun g => ?_) (fun g => ?_)
 try exact Bool.noConfusion g
 ·try simp only [ZZ] at g
  refine Jo 4 rfl ?_; refine WN (n := 20) (b := 1) rfl rfl rfl rfl rfl rfl rfl rfl rfl (by decide) (by decide) fun r1 => ?_; refine JC 9 rfl ?_; refine Je (by omega) (by omega) ?_; refine Wo rfl (vI (by omega) (by omega) (LR rfl (JH (j := 0) (m := 1) rfl rfl rfl rfl rfl (by decide) rfl) ?_)); refine LT 0 rfl rfl ?_; refine LR rfl (JH (j := 19) (m := 1) rfl rfl rfl rfl rfl (by decide) rfl) ?_; refine LT 0 rfl rfl ?_; refine JC 5 rfl ?_; refine LR rfl (Q4 (b := A0) (row := some (r1, 20, [])) (e := 5) rfl ⟨rfl, rfl⟩ (fun p hp => .inl (by rw [List.mem_singleton.1 hp]; exact List.mem_cons_self)) rfl rfl rfl) ?_; refine Jx 4 rfl ?_; refine pT rfl rfl rfl fun w1 hs1 => ?_; exact ⟨rfl, hs1.keep⟩
theorem Jvy : Pure Tryz.prog 19 [.int .i64 1].toArray (J5 A1) := by
 refine Jk Tryz.func19 rfl rfl fun w => ?_; refine J8 ?_; refine JP 16 rfl ?_; refine Jw rfl (fun g => ?_) (fun g => ?_)
 try exact Bool.noConfusion g
 ·try simp only [ZZ] at g
  refine Jo 4 rfl ?_; refine WN (n := 20) (b := 1) rfl rfl rfl rfl rfl rfl rfl rfl rfl (by decide) (by decide) fun r1 => ?_; refine JC 9 rfl ?_; refine Je (by omega) (by omega) ?_; refine Wo rfl (vI (by omega) (by omega) (LR rfl (JH (j := 0) (m := 1) rfl rfl rfl rfl rfl (by decide) rfl) ?_)); refine LT 0 rfl rfl ?_; refine LR rfl (JH (j := 19) (m := 1) rfl rfl rfl rfl rfl (by decide) rfl) ?_; refine LT 0 rfl rfl ?_; refine JC 5 rfl ?_; refine LR rfl (Q4 (b := A1) (row := some (r1, 20, [])) (e := 5) rfl ⟨rfl, rfl⟩ (fun p hp => .inl (by rw [List.mem_singleton.1 hp]; exact List.mem_cons_self)) rfl rfl rfl) ?_; refine Jx 4 rfl ?_; refine pT rfl rfl rfl fun w1 hs1 => ?_; exact ⟨rfl, hs1.keep⟩
theorem Jvz {f : Int} (h : f < 0 ∨ f > 1) : Pure Tryz.prog 19 [.int .i64 f].toArray (J5 []) := by
  refine Jk Tryz.func19 rfl rfl fun w => ?_; refine J8 ?_; refine Jo 11 rfl ?_
  refine J4 6 rfl (fun gb => ?_) (fun gb => ?_) <;> (try simp only [ZZ] at gb) <;> first | (refine Qx rfl ?_) | (refine LK rfl ?_)
  all_goals (
   refine LW 2 [] rfl rfl (Jx 1 rfl (Y7 1 rfl ?_)); refine Jw rfl (fun g => ?_) (fun g => ?_)
   try simp only [ZZ] at g
   refine Kn 7 rfl ?_; refine pT rfl rfl rfl fun w1 hs1 => ?_
   first | exact ⟨rfl, hs1.keep⟩ | (exfalso; omega)
   · try exact Bool.noConfusion g
     all_goals try simp only [ZZ] at g
     all_goals (
      refine Jo 4 rfl ?_
      exfalso; omega
      skip)
   skip)
theorem wY (f : Int) : Pure Tryz.prog 19 [.int .i64 f].toArray (J5 (Qn f)) := by
 by_cases h0 : f = 0
 ·subst h0; exact P_Addr0
 ·by_cases h1 : f = 1
  ·subst h1; exact Jvy
  ·have h : f < 0 ∨ f > 1 := by omega
   have e : Qn f = [] := by unfold Qn; rw [if_pos h]
   rw [e]; exact Jvz h
def cdC (p : Int × BS) : List Value := [.int .i64 p.1, J5 p.2]
theorem Jjn (p : Int × BS) : (cdC p).length = 2 := rfl
def codes0 : List (Int × BS) := [(0, cOne), (1, J0t), (3, Joc), (5, Jw7)]
def codes1 : List (Int × BS) := [(2, J0u)]
def Yj (f : Int) : List (Int × BS) → BS × Bool → BS × Bool
 | [], acc => acc
 | p :: l, acc => Yj f l (if f ≥ p.1 then (p.2, true) else acc)
theorem qM {f : Int} (h : KA f) : Yj f codes0 ([], false) = KE f 0 ∧ Yj f codes1 ([], false) = KE f 1 := by
 rcases Yr h with rfl | rfl | rfl | rfl | rfl | rfl <;> exact ⟨by decide +kernel, by decide +kernel⟩
theorem wZ {f : Int} {p : Int × BS} : ∀ (l : List (Int × BS)) (acc : BS × Bool), Yj f (l ++ [p]) acc = if f ≥ p.1 then (p.2, true) else Yj f l acc
 | [], acc => rfl
 | q :: l, acc => by rw [List.cons_append, Yj, Yj, wZ l]
theorem Vh {f : Int} {l : List (Int × BS)} {i : Nat} {p : Int × BS} (h : l[i]? = some p) : Yj f (l.take (i + 1)) ([], false) = if f ≥ p.1 then (p.2, true) else Yj f (l.take i) ([], false) := by
 obtain ⟨h1, h2⟩ := List.getElem?_eq_some_iff.1 h
 rw [List.take_succ_eq_append_getElem h1, h2, wZ]
theorem Jjo : PureE (α := Nat × Nat) Tryz.prog 111 [].toArray (fun p => .agg #[.slice (some ⟨p.1, 0, none⟩) 4 4, .slice (some ⟨p.2, 0, none⟩) 1 1]) (fun p => [(p.2, .cells (codes1.flatMap cdC).toArray 160 (0, 0)), (p.1, .cells (codes0.flatMap cdC).toArray 160 (0, 0))]) := by
 refine JV Tryz.func111 rfl rfl fun w => ?_; refine J8 ?_; refine Jo 2 rfl ?_; refine LN rfl fun r1 => ?_; refine JC 4 rfl ?_; refine LR rfl (Js (r := [_, _]) rfl rfl) ?_; refine LR rfl (Js (r := [_, _]) rfl rfl) ?_; refine LR rfl (Js (r := [_, _]) rfl rfl) ?_; refine LR rfl (Js (r := [_, _]) rfl rfl) ?_; refine JN (vs := [_, _, _, _]) (zs := [_, _, _, _, _, _, _, _]) (r := [_, _, _, _, _, _, _, _]) rfl rfl rfl rfl rfl rfl rfl rfl rfl (by rw [Ky]; exact rfl) rfl fun r2 => ?_; refine LR rfl (Js (r := [_, _]) rfl rfl) ?_; refine JN (vs := [_]) (zs := [_, _]) (r := [_, _]) rfl rfl rfl rfl rfl rfl rfl rfl rfl (by rw [Ky]; exact rfl) rfl fun r3 => ?_; refine LR rfl (Js (r := [_, _]) rfl rfl) ?_
 refine LT 2 rfl rfl ?_; refine Jx 3 rfl ?_; refine Jf rfl rfl (.cons (Jq (vs := [_, _]) rfl (kn 2 rfl) rfl rfl) .nil) (fun w1 hs1 => ?_); exact ⟨(r2, r3), rfl, hs1.weakL (.cons_cons _ (.cons_cons _ (List.nil_sublist _)))⟩
theorem J1i {f : Int} (hf : KA f) : Pure Tryz.prog 56 [.int .i64 f, .int .i64 0].toArray (.tuple #[J5 (KE f 0).1, .bool (KE f 0).2]) := by
 refine Jk Tryz.func56 rfl rfl fun w => ?_; refine J8 ?_; refine Jo 15 rfl ?_; refine JJ rfl rfl rfl (enters_of Tryz.func111 (by kernel_rfl) rfl) Jjo fun pp => ?_
 obtain ⟨p1, p2⟩ := pp
 change HL _ _ _ [(p2, _), (p1, _)] _ _ _ _; refine Qx rfl (LR rfl (vH (j := 0) rfl rfl rfl rfl rfl rfl (by decide) rfl) (LR rfl (JU rfl rfl) ?_)); refine JI 4 rfl ?_; refine J1 (σ := Nat) (fun i => i ≤ 4) (fun i => [(0, .int .i64 f), (6, J5 (Yj f (codes0.take i) ([], false)).1), (7, .bool (Yj f (codes0.take i) ([], false)).2), (12, .slice (some ⟨p1, 0, none⟩) 4 4), (13, .int .i64 4), (14, .int .i64 (i : Int))]) (fun _ => [(p2, .cells (codes1.flatMap cdC).toArray 160 (0, 0)), (p1, .cells (codes0.flatMap cdC).toArray 160 (0, 0))]) (fun _ _ _ => True) (fun i => 4 - i) 0 (Nat.zero_le _) (lK rfl) (List.Sublist.refl _) (fun _ _ h => h) ?_; intro i hi1; refine JP 6 rfl ?_; refine cD (fun g => ?_) fun g => ?_
 refine JP 5 rfl ?_
 obtain ⟨p, hp, -⟩ := QM (l := codes0) (show i < 4 by omega)
 refine Jo 1 rfl ?_; refine LR rfl (JH (j := i) (m := 2) (off' := i * 2) rfl rfl rfl rfl rfl (by omega) (by omega)) ?_; refine LR rfl (Jp (n := 2) (vs := cdC p) rfl (kn 1 rfl) rfl rfl (Wi Jjn hp) rfl) ?_; refine LN rfl fun r1 => ?_
 refine LT 0 rfl rfl ?_; refine Goc 10 [0] rfl rfl ?_; refine cD (fun g => ?_) fun g => ?_
 refine X6 10 [0] rfl rfl ?_; refine Je (by omega) (by omega) ?_; refine Jx 2 rfl ?_; refine Jz ?_; exact Jv (i + 1) (by omega) (by omega) (.cons rfl (.cons (by rw [Vh hp, if_pos (by omega)]; rfl) (.cons (by rw [Vh hp, if_pos (by omega)]; rfl) (lK rfl)))) (List.sublist_cons_self _ _) (fun _ _ h => h)
 refine Jo 5 rfl ?_; refine Je (by omega) (by omega) ?_; refine Jx 2 rfl ?_; refine Jz ?_; exact Jv (i + 1) (by omega) (by omega) (.cons rfl (.cons (by rw [Vh hp, if_neg (by omega)]; rfl) (.cons (by rw [Vh hp, if_neg (by omega)]; rfl) (lK rfl)))) (List.sublist_cons_self _ _) (fun _ _ h => h)
 ·refine Kn 14 rfl ?_; refine Jf rfl rfl (.cons (Jj rfl) (.cons (Jj rfl) .nil)) (fun w1 hs1 => ?_); refine ⟨?_, hs1.keep⟩
  obtain rfl : i = 4 := by omega
  rw [← (qM hf).1]
  rfl
theorem J1j {f : Int} (hf : KA f) : Pure Tryz.prog 56 [.int .i64 f, .int .i64 1].toArray (.tuple #[J5 (KE f 1).1, .bool (KE f 1).2]) := by
 refine Jk Tryz.func56 rfl rfl fun w => ?_; refine J8 ?_; refine Jo 15 rfl ?_; refine JJ rfl rfl rfl (enters_of Tryz.func111 (by kernel_rfl) rfl) Jjo fun pp => ?_
 obtain ⟨p1, p2⟩ := pp
 change HL _ _ _ [(p2, _), (p1, _)] _ _ _ _; refine Qx rfl (LR rfl (vH (j := 1) rfl rfl rfl rfl rfl rfl (by decide) rfl) (LR rfl (JU rfl rfl) ?_)); refine JI 4 rfl ?_; refine J1 (σ := Nat) (fun i => i ≤ 1) (fun i => [(0, .int .i64 f), (6, J5 (Yj f (codes1.take i) ([], false)).1), (7, .bool (Yj f (codes1.take i) ([], false)).2), (12, .slice (some ⟨p2, 0, none⟩) 1 1), (13, .int .i64 1), (14, .int .i64 (i : Int))]) (fun _ => [(p2, .cells (codes1.flatMap cdC).toArray 160 (0, 0)), (p1, .cells (codes0.flatMap cdC).toArray 160 (0, 0))]) (fun _ _ _ => True) (fun i => 1 - i) 0 (Nat.zero_le _) (lK rfl) (List.Sublist.refl _) (fun _ _ h => h) ?_; intro i hi1; refine JP 6 rfl ?_; refine cD (fun g => ?_) fun g => ?_
 refine JP 5 rfl ?_
 obtain ⟨p, hp, -⟩ := QM (l := codes1) (show i < 1 by omega)
 refine Jo 1 rfl ?_; refine LR rfl (JH (j := i) (m := 2) (off' := i * 2) rfl rfl rfl rfl rfl (by omega) (by omega)) ?_; refine LR rfl (Jp (n := 2) (vs := cdC p) rfl (kn 0 rfl) rfl rfl (Wi Jjn hp) rfl) ?_; refine LN rfl fun r1 => ?_
 refine LT 0 rfl rfl ?_; refine Goc 10 [0] rfl rfl ?_; refine cD (fun g => ?_) fun g => ?_
 refine X6 10 [0] rfl rfl ?_; refine Je (by omega) (by omega) ?_; refine Jx 2 rfl ?_; refine Jz ?_; exact Jv (i + 1) (by omega) (by omega) (.cons rfl (.cons (by rw [Vh hp, if_pos (by omega)]; rfl) (.cons (by rw [Vh hp, if_pos (by omega)]; rfl) (lK rfl)))) (List.sublist_cons_self _ _) (fun _ _ h => h)
 refine Jo 5 rfl ?_; refine Je (by omega) (by omega) ?_; refine Jx 2 rfl ?_; refine Jz ?_; exact Jv (i + 1) (by omega) (by omega) (.cons rfl (.cons (by rw [Vh hp, if_neg (by omega)]; rfl) (.cons (by rw [Vh hp, if_neg (by omega)]; rfl) (lK rfl)))) (List.sublist_cons_self _ _) (fun _ _ h => h)
 ·refine Kn 14 rfl ?_; refine Jf rfl rfl (.cons (Jj rfl) (.cons (Jj rfl) .nil)) (fun w1 hs1 => ?_); refine ⟨?_, hs1.keep⟩
  obtain rfl : i = 1 := by omega
  rw [← (qM hf).2]
  rfl
def Qd (r o : Nat) : Value := .pointer (some ⟨r, o, none⟩)
theorem qt (r : Nat) : Pure Tryz.prog 179 [Qd r 0].toArray (Qd r 14) := by
 refine Jk Tryz.func179 rfl rfl fun w => ?_; refine J8 ?_; refine Kn 14 rfl ?_; refine pT rfl rfl rfl fun w1 hs1 => ?_; exact ⟨rfl, hs1.keep⟩
theorem Jq3 (r : Nat) : Pure Tryz.prog 181 [Qd r 0].toArray (Qd r 0) := by
 refine Jk Tryz.func181 rfl rfl fun w => ?_; refine J8 ?_; refine Kn 14 rfl ?_; refine pT rfl rfl rfl fun w1 hs1 => ?_; exact ⟨rfl, hs1.keep⟩
theorem Jq4 (r : Nat) : Pure Tryz.prog 182 [Qd r 0].toArray (Qd r 1) := by
 refine Jk Tryz.func182 rfl rfl fun w => ?_; refine J8 ?_; refine Kn 14 rfl ?_; refine pT rfl rfl rfl fun w1 hs1 => ?_; exact ⟨rfl, hs1.keep⟩
theorem Jq5 (r : Nat) : Pure Tryz.prog 184 [Qd r 0].toArray (Qd r 2) := by
 refine Jk Tryz.func184 rfl rfl fun w => ?_; refine J8 ?_; refine Kn 14 rfl ?_; refine pT rfl rfl rfl fun w1 hs1 => ?_; exact ⟨rfl, hs1.keep⟩
theorem Jq6 (r : Nat) : Pure Tryz.prog 185 [Qd r 0].toArray (Qd r 10) := by
 refine Jk Tryz.func185 rfl rfl fun w => ?_; refine J8 ?_; refine Kn 14 rfl ?_; refine pT rfl rfl rfl fun w1 hs1 => ?_; exact ⟨rfl, hs1.keep⟩
theorem Jq7 (r : Nat) : Pure Tryz.prog 186 [Qd r 0].toArray (Qd r 15) := by
 refine Jk Tryz.func186 rfl rfl fun w => ?_; refine J8 ?_; refine Kn 14 rfl ?_; refine pT rfl rfl rfl fun w1 hs1 => ?_; exact ⟨rfl, hs1.keep⟩
theorem Jq8 (r : Nat) : Pure Tryz.prog 187 [Qd r 0].toArray (Qd r 6) := by
 refine Jk Tryz.func187 rfl rfl fun w => ?_; refine J8 ?_; refine Kn 14 rfl ?_; refine pT rfl rfl rfl fun w1 hs1 => ?_; exact ⟨rfl, hs1.keep⟩
theorem Ja1 (r : Nat) : Pure Tryz.prog 188 [Qd r 0].toArray (Qd r 16) := by
 refine Jk Tryz.func188 rfl rfl fun w => ?_; refine J8 ?_; refine Kn 14 rfl ?_; refine pT rfl rfl rfl fun w1 hs1 => ?_; exact ⟨rfl, hs1.keep⟩
theorem Jjp {R : Jm} {b1 b2 e1 e2 : Nat} {gl gh : FuncId} {ol oh x y : Nat} (egl : Enters Tryz.prog gl) (egh : Enters Tryz.prog gh) (hgl : ∀ ρ, Pure Tryz.prog gl [Qd ρ 0].toArray (Qd ρ ol)) (hgh : ∀ ρ, Pure Tryz.prog gh [Qd ρ 0].toArray (Qd ρ oh))
  (h1 : (b1, Obj.cells #[fV gl] e1 (0, 0)) ∈ R) (h2 : (b2, Obj.cells #[fV gh] e2 (0, 0)) ∈ R) (r : Rec) (hx : WW r.cells ol = some (uV x)) (hy : WW r.cells oh = some (uV y)) : PureR Tryz.prog 239 [r.val, Qd b1 0, Qd b2 0].toArray (wV [x, y, 0, 0]) R := by
 refine Ja Tryz.func239 rfl rfl fun w => ?_; refine J8 ?_; refine Jo 2 rfl ?_; refine JS (cs := r.cells.toArray) rfl rfl rfl rfl fun rb => ?_; refine LN rfl fun r1 => ?_; refine JC 4 rfl ?_; refine LR rfl (Jh rfl (Or.inr h1) rfl rfl) ?_; refine Jl rfl rfl rfl egl (hgl rb) ?_; refine Wo rfl (LR rfl (Jh rfl (kn 1 rfl) rfl hx) (Jl rfl rfl rfl jD (Vo x) ?_)); refine LN rfl fun r2 => ?_
 refine LT 0 rfl rfl ?_; refine JC 5 rfl ?_; refine LR rfl (Jh rfl (Or.inr h2) rfl rfl) ?_; refine JI 3 rfl ?_; refine Jw rfl (fun g => ?_) (fun g => ?_)
 try simp only [ZZ] at g
 refine Jo 1 rfl ?_; refine LR rfl (Jh rfl (Or.inr h2) rfl rfl) ?_; refine Jl rfl rfl rfl egh (hgh rb) ?_; refine Wo rfl (LR rfl (Jh rfl (kn 2 rfl) rfl hy) ?_)
 refine LR rfl (JG (j := 1) rfl rfl rfl rfl rfl (by first | decide | omega) (by first | (simp only [Nat.zero_add, Nat.reduceAdd, Nat.reduceMul, Nat.zero_mul, Nat.mul_one, Nat.add_zero]; exact rfl) | exact rfl)) ?_
 refine LT 0 rfl rfl ?_; refine JC 4 rfl ?_; refine LR rfl (Jp (vs := [_, _, _, _]) rfl (kn 0 rfl) rfl rfl rfl rfl) ?_
 refine LT 1 rfl rfl ?_; refine Jx 3 rfl ?_; refine Jf rfl rfl (.cons (Jq (vs := [_, _, _, _]) rfl (kn 1 rfl) rfl rfl) .nil) (fun w1 hs1 => ?_); exact ⟨rfl, hs1.keep⟩
 ·try exact Bool.noConfusion g
theorem Jjq {R : Jm} {b1 b2 e1 e2 : Nat} {gl gh : FuncId} {ol oh x y : Nat} (egl : Enters Tryz.prog gl) (egh : Enters Tryz.prog gh) (hgl : ∀ ρ, Pure Tryz.prog gl [Qd ρ 0].toArray (Qd ρ ol)) (hgh : ∀ ρ, Pure Tryz.prog gh [Qd ρ 0].toArray (Qd ρ oh))
  (h1 : (b1, Obj.cells #[fV gl] e1 (0, 0)) ∈ R) (h2 : (b2, Obj.cells #[.nilFunc] e2 (0, 0)) ∈ R) (r : Rec) (hx : WW r.cells ol = some (uV x)) (hy : WW r.cells oh = some (uV y)) : PureR Tryz.prog 239 [r.val, Qd b1 0, Qd b2 0].toArray (wV [x, 0, 0, 0]) R := by
 refine Ja Tryz.func239 rfl rfl fun w => ?_; refine J8 ?_; refine Jo 2 rfl ?_; refine JS (cs := r.cells.toArray) rfl rfl rfl rfl fun rb => ?_; refine LN rfl fun r1 => ?_; refine JC 4 rfl ?_; refine LR rfl (Jh rfl (Or.inr h1) rfl rfl) ?_; refine Jl rfl rfl rfl egl (hgl rb) ?_; refine Wo rfl (LR rfl (Jh rfl (kn 1 rfl) rfl hx) (Jl rfl rfl rfl jD (Vo x) ?_)); refine LN rfl fun r2 => ?_
 refine LT 0 rfl rfl ?_; refine JC 5 rfl ?_; refine LR rfl (Jh rfl (Or.inr h2) rfl rfl) ?_; refine JI 3 rfl ?_; refine Jw rfl (fun g => ?_) (fun g => ?_)
 try exact Bool.noConfusion g
 ·try simp only [ZZ] at g
  refine Jo 4 rfl ?_; refine LR rfl (Jp (vs := [_, _, _, _]) rfl (kn 0 rfl) rfl rfl rfl rfl) ?_
  refine LT 1 rfl rfl ?_; refine Jx 3 rfl ?_; refine Jf rfl rfl (.cons (Jq (vs := [_, _, _, _]) rfl (kn 1 rfl) rfl rfl) .nil) (fun w1 hs1 => ?_); exact ⟨rfl, hs1.keep⟩
theorem Ja2 {R : Jm} {b1 e1 : Nat} {g : FuncId} {o : Nat} {x : W4} (eg : Enters Tryz.prog g) (hg : ∀ ρ, Pure Tryz.prog g [Qd ρ 0].toArray (Qd ρ o)) (h1 : (b1, Obj.cells #[fV g] e1 (0, 0)) ∈ R) (r : Rec) (hx : (r.cells.drop o).take 4 = x.l.map uV) : PureR Tryz.prog 241 [r.val, Qd b1 0].toArray (wV x.l) R := by
 refine Ja Tryz.func241 rfl rfl fun w => ?_; refine J8 ?_; refine Jo 2 rfl ?_; refine JS (cs := r.cells.toArray) rfl rfl rfl rfl fun rb => ?_; refine LN rfl fun r1 => ?_; refine JC 4 rfl ?_; refine LR rfl (Jh rfl (Or.inr h1) rfl rfl) ?_; refine Jl rfl rfl rfl eg (hg rb) ?_; refine Wo rfl (LR rfl (Jp (n := 4) (vs := x.l.map uV) rfl (kn 1 rfl) rfl rfl hx rfl) ?_)
 refine LT 0 rfl rfl ?_; refine Jx 3 rfl ?_; refine Jf rfl rfl (.cons (Jq (vs := [_, _, _, _]) rfl (kn 0 rfl) rfl rfl) .nil) (fun w1 hs1 => ?_); exact ⟨rfl, hs1.keep⟩
theorem Jjr {R : Jm} {ρ b1 b2 e1 e2 : Nat} {gl gh : FuncId} {ol oh : Nat} (egl : Enters Tryz.prog gl) (egh : Enters Tryz.prog gh) (hgl : ∀ ρ, Pure Tryz.prog gl [Qd ρ 0].toArray (Qd ρ ol)) (hgh : ∀ ρ, Pure Tryz.prog gh [Qd ρ 0].toArray (Qd ρ oh))
  (h1 : (b1, Obj.cells #[fV gl] e1 (0, 0)) ∈ R) (h2 : (b2, Obj.cells #[fV gh] e2 (0, 0)) ∈ R) (r : Rec) (w4 : W4) (ho : ol < 17) (ho2 : oh < 17) : PureT (α := Unit) Tryz.prog 240 [Qd ρ 0, wV w4.l, Qd b1 0, Qd b2 0].toArray (fun _ => .tuple #[]) [(ρ, .cells r.cells.toArray 29 (0, 0))] (fun _ => [(ρ, .cells ((r.cells.set ol (uV w4.a)).set oh (uV w4.b)).toArray 29 (0, 0))]) R := by
 refine Jt Tryz.func240 rfl rfl fun w => ?_; refine J8 ?_; refine Jo 2 rfl ?_; refine LN rfl fun r1 => ?_; refine JI 3 rfl ?_; refine JK 5 (by kernel_rfl) (by kernel_rfl) ?_; refine Jd rfl rfl rfl (Jh rfl (Or.inr h1) rfl rfl) ?_; refine Jd rfl rfl rfl (Ji rfl) ?_; refine Kz rfl rfl rfl egl (hgl ρ) ?_
 refine Jd rfl rfl rfl (JG (j := 0) rfl rfl rfl rfl rfl (by first | decide | omega) (by first | (simp only [Nat.zero_add, Nat.reduceAdd, Nat.reduceMul, Nat.zero_mul, Nat.mul_one, Nat.add_zero]; exact rfl) | exact rfl)) ?_; refine Jd rfl rfl rfl (Jh rfl (kn 0 rfl) rfl rfl) ?_; refine JW ?_; refine Wo rfl ?_; refine KC (k := 1) (cs' := (r.cells.set ol (uV w4.a)).toArray) rfl rfl rfl rfl rfl rfl (by rw [List.getElem?_toArray, List.getElem?_eq_getElem (show ol < r.cells.length from ho)]; rfl) rfl (by simp) rfl ?_; refine JC 4 rfl ?_; refine LR rfl (Jh rfl (Or.inr h2) rfl rfl) ?_; refine JI 3 rfl ?_; refine Jw rfl (fun g => ?_) (fun g => ?_)
 try simp only [ZZ] at g
 refine JK 5 (by kernel_rfl) (by kernel_rfl) ?_; refine Jd rfl rfl rfl (Jh rfl (Or.inr h2) rfl rfl) ?_; refine Jd rfl rfl rfl (Ji rfl) ?_; refine Kz rfl rfl rfl egh (hgh ρ) ?_
 refine Jd rfl rfl rfl (JG (j := 1) rfl rfl rfl rfl rfl (by first | decide | omega) (by first | (simp only [Nat.zero_add, Nat.reduceAdd, Nat.reduceMul, Nat.zero_mul, Nat.mul_one, Nat.add_zero]; exact rfl) | exact rfl)) ?_; refine Jd rfl rfl rfl (Jh rfl (kn 0 rfl) rfl rfl) ?_; refine JW ?_; refine Wo rfl ?_; refine KC (k := 1) (cs' := ((r.cells.set ol (uV w4.a)).set oh (uV w4.b)).toArray) rfl rfl rfl rfl rfl rfl (by rw [List.getElem?_toArray, List.getElem?_eq_getElem (show oh < (r.cells.set ol (uV w4.a)).length from by rw [List.length_set]; exact ho2)]; rfl) rfl (by simp) rfl ?_; refine Jx 1 rfl ?_; refine Kh rfl rfl .nil (fun w1 hs1 => ?_); exact ⟨(), rfl, hs1.weakL (List.sublist_cons_self _ _)⟩
 ·try exact Bool.noConfusion g
theorem Jjs {R : Jm} {ρ b1 b2 e1 e2 : Nat} {gl gh : FuncId} {ol oh : Nat} (egl : Enters Tryz.prog gl) (egh : Enters Tryz.prog gh) (hgl : ∀ ρ, Pure Tryz.prog gl [Qd ρ 0].toArray (Qd ρ ol)) (hgh : ∀ ρ, Pure Tryz.prog gh [Qd ρ 0].toArray (Qd ρ oh))
  (h1 : (b1, Obj.cells #[fV gl] e1 (0, 0)) ∈ R) (h2 : (b2, Obj.cells #[.nilFunc] e2 (0, 0)) ∈ R) (r : Rec) (w4 : W4) (ho : ol < 17) (ho2 : oh < 17) : PureT (α := Unit) Tryz.prog 240 [Qd ρ 0, wV w4.l, Qd b1 0, Qd b2 0].toArray (fun _ => .tuple #[]) [(ρ, .cells r.cells.toArray 29 (0, 0))] (fun _ => [(ρ, .cells (r.cells.set ol (uV w4.a)).toArray 29 (0, 0))]) R := by
 refine Jt Tryz.func240 rfl rfl fun w => ?_; refine J8 ?_; refine Jo 2 rfl ?_; refine LN rfl fun r1 => ?_; refine JI 3 rfl ?_; refine JK 5 (by kernel_rfl) (by kernel_rfl) ?_; refine Jd rfl rfl rfl (Jh rfl (Or.inr h1) rfl rfl) ?_; refine Jd rfl rfl rfl (Ji rfl) ?_; refine Kz rfl rfl rfl egl (hgl ρ) ?_
 refine Jd rfl rfl rfl (JG (j := 0) rfl rfl rfl rfl rfl (by first | decide | omega) (by first | (simp only [Nat.zero_add, Nat.reduceAdd, Nat.reduceMul, Nat.zero_mul, Nat.mul_one, Nat.add_zero]; exact rfl) | exact rfl)) ?_; refine Jd rfl rfl rfl (Jh rfl (kn 0 rfl) rfl rfl) ?_; refine JW ?_; refine Wo rfl ?_; refine KC (k := 1) (cs' := (r.cells.set ol (uV w4.a)).toArray) rfl rfl rfl rfl rfl rfl (by rw [List.getElem?_toArray, List.getElem?_eq_getElem (show ol < r.cells.length from ho)]; rfl) rfl (by simp) rfl ?_; refine JC 4 rfl ?_; refine LR rfl (Jh rfl (Or.inr h2) rfl rfl) ?_; refine JI 3 rfl ?_; refine Jw rfl (fun g => ?_) (fun g => ?_)
 try exact Bool.noConfusion g
 ·try simp only [ZZ] at g
  refine Kn 1 rfl ?_; refine Kh rfl rfl .nil (fun w1 hs1 => ?_); exact ⟨(), rfl, hs1.weakL (List.sublist_cons_self _ _)⟩
theorem Ja3 {R : Jm} {ρ b1 e1 : Nat} {g : FuncId} {o : Nat} {cs : List Value} (eg : Enters Tryz.prog g) (hg : ∀ ρ, Pure Tryz.prog g [Qd ρ 0].toArray (Qd ρ o)) (h1 : (b1, Obj.cells #[fV g] e1 (0, 0)) ∈ R) (r : Rec) (w4 : W4) (ho : o + 4 ≤ 17) (hcs : r.cells.take o ++ w4.l.map uV ++ r.cells.drop (o + 4) = cs) : PureT (α := Unit) Tryz.prog 242 [Qd ρ 0, wV w4.l, Qd b1 0].toArray (fun _ => .tuple #[]) [(ρ, .cells r.cells.toArray 29 (0, 0))] (fun _ => [(ρ, .cells cs.toArray 29 (0, 0))]) R := by
 refine Jt Tryz.func242 rfl rfl fun w => ?_; refine J8 ?_; refine Jo 2 rfl ?_; refine LN rfl fun r1 => ?_; refine JI 2 rfl ?_; refine JK 4 (by kernel_rfl) (by kernel_rfl) ?_; refine Jd rfl rfl rfl (Jh rfl (Or.inr h1) rfl rfl) ?_; refine Jd rfl rfl rfl (Ji rfl) ?_; refine Kz rfl rfl rfl eg (hg ρ) ?_; refine Jd rfl rfl rfl (Jp (vs := [_, _, _, _]) rfl (kn 0 rfl) rfl rfl rfl rfl) ?_; refine JW ?_; refine Wo rfl (Qk (k := 1) (n := 4) (vs := (w4.l.map uV).toArray) (cs' := cs.toArray) rfl rfl rfl rfl rfl rfl rfl ho (by rw [← hcs]) rfl (Jx 1 rfl ?_)); refine Kh rfl rfl .nil (fun w1 hs1 => ?_); exact ⟨(), rfl, hs1.weakL (List.sublist_cons_self _ _)⟩
def frN : Nat → Int
 | 0 => 0
 | 1 => 0
 | 2 => 0
 | 3 => 0
 | 4 => 3
 | 5 => 3
 | _ => 5
def toN : Nat → Int
 | 0 => 5
 | 1 => 5
 | 2 => 2
 | 3 => 2
 | 4 => 5
 | 5 => 5
 | _ => 5
def Jq9 : Nat → FuncId
 | 0 => 239
 | 1 => 241
 | 2 => 241
 | 3 => 239
 | 4 => 239
 | 5 => 241
 | _ => 239
def Jra : Nat → FuncId
 | 0 => 240
 | 1 => 242
 | 2 => 242
 | 3 => 240
 | 4 => 240
 | 5 => 242
 | _ => 240
def Jjt (p : Nat → Nat) : Nat → List Value
 | 0 => [Qd (p 1) 0, Qd (p 2) 0]
 | 1 => [Qd (p 3) 0]
 | 2 => [Qd (p 4) 0]
 | 3 => [Qd (p 5) 0, Qd (p 6) 0]
 | 4 => [Qd (p 7) 0, Qd (p 8) 0]
 | 5 => [Qd (p 9) 0]
 | _ => [Qd (p 10) 0, Qd (p 11) 0]
def ZQ (p : Nat → Nat) : Nat → Jm
 | 0 => [(p 2, .cells #[fV 182] 214 (0, 0)), (p 1, .cells #[fV 181] 214 (0, 0))]
 | 1 => [(p 3, .cells #[fV 184] 218 (0, 0))]
 | 2 => [(p 4, .cells #[fV 185] 218 (0, 0))]
 | 3 => [(p 6, .cells #[.nilFunc] 214 (0, 0)), (p 5, .cells #[fV 179] 214 (0, 0))]
 | 4 => [(p 8, .cells #[fV 186] 214 (0, 0)), (p 7, .cells #[fV 179] 214 (0, 0))]
 | 5 => [(p 9, .cells #[fV 187] 218 (0, 0))]
 | _ => [(p 11, .cells #[.nilFunc] 214 (0, 0)), (p 10, .cells #[fV 188] 214 (0, 0))]
def yf (p : Nat → Nat) (i : Nat) : List Value := [uV (VM i), .int .i64 (frN i), .int .i64 (toN i), .func (.func (Jq9 i)) #[] (Jjt p i).toArray, .func (.func (Jra i)) #[] (Jjt p i).toArray]
theorem Jrb (p : Nat → Nat) (i : Nat) : (yf p i).length = 5 := rfl
theorem Jju {i : Nat} (h : i < 7) : tab[i]? = some i := by
 have : i = 0 ∨ i = 1 ∨ i = 2 ∨ i = 3 ∨ i = 4 ∨ i = 5 ∨ i = 6 := by omega
 rcases this with rfl | rfl | rfl | rfl | rfl | rfl | rfl <;> rfl
theorem lt7 {i : Nat} (h : i < 7) : i = 0 ∨ i = 1 ∨ i = 2 ∨ i = 3 ∨ i = 4 ∨ i = 5 ∨ i = 6 := by omega
theorem Jrc {f : Int} (hf : KA f) {i : Nat} (hi : i < 7) : YH f i = (decide (f ≥ frN i) && decide (f ≤ toN i)) := by
 rcases Yr hf with rfl | rfl | rfl | rfl | rfl | rfl <;> rcases lt7 hi with rfl | rfl | rfl | rfl | rfl | rfl | rfl <;> rfl
theorem Zb {i : Nat} (h : i < 7) : Enters Tryz.prog (Jq9 i) := by
 rcases lt7 h with rfl | rfl | rfl | rfl | rfl | rfl | rfl
 ·exact Jio
 ·exact Jpa
 ·exact Jpa
 ·exact Jio
 ·exact Jio
 ·exact Jpa
 ·exact Jio
theorem qN {i : Nat} (h : i < 7) : Enters Tryz.prog (Jra i) := by
 rcases lt7 h with rfl | rfl | rfl | rfl | rfl | rfl | rfl
 ·exact Jip
 ·exact Jpb
 ·exact Jpb
 ·exact Jip
 ·exact Jip
 ·exact Jpb
 ·exact Jip
theorem Ja4 {R : Jm} {p : Nat → Nat} {i : Nat} (hi : i < 7) (hR : ∀ q ∈ ZQ p i, q ∈ R) (r : Rec) : PureR Tryz.prog (Jq9 i) (r.val :: Jjt p i).toArray (wV (XM r i).l) R := by
 rcases lt7 hi with rfl | rfl | rfl | rfl | rfl | rfl | rfl
 ·exact Jjp (enters_of Tryz.func181 (by kernel_rfl) rfl) (enters_of Tryz.func182 (by kernel_rfl) rfl) Jq3 Jq4 (hR _ (List.mem_cons_of_mem _ List.mem_cons_self)) (hR _ List.mem_cons_self) r rfl rfl
 ·exact Ja2 (enters_of Tryz.func184 (by kernel_rfl) rfl) Jq5 (hR _ List.mem_cons_self) r rfl
 ·exact Ja2 (enters_of Tryz.func185 (by kernel_rfl) rfl) Jq6 (hR _ List.mem_cons_self) r rfl
 ·exact Jjq zw zw qt qt (hR _ (List.mem_cons_of_mem _ List.mem_cons_self)) (hR _ List.mem_cons_self) r rfl rfl
 ·exact Jjp zw (enters_of Tryz.func186 (by kernel_rfl) rfl) qt Jq7 (hR _ (List.mem_cons_of_mem _ List.mem_cons_self)) (hR _ List.mem_cons_self) r rfl rfl
 ·exact Ja2 (enters_of Tryz.func187 (by kernel_rfl) rfl) Jq8 (hR _ List.mem_cons_self) r rfl
 ·exact Jjq Jil Jil Ja1 Ja1 (hR _ (List.mem_cons_of_mem _ List.mem_cons_self)) (hR _ List.mem_cons_self) r rfl rfl
theorem Jjv {R : Jm} {p : Nat → Nat} {i ρ : Nat} (hi : i < 7) (hR : ∀ q ∈ ZQ p i, q ∈ R) (r : Rec) (w4 : W4) : PureT (α := Unit) Tryz.prog (Jra i) (Qd ρ 0 :: wV w4.l :: Jjt p i).toArray (fun _ => .tuple #[]) [(ρ, .cells r.cells.toArray 29 (0, 0))] (fun _ => [(ρ, .cells (ZC r w4 i).cells.toArray 29 (0, 0))]) R := by
 rcases lt7 hi with rfl | rfl | rfl | rfl | rfl | rfl | rfl
 ·exact Jjr (enters_of Tryz.func181 (by kernel_rfl) rfl) (enters_of Tryz.func182 (by kernel_rfl) rfl) Jq3 Jq4 (hR _ (List.mem_cons_of_mem _ List.mem_cons_self)) (hR _ List.mem_cons_self) r w4 (by decide) (by decide)
 ·exact Ja3 (enters_of Tryz.func184 (by kernel_rfl) rfl) Jq5 (hR _ List.mem_cons_self) r w4 (by decide) rfl
 ·exact Ja3 (enters_of Tryz.func185 (by kernel_rfl) rfl) Jq6 (hR _ List.mem_cons_self) r w4 (by decide) rfl
 ·exact Jjs zw zw qt qt (hR _ (List.mem_cons_of_mem _ List.mem_cons_self)) (hR _ List.mem_cons_self) r w4 (by decide) (by decide)
 ·exact Jjr zw (enters_of Tryz.func186 (by kernel_rfl) rfl) qt Jq7 (hR _ (List.mem_cons_of_mem _ List.mem_cons_self)) (hR _ List.mem_cons_self) r w4 (by decide) (by decide)
 ·exact Ja3 (enters_of Tryz.func187 (by kernel_rfl) rfl) Jq8 (hR _ List.mem_cons_self) r w4 (by decide) rfl
 ·exact Jjs Jil Jil Ja1 Ja1 (hR _ (List.mem_cons_of_mem _ List.mem_cons_self)) (hR _ List.mem_cons_self) r w4 (by decide) (by decide)
theorem zK (k : Nat) (a b : Int) (gl gh : FuncId) : PureE (α := Nat × Nat) Tryz.prog 180 [uV k, .int .i64 a, .int .i64 b, fV gl, fV gh].toArray (fun p => .agg #[uV k, .int .i64 a, .int .i64 b, .func (.func 239) #[] #[Qd p.1 0, Qd p.2 0], .func (.func 240) #[] #[Qd p.1 0, Qd p.2 0]]) (fun p => [(p.2, .cells #[fV gh] 214 (0, 0)), (p.1, .cells #[fV gl] 214 (0, 0))]) := by
 refine JV Tryz.func180 rfl rfl fun w => ?_; refine J8 ?_; refine Jo 2 rfl ?_; refine LN rfl fun r1 => ?_; refine LN rfl fun r2 => ?_; refine LN rfl fun r3 => ?_; refine JC 4 rfl ?_; refine LR rfl (JB rfl rfl) ?_; refine JC 5 rfl ?_; refine LR rfl (JB rfl rfl) ?_; refine JC 10 rfl ?_; refine LR rfl (Js (r := [_, _, _, _, _]) rfl rfl) ?_
 refine LT 0 rfl rfl ?_; refine Jx 3 rfl ?_; refine Jf rfl rfl (.cons (Jq (vs := [_, _, _, _, _]) rfl (kn 0 rfl) rfl rfl) .nil) (fun w1 hs1 => ?_); exact ⟨(r1, r2), rfl, hs1.weakL (List.sublist_cons_self _ _)⟩
theorem zM (k : Nat) (a b : Int) (gl gh : FuncId) : PureE (α := Nat × Nat) Tryz.prog 180 [uV k, .int .i64 a, .int .i64 b, fV gl, .nilFunc].toArray (fun p => .agg #[uV k, .int .i64 a, .int .i64 b, .func (.func 239) #[] #[Qd p.1 0, Qd p.2 0], .func (.func 240) #[] #[Qd p.1 0, Qd p.2 0]]) (fun p => [(p.2, .cells #[.nilFunc] 214 (0, 0)), (p.1, .cells #[fV gl] 214 (0, 0))]) := by
 refine JV Tryz.func180 rfl rfl fun w => ?_; refine J8 ?_; refine Jo 2 rfl ?_; refine LN rfl fun r1 => ?_; refine LN rfl fun r2 => ?_; refine LN rfl fun r3 => ?_; refine JC 4 rfl ?_; refine LR rfl (JB rfl rfl) ?_; refine JC 5 rfl ?_; refine LR rfl (JB rfl rfl) ?_; refine JC 10 rfl ?_; refine LR rfl (Js (r := [_, _, _, _, _]) rfl rfl) ?_
 refine LT 0 rfl rfl ?_; refine Jx 3 rfl ?_; refine Jf rfl rfl (.cons (Jq (vs := [_, _, _, _, _]) rfl (kn 0 rfl) rfl rfl) .nil) (fun w1 hs1 => ?_); exact ⟨(r1, r2), rfl, hs1.weakL (List.sublist_cons_self _ _)⟩
theorem Ja5 (k : Nat) (a b : Int) (g : FuncId) : PureE (α := Nat) Tryz.prog 183 [uV k, .int .i64 a, .int .i64 b, fV g].toArray (fun p => .agg #[uV k, .int .i64 a, .int .i64 b, .func (.func 241) #[] #[Qd p 0], .func (.func 242) #[] #[Qd p 0]]) (fun p => [(p, .cells #[fV g] 218 (0, 0))]) := by
 refine JV Tryz.func183 rfl rfl fun w => ?_; refine J8 ?_; refine Jo 2 rfl ?_; refine LN rfl fun r1 => ?_; refine LN rfl fun r2 => ?_; refine JC 7 rfl ?_; refine LR rfl (JB rfl rfl) ?_; refine LR rfl (JB rfl rfl) ?_; refine LR rfl (Js (r := [_, _, _, _, _]) rfl rfl) ?_
 refine LT 0 rfl rfl ?_; refine Jx 3 rfl ?_; refine Jf rfl rfl (.cons (Jq (vs := [_, _, _, _, _]) rfl (kn 0 rfl) rfl rfl) .nil) (fun w1 hs1 => ?_); exact ⟨r1, rfl, hs1.weakL (List.sublist_cons_self _ _)⟩
def Jrd (p : Nat → Nat) : Jm := (p 0, .cells (tab.flatMap (yf p)).toArray 108 (0, 0)) :: (ZQ p 6 ++ (ZQ p 5 ++ (ZQ p 4 ++ (ZQ p 3 ++ (ZQ p 2 ++ (ZQ p 1 ++ ZQ p 0))))))
theorem Jv1 : PureE (α := Nat → Nat) Tryz.prog 113 [].toArray (fun p => .slice (some ⟨p 0, 0, none⟩) 7 7) Jrd := by
 refine JV Tryz.func113 rfl rfl fun w => ?_; refine J8 ?_; refine Jo 12 rfl ?_; refine JJ rfl rfl rfl Jik (zK 0 0 5 181 182) fun pp => ?_
 obtain ⟨a1, a2⟩ := pp
 refine JJ rfl rfl rfl Jo7 (Ja5 1 0 5 184) fun a3 => ?_; refine JJ rfl rfl rfl Jo7 (Ja5 5 0 2 185) fun a4 => ?_; refine Qx rfl (JJ rfl rfl rfl Jik (zM 6 0 2 179 179) fun pp => ?_)
 obtain ⟨a5, a6⟩ := pp
 refine Qx rfl (JJ rfl rfl rfl Jik (zK 3 3 5 179 186) fun pp => ?_)
 obtain ⟨a7, a8⟩ := pp
 refine JJ rfl rfl rfl Jo7 (Ja5 7 3 5 187) fun a9 => ?_; refine JJ rfl rfl rfl Jik (zM 8 5 5 188 188) fun pp => ?_
 obtain ⟨a10, a11⟩ := pp
 refine JN (n := 7) (sz := 5) (vs := [_, _, _, _, _, _, _]) (zs := [_, _, _, _, _, _, _, _, _, _, _, _, _, _, _, _, _, _, _, _, _, _, _, _, _, _, _, _, _, _, _, _, _, _, _]) (r := tab.flatMap (yf ([0, a1, a2, a3, a4, a5, a6, a7, a8, a9, a10, a11].getD · 0))) rfl rfl rfl rfl rfl rfl rfl rfl rfl (by rw [Ky]; exact rfl) rfl fun rt => ?_; refine Jx 4 rfl ?_; refine pT rfl rfl rfl fun w1 hs1 => ?_; exact ⟨([rt, a1, a2, a3, a4, a5, a6, a7, a8, a9, a10, a11].getD · 0), rfl, hs1⟩
theorem Ja6 (f : Int) : PureE (α := Nat) Tryz.prog 57 [.int .i64 f].toArray (fun p => .func (.func 112) #[] #[Qd p 0]) (fun p => [(p, .cells #[.int .i64 f] 3 (0, 0))]) := by
 refine JV Tryz.func57 rfl rfl fun w => ?_; refine J8 ?_; refine Jo 2 rfl ?_; refine LN rfl fun r1 => ?_; refine JC 5 rfl ?_; refine LR rfl (JB rfl rfl) ?_; refine Jx 4 rfl ?_; refine pT rfl rfl rfl fun w1 hs1 => ?_; exact ⟨r1, rfl, hs1⟩
def nxT (f : Int) : Nat → List Value → Jm → Nat → Prop := fun i v B i' => i < 7 ∧ i' = i + 1 ∧ ∃ p : Nat → Nat, v = [.agg (yf p i).toArray, .bool (YH f i)] ∧ B = ZQ p i
theorem Jre {p : Nat → Nat} {i : Nat} (hi : i < 7) : ∀ q ∈ ZQ p i, q ∈ Jrd p := by
 intro q hq
 unfold Jrd
 rcases lt7 hi with rfl | rfl | rfl | rfl | rfl | rfl | rfl <;> simp only [List.mem_cons, List.mem_append, hq, true_or, or_true]
theorem Jv2 {f : Int} (hf : KA f) {i : Nat} (hi : i < 7) (h : f ≥ frN i) : decide (f ≤ toN i) = YH f i := by rw [Jrc hf hi, decide_eq_true h, Bool.true_and]
theorem Jzc {f : Int} (hf : KA f) {i : Nat} (hi : i < 7) (h : ¬ f ≥ frN i) : false = YH f i := by rw [Jrc hf hi, decide_eq_false h, Bool.false_and]
theorem Ja7 {f : Int} (hf : KA f) (b : Nat) : Jb2 Tryz.prog 112 [Qd b 0] [(b, .cells #[.int .i64 f] 3 (0, 0))] 0 (nxT f) (fun i => i = 7) := by
  refine YL Tryz.func112 rfl rfl fun q xids w2 XI XF hY => ?_; refine J8 ?_; refine Jo 2 rfl ?_; refine JJ rfl rfl rfl (enters_of Tryz.func113 (by kernel_rfl) rfl) Jv1 fun p => ?_; change HL _ _ _ (Jrd p ++ []) _ _ _ _; rw [List.append_nil]; refine LR rfl (JU rfl rfl) ?_; refine JI 4 rfl ?_; refine J1 (σ := Nat) (fun i => i ≤ 7) (fun i => [(0, .func (.yield q) #[] #[]), (1, Qd b 0), (5, .slice (some ⟨p 0, 0, none⟩) 7 7), (6, .int .i64 7), (7, .int .i64 (i : Int))]) (fun _ => Jrd p) (fun i => XI i) (fun i => 7 - i) 0 (Nat.zero_le _) (lK rfl) (List.Sublist.refl _) (fun _ _ h => h) ?_; intro i hi1; refine JP 6 rfl ?_; refine cD (fun g => ?_) fun g => ?_
  · refine Jo 6 rfl ?_; refine LR rfl (JH (j := i) (m := 5) (off' := i * 5) rfl rfl rfl rfl rfl (by omega) (by omega)) ?_; refine LR rfl (Jp (n := 5) (vs := yf p i) rfl (Or.inl List.mem_cons_self) rfl rfl (Wi (Jrb p) (Jju (by omega))) rfl) ?_; refine LN rfl fun r1 => ?_
    refine LT 0 rfl rfl ?_; refine Xj 6 [0] rfl rfl ?_; refine LR rfl (Jh rfl (Jy (k := 0) rfl) rfl rfl) ?_; refine LS 4 [0] rfl rfl ?_
    refine J4 17 rfl (fun gb => ?_) (fun gb => ?_) <;> (try simp only [ZZ] at gb) <;> first | (refine LR rfl (Jh rfl (kn 0 rfl) rfl rfl) ?_) | (refine LR rfl (Jh rfl (kn 1 rfl) rfl rfl) ?_) | (refine LR rfl (Jh rfl (Jy (k := 0) rfl) rfl rfl) ?_) | (refine LK rfl ?_)
    all_goals first | refine LR rfl (JD rfl rfl rfl) ?_ | refine LK rfl ?_
    all_goals refine LW 3 [0] rfl rfl ?_
    all_goals first | (refine J2 (congrArg Value.bool (Jv2 hf (by omega) (by assumption))) ?_) | (refine J2 (congrArg Value.bool (Jzc hf (show i < 7 by omega) (by omega))) ?_)
    all_goals refine Zc (B := ZQ p i) (XT := XI (i + 1)) (XF := XF) rfl rfl rfl rfl (hY i [.agg (yf p i).toArray, .bool (YH f i)] (ZQ p i) (i + 1) ⟨by omega, rfl, p, rfl, rfl⟩) (fun q hq => List.mem_cons_of_mem _ (Jre (by omega) q hq)) ?_ ?_
    all_goals (
     refine Jx 2 rfl (Y7 1 rfl ?_); refine Jw rfl (fun g => ?_) (fun g => ?_)
     · try exact Bool.noConfusion g
       all_goals try simp only [ZZ] at g
       all_goals (
        refine Kn 5 rfl ?_; refine Jf rfl rfl .nil (fun w1 hs1 => ?_)
        obtain ⟨xs1, hx1⟩ := hs1.now
        exact ⟨⟨_, rfl⟩, hs1.keep, .inr ⟨_, hx1⟩⟩
        skip)
     · try exact Bool.noConfusion g
       all_goals try simp only [ZZ] at g
       all_goals (
        refine Jo 5 rfl ?_; refine Je (by omega) (by omega) ?_; refine Jx 2 rfl ?_; refine Jz ?_; exact Jv (i + 1) (by omega) (by omega) (lK rfl) (List.sublist_cons_self _ _) (fun _ _ h => h)
        skip)
     skip)
  · refine Kn 4 rfl ?_; refine Kh rfl rfl .nil (fun w1 hs1 => ?_)
    obtain ⟨xs1, hx1⟩ := hs1.now
    exact ⟨⟨_, rfl⟩, hs1.keep, .inl ⟨i, _, (by show i = 7; omega), hx1⟩⟩
theorem Yk {f : Int} {g : Nat → W4} {i : Nat} : ∀ (l : List Nat) (out : Rec), WI f g (l ++ [i]) out = if YH f i then ZC (WI f g l out) (g i) i else WI f g l out
 | [], out => rfl
 | j :: l, out => by rw [List.cons_append, WI, WI, Yk l]
theorem jO {i : Nat} (h : i < 7) : tab.take (i + 1) = tab.take i ++ [i] := by
 rcases lt7 h with rfl | rfl | rfl | rfl | rfl | rfl | rfl <;> rfl
theorem vC {f : Int} : ∀ i v B i', nxT f i v B i' → v.length = 2 := by
 rintro i v B i' ⟨_, _, p, rfl, _⟩; rfl
theorem Jzd {f : Int} (hf : KA f) (r : Rec) : Pure Tryz.prog 117 [.int .i64 f, r.val].toArray (qB f r).val := by
 refine Jk Tryz.func117 rfl rfl fun w => ?_; refine J8 ?_; refine Jo 2 rfl ?_; refine JS (cs := r.cells.toArray) rfl rfl rfl rfl fun rb => ?_; refine LN rfl fun r1 => ?_; refine JC 4 rfl ?_; refine LN rfl fun r2 => ?_; refine JC 6 rfl ?_; refine JJ rfl rfl rfl Juf (Ja6 f) fun b => ?_; refine JI 3 rfl ?_; refine Vt [1, 0, 2, 3] (by decide) rfl ?_; refine Vk (τ := Unit) (fun i (s : Rec) => i ≤ 7 ∧ s = WI f (XM r) (tab.take i) rec0) (fun s => [(r2, .cells s.cells.toArray 29 (0, 0))]) (fun _ _ => False) (fun _ => []) [(b, .cells #[.int .i64 f] 3 (0, 0)), (r1, .cells rec0.cells.toArray 29 (0, 0)), (rb, .cells r.cells.toArray 29 (0, 0))] rec0 rfl rfl Jih (Ja7 hf b) vC rfl (by simp) rfl ⟨by decide, rfl⟩ ?_ ?_ ?_
 rintro q Xr Xb w3 i _ _ _ s ⟨hi, rfl, p, rfl, rfl⟩ ⟨-, hs⟩ Kr hKr; refine yE ?_
 refine Jo 2 rfl ?_; refine LN rfl fun r3 => ?_
 refine LT 0 rfl rfl ?_; refine Jx 5 rfl ?_; refine hKr _ _ ?_; refine J8 ?_; clear hKr; refine JP 6 rfl ?_; refine cD (fun g => ?_) fun g => ?_
 refine JK 6 (by kernel_rfl) (by kernel_rfl) ?_
 refine Jd rfl rfl rfl (JD rfl rfl rfl) ?_; refine Jd rfl rfl rfl (Jh rfl (kn 0 rfl) rfl rfl) ?_
 refine Jd rfl rfl rfl (JD rfl rfl rfl) ?_; refine Jd rfl rfl rfl (Jh rfl (kn 0 rfl) rfl rfl) ?_; refine Jd rfl rfl rfl (Jb (xs := r.cells) (n := 17) rfl (Or.inr (List.mem_append_left _ (List.mem_append_right _ (List.mem_cons_of_mem _ (List.mem_cons_of_mem _ List.mem_cons_self))))) rfl rfl rfl) ?_; refine QZ rfl rfl rfl (Zb hi) (Ja4 hi (fun q hq => hq) r) (fun q hq => Or.inr (List.mem_append_left _ (List.mem_append_left _ hq))) ?_; refine JW ?_; refine zn (k := 1) rfl rfl rfl rfl rfl (qN hi) (Jjv hi (fun q hq => hq) s (XM r i)) (fun q hq => Or.inr (List.mem_append_left _ (List.mem_append_left _ hq))) fun _ => ?_; refine Jx 2 rfl ?_
 (refine KZ [0] (L' := [_]) (by decide) rfl ?_
  exact Kf (ZC s (XM r i) i) ⟨by omega, by rw [jO hi, Yk, ← hs, if_pos (by assumption)]⟩ rfl)
 refine Kn 2 rfl ?_
 (refine KZ [1] (L' := [_]) (by decide) rfl ?_
  exact Kf s ⟨by omega, by rw [jO hi, Yk, ← hs, if_neg (by simp_all)]⟩ rfl)
 rintro D i s hfi ⟨-, hs⟩
 obtain rfl : i = 7 := hfi
 refine gqo 4 rfl ?_; refine LR rfl (Jb (xs := s.cells) (n := 17) rfl (kn 1 rfl) rfl rfl rfl) ?_; refine Jc (k := 3) (n := 17) (ys := s.cells) rfl rfl rfl rfl rfl rfl rfl rfl rfl ?_; refine Jx 3 rfl ?_; refine Kq (k := 0) rfl rfl ?_; refine Jf rfl rfl (.cons (Jq (vs := s.cells) rfl (kn 3 rfl) rfl rfl) .nil) (fun w1 hs1 => ?_); exact ⟨by rw [hs]; rfl, hs1.keep⟩
 ·exact fun _ _ _ h => h.elim
theorem Jze (x y : Rec) : (eqS (uV x.number) (uV y.number) && (eqS (uV x.time) (uV y.time) && (Q0 [uV x.base.a, uV x.base.b, uV x.base.c, uV x.base.d] [uV y.base.a, uV y.base.b, uV y.base.c, uV y.base.d] && (Q0 [uV x.blob.a, uV x.blob.b, uV x.blob.c, uV x.blob.d] [uV y.blob.a, uV y.blob.b, uV y.blob.c, uV y.blob.d] && (Q0 [uV x.overhead.a, uV x.overhead.b, uV x.overhead.c, uV x.overhead.d] [uV y.overhead.a, uV y.overhead.b, uV y.overhead.c, uV y.overhead.d] && (eqS (uV x.scalar) (uV y.scalar) && (eqS (uV x.extra) (uV y.extra) && (eqS (uV x.operator) (uV y.operator) && true)))))))) = decide (x = y) := by
 rw [Bool.eq_iff_iff]; simp only [eqU, eqW, Bool.and_eq_true, decide_eq_true_eq, Bool.and_true]
 obtain ⟨a, b, c, d, e, f, g, h⟩ := x
 obtain ⟨a', b', c', d', e', f', g', h'⟩ := y
 simp only [Rec.mk.injEq]
theorem Jv3 {f : Int} (hf : KA f) (r : Rec) : (qB f r = r → V3 f r = 0) ∧ (¬ qB f r = r → V3 f r = 2) := by
 unfold V3
 rw [if_neg (by simpa using hf)]; exact ⟨fun h => if_pos ((wg hf).1 h), fun h => if_neg fun h2 => h ((wg hf).2 h2)⟩
theorem Jrf (f : Int) (r : Rec) : Pure Tryz.prog 63 [.int .i64 f, r.val].toArray (.int .i64 (V3 f r)) := by
 by_cases hf : KA f
 ·obtain ⟨h1, h2⟩ := Jv3 hf r
  refine Jk Tryz.func63 rfl rfl fun w => ?_; refine J8 ?_; refine Jo 2 rfl ?_; refine JS (cs := r.cells.toArray) rfl rfl rfl rfl fun rb => ?_; refine JC 8 rfl ?_; refine Jl rfl rfl rfl Jue (jN f) ?_; refine JI 4 rfl ?_; refine Jw rfl (fun g => ?_) (fun g => ?_)
  ·try simp only [ZZ] at g
   refine Kn 8 rfl ?_; refine pT rfl rfl rfl fun w1 hs1 => ?_
   exfalso; first | contradiction | (simp_all; done)
  try simp only [ZZ] at g
  refine JP 1 rfl ?_; refine JK 6 (by kernel_rfl) (by kernel_rfl) ?_; refine Jd rfl rfl rfl (Ji rfl) ?_; refine Jd rfl rfl rfl (Jb (xs := r.cells) (n := 17) rfl (kn 0 rfl) rfl rfl rfl) ?_; refine Kz rfl rfl rfl (enters_of Tryz.func117 (by kernel_rfl) rfl) (Jzd hf r) ?_; refine Jd rfl rfl rfl (Jb (xs := r.cells) (n := 17) rfl (kn 0 rfl) rfl rfl rfl) ?_; refine Jd rfl rfl rfl (Jh9 (xs := (qB f r).cells) (ys := r.cells) rfl rfl rfl (by kernel_rfl) (by kernel_rfl) (.scal (by decide) rfl rfl rfl rfl rfl (.scal (by decide) rfl rfl rfl rfl rfl (.arr (by decide) rfl rfl rfl rfl rfl rfl rfl rfl rfl rfl (.arr (by decide) rfl rfl rfl rfl rfl rfl rfl rfl rfl rfl (.arr (by decide) rfl rfl rfl rfl rfl rfl rfl rfl rfl rfl (.scal (by decide) rfl rfl rfl rfl rfl (.scal (by decide) rfl rfl rfl rfl rfl (.scal (by decide) rfl rfl rfl rfl rfl .nil))))))))) ?_; refine Ql (congrArg (fun b => Value.bool (!b)) (Jze (qB f r) r)) ?_; refine Jd rfl rfl rfl (J9 rfl) ?_; refine JW ?_; refine JI 2 rfl ?_; refine cD (fun g => ?_) fun g => ?_
  refine Kn 8 rfl ?_; refine pT rfl rfl rfl fun w1 hs1 => ?_; rw [h2 (by assumption)]; exact ⟨rfl, hs1.keep⟩
  refine Kn 9 rfl ?_; refine pT rfl rfl rfl fun w1 hs1 => ?_; rw [h1 (by assumption)]; exact ⟨rfl, hs1.keep⟩
 ·have e : V3 f r = 10 := by unfold V3; rw [if_pos hf]
  rw [e]; refine Jk Tryz.func63 rfl rfl fun w => ?_; refine J8 ?_; refine Jo 2 rfl ?_; refine LN rfl fun r1 => ?_; refine JC 8 rfl ?_; refine Jl rfl rfl rfl Jue (jN f) ?_; refine JI 4 rfl ?_; refine Jw rfl (fun g => ?_) (fun g => ?_)
  ·try simp only [ZZ] at g
   refine Kn 8 rfl ?_; refine pT rfl rfl rfl fun w1 hs1 => ?_
   first | exact ⟨rfl, hs1.keep⟩ | (exfalso; first | contradiction | (simp_all; done))
  ·try simp only [ZZ] at g
   refine JP 1 rfl ?_; refine JK 6 (by kernel_rfl) (by kernel_rfl) ?_; refine Jd rfl rfl rfl (Ji rfl) ?_; refine Jd rfl rfl rfl (Jp (vs := [_, _, _, _, _, _, _, _, _, _, _, _, _, _, _, _, _]) rfl (kn 0 rfl) rfl rfl rfl rfl) ?_
   exfalso; first | contradiction | (simp_all; done)
theorem J1k (s : BS) : Pure Tryz.prog 110 [J5 s].toArray (.tuple #[wV (uW s).l, .int .i64 (vU s).2]) := by
 rw [J0r]; exact wt s
theorem Jrg {R : Jm} {f : Int} (hf : KA f) {a : AcL} (ha : a.In R) : PureR Tryz.prog 54 [.int .i64 f, a.val].toArray (VN f a.er).val R := by
 refine Ja Tryz.func54 rfl rfl fun w => ?_; refine J8 ?_; refine Jo 2 rfl ?_; refine JS (cs := a.cells.toArray) rfl rfl rfl rfl fun rb => ?_; refine LN rfl fun r1 => ?_; refine JC 4 rfl ?_; refine LN rfl fun r2 => ?_; refine JC 6 rfl ?_; refine JJ rfl rfl rfl Juf (Ja6 f) fun b => ?_; refine JI 3 rfl ?_; refine Vt [1, 0, 2, 3] (by decide) rfl ?_; refine Vk (τ := Unit) (fun i (s : Rec) => i ≤ 7 ∧ s = WI f (fun i => uW (KM a.er (Wc (VM i)))) (tab.take i) rec0) (fun s => [(r2, .cells s.cells.toArray 29 (0, 0))]) (fun _ _ => False) (fun _ => []) [(b, .cells #[.int .i64 f] 3 (0, 0)), (r1, .cells rec0.cells.toArray 29 (0, 0)), (rb, .cells a.cells.toArray 48 (0, 0))] rec0 rfl rfl Jih (Ja7 hf b) vC rfl (by simp) rfl ⟨by decide, rfl⟩ ?_ ?_ ?_
 rintro q Xr Xb w3 i _ _ _ s ⟨hi, rfl, p, rfl, rfl⟩ ⟨-, hs⟩ Kr hKr; refine yE ?_
 refine Jo 2 rfl ?_; refine LN rfl fun r3 => ?_
 refine LT 0 rfl rfl ?_; refine Jx 5 rfl ?_; refine hKr _ _ ?_; refine J8 ?_; clear hKr; refine JP 6 rfl ?_; refine cD (fun g => ?_) fun g => ?_
 refine JP 1 rfl ?_
 refine JL [] [(1, .pure), (3, .pure), (5, .pure), (6, .pure), (7, .pure), (8, .pure), (9, .grow (V2 qU (.cells #[.int .u64 0, .int .u64 0, .int .u64 0, .int .u64 0] 27 (0, 0)))), (10, .turn), (11, .pure)] 12 [0, 1, 2, 3, 4, 5, 6, 7, 8, 9, 10, 11] (by kernel_rfl) (by kernel_rfl) (by first | exact (fun _ h => absurd h List.not_mem_nil) | simp [SubS] | (intro p hp; simp [hp])) ?_; refine KB (k := 0) rfl rfl rfl rfl rfl (Jb (xs := a.cells) (n := 8) rfl (Or.inr (List.mem_append_left _ (List.mem_append_right _ (List.mem_cons_of_mem _ (List.mem_cons_of_mem _ List.mem_cons_self))))) rfl rfl rfl) ?_
 refine Jn (k := 1) rfl rfl rfl rfl rfl (fun _ hS => (JD rfl rfl rfl)) ?_; refine KB (k := 2) rfl rfl rfl rfl rfl (Jh rfl (kn 0 rfl) rfl rfl) ?_; refine Qq (k := 3) rfl rfl rfl rfl rfl Jug (Ja0 (qk i)) ?_; refine KH (k := 4) rfl rfl rfl rfl rfl Jyl (Jgo ha (Wc (VM i))) (fun q hq => Or.inr (List.mem_append_right _ hq)) ?_; refine Qq (k := 5) rfl rfl rfl rfl rfl (enters_of Tryz.func110 (by kernel_rfl) rfl) (J1k _) ?_; refine Jn (k := 6) rfl rfl rfl rfl rfl (fun _ hS => (Ji rfl)) ?_; refine Jn (k := 7) rfl rfl rfl rfl rfl (fun _ hS => (JM rfl rfl)) ?_; refine Jn (k := 8) rfl rfl rfl rfl rfl (fun _ hS => (JM rfl rfl)) ?_; refine VL (k := 9) (cs := #[_, _, _, _]) rfl rfl rfl rfl rfl rfl fun r4 => ?_
 refine QI (k := 10) (q := 0) (n := 4) (ys := [_, _, _, _]) rfl rfl rfl rfl rfl rfl rfl rfl rfl rfl (by first | (simp only [List.set_cons_zero, List.set_cons_succ]; exact rfl) | exact rfl) (by first | exact (fun _ h => absurd h List.not_mem_nil) | simp [SubS] | (intro p hp; simp [hp])) ?_; refine Jn (k := 11) rfl rfl rfl rfl rfl (fun _ hS => (J9 rfl)) ?_; refine Ko ?_; refine Xj 6 [1, 0] rfl rfl ?_; refine zn (k := 2) rfl rfl rfl rfl rfl (qN hi) (Jjv hi (fun q hq => hq) s (uW (KM a.er (Wc (VM i))))) (fun q hq => Or.inr (List.mem_append_left _ (List.mem_append_left _ hq))) fun _ => ?_; refine Jx 2 rfl ?_
 (refine KZ [0] (L' := [_]) (by decide) rfl ?_
  exact Kf (ZC s (uW (KM a.er (Wc (VM i)))) i) ⟨by omega, by rw [jO hi, Yk, ← hs, if_pos (by assumption)]⟩ rfl)
 refine Kn 2 rfl ?_
 (refine KZ [1] (L' := [_]) (by decide) rfl ?_
  exact Kf s ⟨by omega, by rw [jO hi, Yk, ← hs, if_neg (by simp_all)]⟩ rfl)
 rintro D i s hfi ⟨-, hs⟩
 obtain rfl : i = 7 := hfi
 refine gqo 4 rfl ?_; refine LR rfl (Jb (xs := s.cells) (n := 17) rfl (kn 1 rfl) rfl rfl rfl) ?_; refine Jc (k := 3) (n := 17) (ys := s.cells) rfl rfl rfl rfl rfl rfl rfl rfl rfl ?_; refine Jx 3 rfl ?_; refine Kq (k := 0) rfl rfl ?_; refine Jf rfl rfl (.cons (Jq (vs := s.cells) rfl (kn 3 rfl) rfl rfl) .nil) (fun w1 hs1 => ?_); exact ⟨by rw [hs]; rfl, hs1.keep⟩
 ·exact fun _ _ _ h => h.elim
theorem Jrh {f : Int} (hf : KA f) {i : Nat} (hi : i < 2) : Pure Tryz.prog 56 [.int .i64 f, .int .i64 (i : Int)].toArray (.tuple #[J5 (KE f i).1, .bool (KE f i).2]) := by
 have : i = 0 ∨ i = 1 := by omega
 rcases this with rfl | rfl
 ·exact J1i hf
 ·exact J1j hf
def jP (f : Int) (s : List AcE) : Nat → Int
 | 0 => 0
 | i + 1 => if QO f s i then 2 else jP f s i
theorem Jep (f : Int) (s : StL) (i : Nat) : QO f s.er i = ((KE f i).2 && !decide ((Kt s (Qn i)).code = (KE f i).1)) := by
 unfold QO
 rw [← j9]
 show ((KE f i).2 && decide (¬ (Kt s (Qn i)).code = (KE f i).1)) = _
 rw [decide_not]
theorem Ja8 (f : Int) (s : StL) (i : Nat) : VS f s.er i = ((KE f i).2 && !WA s (Qn i)) := by
 unfold VS
 rw [Jol]
 cases Kj s.er (Qn i) <;> rfl
theorem Jri {f : Int} (hf : KA f) (s : StL) : Qi f s.er = if KR s.er ≠ 0 then KR s.er else if VS f s.er (0 : Nat) = true ∨ VS f s.er (1 : Nat) = true then 12 else if ¬ jP f s.er 2 = 0 then 2 else if Yt f (Kt s A0).er (VN f (Kt s A0).er) tab = true then 0 else 8 := by
 unfold Qi
 rw [if_neg (by simpa using hf), j9]
 have e : (¬ jP f s.er 2 = 0) = ((QO f s.er 0 || QO f s.er 1) = true) := by
  unfold jP jP jP
  show (¬ (if QO f s.er 1 = true then (2 : Int) else if QO f s.er 0 = true then 2 else 0) = 0) = _
  cases QO f s.er 0 <;> cases QO f s.er 1 <;> simp
 simp only [e, Bool.or_eq_true]
 rfl
theorem zN {f : Int} {a : AcE} {r : Rec} {i : Nat} (hi : i < 7) (h : ¬ KM a (Wc (VM i)) = (YI f r i).2) : Yt f a r tab = false := by
 rw [← Bool.not_eq_true, XY]; intro h2; exact h (h2 i (List.mem_of_getElem? (Jju hi)))
theorem Jjw {f : Int} {r : Rec} {i : Nat} (h : YH f i = true) : bW (XM r i) = (YI f r i).2 := by unfold YI; rw [if_pos h]
theorem yg {f : Int} {r : Rec} {i : Nat} (h : YH f i = false) : Vc = (YI f r i).2 := by unfold YI; rw [if_neg (by rw [h]; simp)]
theorem Jeq {R : Jm} (f : Int) {s : StL} (hs : s.In R) : PureR Tryz.prog 25 [.int .i64 f, s.val].toArray (.int .i64 (Qi f s.er)) R := by
  by_cases hf : KA f
  · have hc := Yi hs
    have hE := Jri hf s
    have hA := jA hs A0
    have hrd := Jrg hf hA
    rw [hE]; refine Ja Tryz.func25 rfl rfl fun w => ?_; refine J8 ?_; refine Jo 2 rfl ?_; refine JS (cs := s.cells.toArray) rfl rfl rfl rfl fun rb => ?_; refine LN rfl fun r1 => ?_; refine JC 6 rfl ?_; refine Jl rfl rfl rfl Jue (jN f) ?_; refine JI 3 rfl ?_; refine Jw rfl (fun g => ?_) (fun g => ?_)
    · try simp only [ZZ] at g
      refine Jo 2 rfl ?_
      refine LT 0 rfl rfl ?_; refine Jx 4 rfl ?_
      (refine Jf rfl rfl (.cons (JQ rfl (kn 0 rfl) rfl rfl) .nil) (fun w1 hs1 => ?_)
       first
         | (rw [if_pos (by omega)]; exact ⟨rfl, hs1.keep⟩)
         | (rw [if_neg (by omega), if_neg hnl, if_pos (by omega)]
            have h2 : jP f s.er 2 = 2 := by
              have h3 : ¬ jP f s.er 2 = 0 := by omega
              unfold jP jP jP at h3 ⊢
              split at h3 <;> split <;> simp_all
            rw [h2]; exact ⟨rfl, hs1.keep⟩)
         | (exfalso; first | contradiction | (simp_all; done)))
    · try simp only [ZZ] at g
      refine Jo 5 rfl ?_; refine LR rfl (Jp (vs := [_]) rfl (kn 1 rfl) rfl rfl rfl rfl) ?_; refine Jg rfl rfl rfl Jo0 hc oR ?_; refine JI 9 rfl ?_; refine cD (fun g => ?_) fun g => ?_
      · refine Jo 3 rfl ?_
        refine LT 0 rfl rfl ?_; refine Jx 4 rfl ?_
        first
          | (refine Kq (k := 0) rfl rfl ?_
             refine Jf rfl rfl (.cons (JQ rfl (kn 1 rfl) rfl rfl) .nil) (fun w1 hs1 => ?_); rw [if_neg (by omega), if_neg hnl, if_neg (by omega)]
             first | (rw [if_pos htab]; exact ⟨rfl, hs1.keep⟩) | (rw [if_neg (by rw [htab]; simp)]; exact ⟨rfl, hs1.keep⟩))
          | (refine Jf rfl rfl (.cons (JQ rfl (kn 0 rfl) rfl rfl) .nil) (fun w1 hs1 => ?_)
             first
               | (rw [if_pos (by omega)]; exact ⟨rfl, hs1.keep⟩)
               | (rw [if_neg (by omega), if_neg hnl, if_pos (by omega)]
                  have h2 : jP f s.er 2 = 2 := by
                    have h3 : ¬ jP f s.er 2 = 0 := by omega
                    unfold jP jP jP at h3 ⊢
                    split at h3 <;> split <;> simp_all
                  rw [h2]; exact ⟨rfl, hs1.keep⟩)
               | (exfalso; first | contradiction | (simp_all; done)))
          | (refine Jf rfl rfl (.cons (JQ rfl (kn 1 rfl) rfl rfl) .nil) (fun w1 hs1 => ?_)
             rw [if_neg (by omega), if_pos (by have h01 : i = 0 ∨ i = 1 := by omega
                                               rcases h01 with rfl | rfl
                                               exact Or.inl hlk
                                               exact Or.inr hlk)]
             exact ⟨rfl, hs1.keep⟩)
      · refine JP 14 rfl ?_
        have hc0 : KR s.er = 0 := by omega
        refine J1 (σ := Nat) (fun i => i ≤ 2 ∧ ∀ j, j < i → VS f s.er (j : Nat) = false) (fun i => [(0, .int .i64 f), (3, Qd rb 0), (4, Qd r1 0), (6, .int .i64 (jP f s.er i)), (26, .int .i64 (i : Int))]) (fun _ => [(r1, .cells #[.int .i64 0] 37 (0, 0)), (rb, .cells s.cells.toArray 36 (0, 0))]) (fun _ _ _ => True) (fun i => 2 - i) 0 ⟨by omega, fun j hj => absurd hj (by omega)⟩ (lK rfl) (List.Sublist.refl _) (fun _ _ h => h) ?_; rintro i ⟨hi2, hinv⟩; refine JP 6 rfl ?_; refine cD (fun g => ?_) fun g => ?_
        · refine JP 11 rfl ?_
          have hi : i < 2 := by omega
          refine Jo 3 rfl ?_; refine Jl rfl rfl rfl Jyk (Jrh hf hi) ?_; refine JI 8 rfl ?_
          refine JL [] [(1, .pure), (2, .pure), (4, .pure), (5, .pure), (6, .pure), (7, .grow (V2 qU (.cells #[.string ⟨#[]⟩, .int .u64 0, .int .u64 0, .int .u64 0, .int .u64 0, .int .u64 0, .string ⟨#[]⟩, .slice none 0 0] 48 (0, 0)))), (8, .turn), (9, .pure)] 10 [0, 1, 2, 3, 4, 5, 6, 7, 8, 9] (by kernel_rfl) (by kernel_rfl) (by first | exact (fun _ h => absurd h List.not_mem_nil) | simp [SubS] | (intro p hp; simp [hp])) ?_; refine KB (k := 0) rfl rfl rfl rfl rfl (Jp (vs := [_]) rfl (kn 1 rfl) rfl rfl rfl rfl) ?_; refine Jn (k := 1) rfl rfl rfl rfl rfl (fun _ hS => (Ji rfl)) ?_; refine Qq (k := 2) rfl rfl rfl rfl rfl Jli (wY i) ?_; refine KH (k := 3) rfl rfl rfl rfl rfl Joz (wX hs (Qn i)) oR ?_; refine Jn (k := 4) rfl rfl rfl rfl rfl (fun _ hS => (Ji rfl)) ?_; refine Jn (k := 5) rfl rfl rfl rfl rfl (fun _ hS => (JM rfl rfl)) ?_; refine Jn (k := 6) rfl rfl rfl rfl rfl (fun _ hS => (JM rfl rfl)) ?_; refine VL (k := 7) (cs := #[_, _, _, _, _, _, _, _]) rfl rfl rfl rfl rfl rfl fun r2 => ?_; refine QI (k := 8) (q := 0) (n := 8) (ys := (Kt s (Qn i)).cells) rfl rfl rfl rfl rfl rfl rfl rfl rfl rfl rfl (fun _ h => nomatch h) ?_; refine Jn (k := 9) rfl rfl rfl rfl rfl (fun _ hS => (J9 rfl)) ?_; refine Ko ?_; refine JC 7 rfl ?_
          refine J4 44 rfl (fun gb => ?_) (fun gb => ?_) <;> (try simp only [ZZ] at gb) <;> first | (refine Qx rfl ?_) | (refine LK rfl ?_)
          all_goals (
           refine LW 3 [] rfl rfl (Jx 1 rfl (Y7 1 rfl ?_)); refine Jw rfl (fun g => ?_) (fun g => ?_)
           · try exact Bool.noConfusion g
             all_goals try simp only [ZZ] at g
             all_goals (
              refine JP 1 rfl ?_
              have hlk : VS f s.er i = true := by rw [Ja8]; simp_all
              refine Jo 1 rfl ?_
              refine LT 1 rfl rfl ?_; refine Jx 9 rfl ?_
              (refine Jf rfl rfl (.cons (JQ rfl (kn 1 rfl) rfl rfl) .nil) (fun w1 hs1 => ?_)
               rw [if_neg (by omega), if_pos (by have h01 : i = 0 ∨ i = 1 := by omega
                                                 rcases h01 with rfl | rfl
                                                 exact Or.inl hlk
                                                 exact Or.inr hlk)]
               exact ⟨rfl, hs1.keep⟩)
              skip)
           · try simp only [ZZ] at g
             refine Jo 4 rfl ?_
             refine J4 50 rfl (fun gb => ?_) (fun gb => ?_) <;> (try simp only [ZZ] at gb) <;> first | (refine LR rfl (JD rfl rfl rfl) ?_) | (refine LK rfl ?_)
             all_goals refine LW 2 [0] rfl rfl ?_
             all_goals first | refine LR rfl (jo rfl rfl) ?_ | refine LK rfl ?_
             all_goals (
              refine LW 2 [] rfl rfl (Jx 1 rfl (Y7 1 rfl ?_)); refine Jw rfl (fun g => ?_) (fun g => ?_)
              · try exact Bool.noConfusion g
                all_goals try simp only [ZZ] at g
                all_goals (
                 refine Jo 8 rfl ?_; refine Je (by omega) (by omega) ?_; refine Jx 2 rfl ?_; refine Jz ?_
                 have hlk : VS f s.er i = false := by rw [Ja8]; simp_all
                 have hnx : ∀ j, j < i + 1 → VS f s.er (j : Nat) = false := fun j hj => by
                   rcases Nat.lt_succ_iff_lt_or_eq.1 hj with hj | rfl
                   exact hinv j hj
                   exact hlk
                 (have hw : QO f s.er i = true := by rw [Jep]; simp_all; done
                  exact Jv (i + 1) ⟨by omega, hnx⟩ (by omega) (.cons rfl (.cons rfl (.cons rfl (.cons (by show _ = some (Value.int .i64 (if QO f s.er i = true then 2 else jP f s.er i)); rw [if_pos hw]; rfl) (.cons rfl .nil))))) (List.sublist_cons_self _ _) (fun _ _ h => h))
                 skip)
              · try simp only [ZZ] at g
                refine Jo 6 rfl ?_; refine Je (by omega) (by omega) ?_; refine Jx 2 rfl ?_; refine Jz ?_
                have hlk : VS f s.er i = false := by rw [Ja8]; simp_all
                have hnx : ∀ j, j < i + 1 → VS f s.er (j : Nat) = false := fun j hj => by
                  rcases Nat.lt_succ_iff_lt_or_eq.1 hj with hj | rfl
                  exact hinv j hj
                  exact hlk
                (have hw : QO f s.er i = false := by rw [Jep]; simp_all; done
                 exact Jv (i + 1) ⟨by omega, hnx⟩ (by omega) (.cons rfl (.cons rfl (.cons rfl (.cons (by show _ = some (Value.int .i64 (if QO f s.er i = true then 2 else jP f s.er i)); rw [if_neg (by rw [hw]; simp)]; rfl) (.cons rfl .nil))))) (List.sublist_cons_self _ _) (fun _ _ h => h))
              skip)
           skip)
        · refine JP 7 rfl ?_
          obtain rfl : i = 2 := by omega
          have hnl : ¬ (VS f s.er (0 : Nat) = true ∨ VS f s.er (1 : Nat) = true) := fun h => h.elim (fun h => by rw [hinv 0 (by decide)] at h; cases h) (fun h => by rw [hinv 1 (by decide)] at h; cases h)
          refine JP 5 rfl ?_; refine cD (fun g => ?_) fun g => ?_
          · refine Jo 3 rfl ?_
            refine LT 0 rfl rfl ?_; refine Jx 4 rfl ?_
            first
              | (refine Kq (k := 0) rfl rfl ?_
                 refine Jf rfl rfl (.cons (JQ rfl (kn 1 rfl) rfl rfl) .nil) (fun w1 hs1 => ?_); rw [if_neg (by omega), if_neg hnl, if_neg (by omega)]
                 first | (rw [if_pos htab]; exact ⟨rfl, hs1.keep⟩) | (rw [if_neg (by rw [htab]; simp)]; exact ⟨rfl, hs1.keep⟩))
              | (refine Jf rfl rfl (.cons (JQ rfl (kn 0 rfl) rfl rfl) .nil) (fun w1 hs1 => ?_)
                 first
                   | (rw [if_pos (by omega)]; exact ⟨rfl, hs1.keep⟩)
                   | (rw [if_neg (by omega), if_neg hnl, if_pos (by omega)]
                      have h2 : jP f s.er 2 = 2 := by
                        have h3 : ¬ jP f s.er 2 = 0 := by omega
                        unfold jP jP jP at h3 ⊢
                        split at h3 <;> split <;> simp_all
                      rw [h2]; exact ⟨rfl, hs1.keep⟩)
                   | (exfalso; first | contradiction | (simp_all; done)))
              | (refine Jf rfl rfl (.cons (JQ rfl (kn 1 rfl) rfl rfl) .nil) (fun w1 hs1 => ?_)
                 rw [if_neg (by omega), if_pos (by have h01 : i = 0 ∨ i = 1 := by omega
                                                   rcases h01 with rfl | rfl
                                                   exact Or.inl hlk
                                                   exact Or.inr hlk)]
                 exact ⟨rfl, hs1.keep⟩)
          · refine JP 3 rfl ?_
            refine JL [] [(1, .pure), (3, .pure), (4, .pure), (5, .pure), (6, .grow (V2 qU (.cells #[.string ⟨#[]⟩, .int .u64 0, .int .u64 0, .int .u64 0, .int .u64 0, .int .u64 0, .string ⟨#[]⟩, .slice none 0 0] 48 (0, 0)))), (7, .turn), (8, .pure)] 9 [0, 1, 2, 3, 4, 5, 6, 7, 8] (by kernel_rfl) (by kernel_rfl) (by first | exact (fun _ h => absurd h List.not_mem_nil) | simp [SubS] | (intro p hp; simp [hp])) ?_; refine KB (k := 0) rfl rfl rfl rfl rfl (Jp (vs := [_]) rfl (kn 1 rfl) rfl rfl rfl rfl) ?_; refine Qq (k := 1) rfl rfl rfl rfl rfl Jli (wY 0) ?_; refine KH (k := 2) rfl rfl rfl rfl rfl Joz (wX hs A0) oR ?_; refine Jn (k := 3) rfl rfl rfl rfl rfl (fun _ hS => (Ji rfl)) ?_; refine Jn (k := 4) rfl rfl rfl rfl rfl (fun _ hS => (JM rfl rfl)) ?_; refine Jn (k := 5) rfl rfl rfl rfl rfl (fun _ hS => (JM rfl rfl)) ?_; refine VL (k := 6) (cs := #[_, _, _, _, _, _, _, _]) rfl rfl rfl rfl rfl rfl fun r3 => ?_; refine QI (k := 7) (q := 0) (n := 8) (ys := (Kt s A0).cells) rfl rfl rfl rfl rfl rfl rfl rfl rfl rfl rfl (fun _ h => nomatch h) ?_; refine Jn (k := 8) rfl rfl rfl rfl rfl (fun _ hS => (J9 rfl)) ?_; refine Ko ?_; refine JC 5 rfl ?_; refine LR rfl (Jb (xs := (Kt s A0).cells) (n := 8) rfl (kn 0 rfl) rfl rfl rfl) ?_; refine Jg rfl rfl rfl (enters_of Tryz.func54 (by kernel_rfl) rfl) hrd oR ?_; refine LN rfl fun r4 => ?_; refine Jc (k := 0) (n := 17) (ys := (VN f (Kt s A0).er).cells) rfl rfl rfl rfl rfl rfl rfl rfl rfl ?_; refine JC 6 rfl ?_; refine JJ rfl rfl rfl Juf (Ja6 f) fun b => ?_; refine JI 3 rfl ?_; refine Vt [3, 0, 1, 2, 4] (L' := [_, _, _, _, _]) (by decide) rfl ?_; refine Vk (τ := Unit) (fun i (_ : Unit) => i ≤ 7 ∧ ∀ j, j < i → KM (Kt s A0).er (Wc (VM j)) = (YI f (VN f (Kt s A0).er) j).2) (fun _ => [(r1, .cells #[.int .i64 0] 37 (0, 0))]) (fun j _ => j = .ret ∧ Yt f (Kt s A0).er (VN f (Kt s A0).er) tab = false) (fun _ => [(r1, .cells #[.int .i64 8] 37 (0, 0))]) [(b, .cells #[.int .i64 f] 3 (0, 0)), (r4, .cells (VN f (Kt s A0).er).cells.toArray 29 (0, 0)), (r3, .cells (Kt s A0).cells.toArray 48 (0, 0)), (rb, .cells s.cells.toArray 36 (0, 0))] () rfl rfl Jih (Ja7 hf b) vC rfl (fun q hq => .inl (by rw [List.mem_singleton.1 hq]; exact List.mem_cons_self)) rfl ⟨Nat.zero_le _, fun j hj => absurd hj (by omega)⟩ ?_ ?_ ?_
            rintro q Xr Xb w3 i _ _ _ ⟨⟩ ⟨hi, rfl, p, rfl, rfl⟩ ⟨hi7, hrow⟩ Kr hKr; refine yE ?_
            refine Jo 2 rfl ?_; refine LN rfl fun r5 => ?_
            refine LT 0 rfl rfl ?_; refine Jx 5 rfl ?_; refine hKr _ _ ?_; refine J8 ?_; clear hKr; refine Jo 3 rfl ?_; refine Jl rfl rfl rfl (enters_of Tryz.func58 (by kernel_rfl) rfl) Jjm ?_; refine JI 9 rfl ?_; refine cD (fun g => ?_) fun g => ?_
            refine X6 3 [0] rfl rfl ?_; refine LR rfl (Jb (xs := (VN f (Kt s A0).er).cells) (n := 17) rfl (Or.inr (List.mem_append_left _ (List.mem_append_right _ (List.mem_cons_of_mem _ List.mem_cons_self)))) rfl rfl rfl) ?_; refine Jg rfl rfl rfl (Zb hi) (Ja4 hi (fun q hq => hq) (VN f (Kt s A0).er)) (fun q hq => Or.inr (List.mem_append_left _ (List.mem_append_left _ hq))) ?_; refine Jl rfl rfl rfl Jaf (Q2 (wd (xV f _) i).wok) ?_; refine J2 (congrArg J5 (Jjw (by assumption))) ?_; refine JI 4 rfl ?_; refine JK 7 (by kernel_rfl) (by kernel_rfl) ?_; refine Jd rfl rfl rfl (Jb (xs := (Kt s A0).cells) (n := 8) rfl (Or.inr (List.mem_append_left _ (List.mem_append_right _ (List.mem_cons_of_mem _ (List.mem_cons_of_mem _ List.mem_cons_self))))) rfl rfl rfl) ?_
            refine Jd rfl rfl rfl (JD rfl rfl rfl) ?_; refine Jd rfl rfl rfl (Jh rfl (kn 0 rfl) rfl rfl) ?_; refine Kz rfl rfl rfl Jug (Ja0 (qk i)) ?_; refine QZ rfl rfl rfl Jyl (Jgo hA (Wc (VM i))) (fun q hq => Or.inr (List.mem_append_right _ hq)) ?_; refine Jd rfl rfl rfl (Ji rfl) ?_; refine Jd rfl rfl rfl (jo rfl rfl) ?_; refine JW ?_; refine JI 2 rfl ?_; refine cD (fun g => ?_) fun g => ?_
            refine Jo 2 rfl ?_
            refine LT 1 rfl rfl ?_; refine Jx 4 rfl ?_; refine KZ [1] (L' := [_]) (by decide) rfl ?_
            refine WX () ⟨rfl, zN hi (by first | assumption | (rw [← yg (by assumption)]; assumption))⟩ rfl
            refine Kn 2 rfl ?_; refine KZ [1] (L' := [_]) (by decide) rfl ?_; refine Kf () ⟨by omega, fun j hj => ?_⟩ rfl
            rcases Nat.lt_succ_iff_lt_or_eq.1 hj with hj | rfl
            exact hrow j hj
            first | assumption | (rw [← yg (by assumption)]; assumption)
            refine JP 3 rfl ?_; refine JK 7 (by kernel_rfl) (by kernel_rfl) ?_; refine Jd rfl rfl rfl (Jb (xs := (Kt s A0).cells) (n := 8) rfl (Or.inr (List.mem_append_left _ (List.mem_append_right _ (List.mem_cons_of_mem _ (List.mem_cons_of_mem _ List.mem_cons_self))))) rfl rfl rfl) ?_
            refine Jd rfl rfl rfl (JD rfl rfl rfl) ?_; refine Jd rfl rfl rfl (Jh rfl (kn 0 rfl) rfl rfl) ?_; refine Kz rfl rfl rfl Jug (Ja0 (qk i)) ?_; refine QZ rfl rfl rfl Jyl (Jgo hA (Wc (VM i))) (fun q hq => Or.inr (List.mem_append_right _ hq)) ?_; refine Jd rfl rfl rfl (Ji rfl) ?_; refine Jd rfl rfl rfl (jo rfl rfl) ?_; refine JW ?_; refine JI 2 rfl ?_; refine cD (fun g => ?_) fun g => ?_
            refine Jo 2 rfl ?_
            refine LT 1 rfl rfl ?_; refine Jx 4 rfl ?_; refine KZ [1] (L' := [_]) (by decide) rfl ?_
            refine WX () ⟨rfl, zN hi (by first | assumption | (rw [← yg (by assumption)]; assumption))⟩ rfl
            refine Kn 2 rfl ?_; refine KZ [1] (L' := [_]) (by decide) rfl ?_; refine Kf () ⟨by omega, fun j hj => ?_⟩ rfl
            rcases Nat.lt_succ_iff_lt_or_eq.1 hj with hj | rfl
            exact hrow j hj
            first | assumption | (rw [← yg (by assumption)]; assumption)
            · rintro D i ⟨⟩ hfi ⟨-, hrow⟩
              obtain rfl : i = 7 := hfi
              have htab : Yt f (Kt s A0).er (VN f (Kt s A0).er) tab = true := XY.2 fun j hj => hrow j (Jye hj)
              refine gqo 4 rfl ?_
              refine LT 1 rfl rfl ?_; refine Jx 3 rfl ?_
              first
                | (refine Kq (k := 0) rfl rfl ?_
                   refine Jf rfl rfl (.cons (JQ rfl (kn 1 rfl) rfl rfl) .nil) (fun w1 hs1 => ?_); rw [if_neg (by omega), if_neg hnl, if_neg (by omega)]
                   first | (rw [if_pos htab]; exact ⟨rfl, hs1.keep⟩) | (rw [if_neg (by rw [htab]; simp)]; exact ⟨rfl, hs1.keep⟩))
                | (refine Jf rfl rfl (.cons (JQ rfl (kn 0 rfl) rfl rfl) .nil) (fun w1 hs1 => ?_)
                   first
                     | (rw [if_pos (by omega)]; exact ⟨rfl, hs1.keep⟩)
                     | (rw [if_neg (by omega), if_neg hnl, if_pos (by omega)]
                        have h2 : jP f s.er 2 = 2 := by
                          have h3 : ¬ jP f s.er 2 = 0 := by omega
                          unfold jP jP jP at h3 ⊢
                          split at h3 <;> split <;> simp_all
                        rw [h2]; exact ⟨rfl, hs1.keep⟩)
                     | (exfalso; first | contradiction | (simp_all; done)))
                | (refine Jf rfl rfl (.cons (JQ rfl (kn 1 rfl) rfl rfl) .nil) (fun w1 hs1 => ?_)
                   rw [if_neg (by omega), if_pos (by have h01 : i = 0 ∨ i = 1 := by omega
                                                     rcases h01 with rfl | rfl
                                                     exact Or.inl hlk
                                                     exact Or.inr hlk)]
                   exact ⟨rfl, hs1.keep⟩)
            rintro D j ⟨⟩ ⟨rfl, htab⟩
            refine Kn 3 rfl ?_
            (refine Kq (k := 0) rfl rfl ?_
             refine Jf rfl rfl (.cons (JQ rfl (kn 1 rfl) rfl rfl) .nil) (fun w1 hs1 => ?_); rw [if_neg (by omega), if_neg hnl, if_neg (by omega)]
             first | (rw [if_pos htab]; exact ⟨rfl, hs1.keep⟩) | (rw [if_neg (by rw [htab]; simp)]; exact ⟨rfl, hs1.keep⟩))
  · have e : Qi f s.er = 10 := by unfold Qi; rw [if_pos hf]
    rw [e]; refine Ja Tryz.func25 rfl rfl fun w => ?_; refine J8 ?_; refine Jo 2 rfl ?_; refine LN rfl fun r1 => ?_; refine LN rfl fun r2 => ?_; refine JC 6 rfl ?_; refine Jl rfl rfl rfl Jue (jN f) ?_; refine Wo rfl ?_; refine J2 (show _ = Value.bool true from by rw [decide_eq_false hf]; rfl) ?_; refine JI 2 rfl ?_; refine Jw rfl (fun g => ?_) (fun g => ?_)
    try simp only [ZZ] at g
    refine Jo 2 rfl ?_
    refine LT 0 rfl rfl ?_; refine Jx 4 rfl ?_; refine Jf rfl rfl (.cons (JQ rfl (kn 0 rfl) rfl rfl) .nil) (fun w1 hs1 => ?_); exact ⟨rfl, hs1.keep⟩
    · try exact Bool.noConfusion g
theorem J1l {R : Jm} {p : Nat → Nat} {i rr e : Nat} {f : Int} (hi : i < 7) {r : Rec} (hr : r.ok) (hR : (rr, Obj.cells r.cells.toArray e (0, 0)) ∈ R) : PureR Tryz.prog 130 (.agg (yf p i).toArray :: .bool (YH f i) :: [Qd rr 0]).toArray (J5 (YI f r i).2) (ZQ p i ++ R) := by
 refine Ja Tryz.func130 rfl rfl fun w => ?_; refine J8 ?_; refine Jo 2 rfl ?_; refine JS (cs := (yf p i).toArray) rfl rfl rfl rfl fun rb => ?_; refine JI 10 rfl ?_; refine cD (fun g => ?_) fun g => ?_
 refine Jo 2 rfl ?_; refine Jl rfl rfl rfl (enters_of Tryz.func58 (by kernel_rfl) rfl) Jjm ?_; refine Jx 5 rfl ?_; refine pT rfl rfl rfl fun w1 hs1 => ?_; refine ⟨?_, hs1.keep⟩; rw [← yg (by assumption)]; rfl
 ·refine X6 6 [0] rfl rfl ?_; refine LR rfl (Jb (xs := r.cells) (n := 17) rfl (Or.inr (List.mem_append_right _ hR)) rfl rfl rfl) ?_; refine Jg rfl rfl rfl (Zb hi) (Ja4 hi (fun q hq => hq) r) (fun q hq => Or.inr (List.mem_append_left _ hq)) ?_; refine Jl rfl rfl rfl Jaf (Q2 (wd hr i).wok) ?_; refine Jx 4 rfl ?_; refine pT rfl rfl rfl fun w1 hs1 => ?_; refine ⟨?_, hs1.keep⟩; rw [← Jjw (by assumption)]; rfl
theorem Jzf {R : Jm} {a : AcL} (ha : a.In R) {f : Int} (hf : KA f) {gv : FuncId} {capsV : List Value} {vals : Nat → BS} (egv : Enters Tryz.prog gv) (hgv : ∀ i, i < 7 → ∀ p, PureR Tryz.prog gv (.agg (yf p i).toArray :: .bool (YH f i) :: capsV).toArray (J5 (vals i)) (ZQ p i ++ R)) :
  PureT (α := AcRes R (QA a.er (tab.map fun i => (Wc (VM i), vals i)))) Tryz.prog 129 [.int .i64 f, a.val, .func (.func gv) #[] capsV.toArray].toArray (fun x => x.val) [] (fun x => x.L) R := by
 obtain ⟨rows, hrows⟩ : ∃ rows, rows = tab.map fun i => (Wc (VM i), vals i) := ⟨_, rfl⟩
 have hdr : ∀ i, i < 7 → rows.drop i = (Wc (VM i), vals i) :: rows.drop (i + 1) := fun i hi => by rw [hrows]; exact map_drop _ hi
 have hd7 : rows.drop 7 = [] := by rw [hrows]; rfl
 rw [← hrows]; clear hrows; refine Jt Tryz.func129 rfl rfl fun w => ?_; refine J8 ?_; refine Jo 2 rfl ?_; refine JS (cs := a.cells.toArray) rfl rfl rfl rfl fun rb => ?_; refine LN rfl fun rv => ?_; refine LN rfl fun r1 => ?_; refine LN rfl fun r2 => ?_; refine JC 6 rfl ?_; refine JJ rfl rfl rfl Juf (Ja6 f) fun b => ?_; refine JI 3 rfl ?_; refine Vt [4, 2, 1, 0, 3] (L' := [_, _, _, _, _]) (by decide) rfl ?_; refine Vk (τ := AcSt R × Int) (fun i (s : AcSt R) => i ≤ 7 ∧ QA a.er rows = QA s.a.er (rows.drop i)) (fun s => (rb, .cells s.a.cells.toArray 48 (0, 0)) :: (r1, .cells ac0L.cells.toArray 48 (0, 0)) :: (r2, .cells #[.int .i64 0] 37 (0, 0)) :: s.L) (fun j s => j = .ret ∧ QA a.er rows = (s.1.a.er, s.2)) (fun s => (rb, .cells s.1.a.cells.toArray 48 (0, 0)) :: (r1, .cells s.1.a.cells.toArray 48 (0, 0)) :: (r2, .cells #[.int .i64 s.2] 37 (0, 0)) :: s.1.L) [(b, .cells #[.int .i64 f] 3 (0, 0)), (rv, _)] ⟨a, [], ha⟩ rfl rfl Jih (Ja7 hf b) vC rfl (fun q hq => .inl (by rw [List.mem_singleton.1 hq]; exact List.mem_cons_self)) rfl ⟨Nat.zero_le _, rfl⟩ ?_ ?_ ?_
 ·rintro q Xr Xb w3 i _ _ _ s ⟨hi, rfl, p, rfl, rfl⟩ ⟨hi7, hinv⟩ Kr hKr; refine yE ?_
  rw [hdr i hi, Jaa] at hinv; refine Jo 2 rfl ?_; refine LN rfl fun r3 => ?_
  refine LT 0 rfl rfl ?_; refine Jx 5 rfl ?_; refine hKr _ _ ?_; refine J8 ?_; clear hKr; refine JP 2 rfl ?_; refine JL s.L [(1, .pure), (3, .pure), (6, .pure), (8, .grow (Qf (Classical.choice (Jon s.ok (Wc (VM i)) (vals i))) AcRes.val AcRes.L)), (9, .pure), (10, .pure), (11, .pure), (12, .grow (V2 qU (.cells #[.string ⟨#[]⟩, .int .u64 0, .int .u64 0, .int .u64 0, .int .u64 0, .int .u64 0, .string ⟨#[]⟩, .slice none 0 0] 48 (0, 0)))), (13, .turn), (14, .pure)] 15 [0, 1, 2, 3, 4, 5, 6, 7, 8, 9, 10, 11, 12, 13, 14] (by kernel_rfl) (by kernel_rfl) (fun p hp => List.mem_cons_of_mem _ (List.mem_cons_of_mem _ (List.mem_cons_of_mem _ (List.mem_cons_of_mem _ hp)))) ?_; refine KB (k := 0) rfl rfl rfl rfl rfl (Jb (xs := s.a.cells) (n := 8) rfl (kn 1 rfl) rfl rfl rfl) ?_
  refine Jn (k := 1) rfl rfl rfl rfl rfl (fun _ hS => (JD rfl rfl rfl)) ?_; refine KB (k := 2) rfl rfl rfl rfl rfl (Jh rfl (kn 0 rfl) rfl rfl) ?_; refine Qq (k := 3) rfl rfl rfl rfl rfl Jug (Ja0 (qk i)) ?_; refine KB (k := 4) rfl rfl rfl rfl rfl (Jh rfl (Or.inr (List.mem_append_left _ (List.mem_append_right _ (List.mem_cons_of_mem _ List.mem_cons_self)))) rfl rfl) ?_; refine KB (k := 5) rfl rfl rfl rfl rfl (Jb (xs := yf p i) (n := 5) rfl (kn 0 rfl) rfl rfl rfl) ?_; refine Jn (k := 6) rfl rfl rfl rfl rfl (fun _ hS => (Ji rfl)) ?_; refine KH (k := 7) rfl rfl rfl rfl rfl egv (hgv i hi p) (fun q hq => (List.mem_append.1 hq).elim (fun h => Or.inr (List.mem_append_left _ (List.mem_append_left _ h))) (fun h => Or.inr (List.mem_append_right _ h))) ?_; refine KT (k := 8) rfl rfl rfl rfl rfl (enters_of Tryz.func197 (by kernel_rfl) rfl) (J1g s.ok (Wc (VM i)) (vals i)) (fun q hq => (List.mem_append.1 hq).imp id (fun h => List.mem_append_right _ h)) fun x => ?_; refine Jn (k := 9) rfl rfl rfl rfl rfl (fun _ hS => (Ji rfl)) ?_; refine Jn (k := 10) rfl rfl rfl rfl rfl (fun _ hS => (JM rfl rfl)) ?_; refine Jn (k := 11) rfl rfl rfl rfl rfl (fun _ hS => (JM rfl rfl)) ?_; refine VL (k := 12) (cs := #[_, _, _, _, _, _, _, _]) rfl rfl rfl rfl rfl rfl fun r4 => ?_; refine QI (k := 13) (q := 0) (n := 8) (ys := x.a.cells) rfl rfl rfl rfl rfl rfl rfl rfl rfl rfl rfl (fun p hp => List.mem_cons_of_mem _ (List.mem_append_right _ (List.mem_cons_of_mem _ (List.mem_cons_of_mem _ (List.mem_cons_of_mem _ (List.mem_cons_of_mem _ hp)))))) ?_; refine Jn (k := 14) rfl rfl rfl rfl rfl (fun _ hS => (J9 rfl)) ?_; refine Ko ?_; refine JI 4 rfl ?_; refine Jib (L' := (r4, .cells x.a.cells.toArray 48 (0, 0)) :: (r3, .cells (yf p i).toArray 108 (0, 0)) :: (rb, .cells s.a.cells.toArray 48 (0, 0)) :: (r1, .cells ac0L.cells.toArray 48 (0, 0)) :: (r2, .cells #[.int .i64 0] 37 (0, 0)) :: (x.L ++ s.L)) (List.Perm.cons _ (QD x.L [_, _, _, _] s.L)) ?_
  have hx := x.eq
  have hxe : (Wb s.a.er (Wc (VM i)) (vals i)).2 = x.err := (congrArg Prod.snd hx).symm
  have hxa : (Wb s.a.er (Wc (VM i)) (vals i)).1 = x.a.er := (congrArg Prod.fst hx).symm
  refine JP 5 rfl ?_; refine cD (fun g => ?_) fun g => ?_
  refine Jo 2 rfl ?_; refine LR rfl (Jb (xs := s.a.cells) (n := 8) rfl (kn 2 rfl) rfl rfl rfl) ?_; refine Qx rfl (Jc (k := 3) (n := 8) (ys := s.a.cells) rfl rfl rfl rfl rfl rfl rfl rfl rfl ?_)
  refine LT 4 rfl rfl ?_; refine Jx 5 rfl ?_; refine ZX (L' := (rb, .cells s.a.cells.toArray 48 (0, 0)) :: (r1, .cells s.a.cells.toArray 48 (0, 0)) :: (r2, .cells #[.int .i64 x.err] 37 (0, 0)) :: s.L) (fun _ _ h => h) (.cons _ (.cons _ (.cons_cons _ (.cons_cons _ (.cons_cons _ (List.sublist_append_right _ _)))))) ?_; exact WX (s, x.err) ⟨rfl, by rw [hinv, if_pos (by rw [hxe]; assumption)]; exact (Joo (by rw [hxe]; assumption)).trans (congrArg (Prod.mk s.a.er) hxe)⟩ rfl
  ·refine Jo 3 rfl ?_; refine LR rfl (Jb (xs := x.a.cells) (n := 8) rfl (kn 0 rfl) rfl rfl rfl) ?_; refine Jc (k := 2) (n := 8) (ys := x.a.cells) rfl rfl rfl rfl rfl rfl rfl rfl rfl ?_; refine Jx 2 rfl ?_; refine ZX (L' := (rb, .cells x.a.cells.toArray 48 (0, 0)) :: (r1, .cells ac0L.cells.toArray 48 (0, 0)) :: (r2, .cells #[.int .i64 0] 37 (0, 0)) :: (x.L ++ s.L)) (fun _ _ h => h) (.cons _ (.cons _ (List.Sublist.refl _))) ?_; exact Kf (s.next x) ⟨by omega, by rw [hinv, if_neg (by rw [hxe]; simpa using ‹x.err = 0›), hxa]; rfl⟩ rfl
 rintro D i s hfi ⟨-, hinv⟩
 obtain rfl : i = 7 := hfi
 rw [hd7] at hinv; refine gqo 4 rfl ?_; refine LR rfl (Jb (xs := s.a.cells) (n := 8) rfl (kn 1 rfl) rfl rfl rfl) ?_; refine Jc (k := 2) (n := 8) (ys := s.a.cells) rfl rfl rfl rfl rfl rfl rfl rfl rfl ?_
 refine LT 3 rfl rfl ?_; refine Jx 3 rfl ?_; refine Kq (k := 0) rfl rfl ?_
 (refine Jf rfl rfl (.cons (Jq (vs := s.a.cells) rfl (kn 2 rfl) rfl rfl) (.cons (JQ rfl (kn 3 rfl) rfl rfl) .nil)) (fun w1 hs1 => ?_)
  exact ⟨⟨s.a, 0, s.L, s.ok, by rw [hinv]; rfl⟩, rfl, hs1.weakL (.cons _ (.cons _ (.cons _ (.cons _ (List.sublist_append_left _ _)))))⟩)
 ·rintro D j s ⟨rfl, hst⟩
  refine Kn 3 rfl ?_; refine Kq (k := 0) rfl rfl ?_
  (refine Jf rfl rfl (.cons (Jq (vs := s.1.a.cells) rfl (kn 2 rfl) rfl rfl) (.cons (JQ rfl (kn 3 rfl) rfl rfl) .nil)) (fun w1 hs1 => ?_)
   exact ⟨⟨s.1.a, s.2, s.1.L, s.1.ok, hst.symm⟩, rfl, hs1.weakL (.cons _ (.cons _ (.cons _ (.cons _ (List.sublist_append_left _ _)))))⟩)
theorem Jv4 {R : Jm} {a : AcL} (h : a.In R) {c : BS} (hc : c.length ≤ 512) : AcL.In R { a with code := c } := ⟨h.addr, h.nonce, h.bal, (by show c.length ≤ 9223372036854775807; omega), h.len, h.seg, h.slots⟩
theorem Jv5 {R : Jm} {a : AcL} (h : a.In R) {c : BS} (hc : c.length ≤ 512) : AcL.In R { a with addr := c } := ⟨(by show c.length ≤ 9223372036854775807; omega), h.nonce, h.bal, h.code, h.len, h.seg, h.slots⟩
theorem Jzg {f : Int} {r : Rec} : (tab.map fun i => (Wc (VM i), (YI f r i).2)) = wi f r := rfl
theorem J1m {R : Jm} {f : Int} (hf : KA f) {r : Rec} (hr : r.ok) {bf br ef er : Nat} (hbf : (bf, Obj.cells #[.int .i64 f] ef (0, 0)) ∈ R) (hbr : (br, Obj.cells r.cells.toArray er (0, 0)) ∈ R) {w : Nat} (hw : w < 2) {a : AcL} (ha : a.In R) :
  PureT (α := AcRes R (XN f w a.er r)) Tryz.prog 128 (.int .i64 (w : Int) :: a.val :: [Qd bf 0, Qd br 0]).toArray (fun x => x.val) [] (fun x => x.L) R := by
 have hin := Jv4 ha (Jc5 f w)
 have hset := Jzf (gv := 130) (capsV := [Qd br 0]) (vals := fun i => (YI f r i).2) hin hf (enters_of Tryz.func130 (by kernel_rfl) rfl) (fun i hi p => J1l hi hr hbr)
 rw [Jzg] at hset
 have hC : XN f w a.er r = if (w : Int) = 1 then ({ a.er with code := (KE f w).1 }, 0) else QA { a.er with code := (KE f w).1 } (wi f r) := by
  unfold XN
  by_cases h : (w : Int) = 1
  rw [if_pos h, if_pos h, h]
  rw [if_neg h, if_neg h]
 rw [hC]; clear hC; refine Jt Tryz.func128 rfl rfl fun w => ?_; refine J8 ?_; refine Jo 2 rfl ?_; refine JS (cs := a.cells.toArray) rfl rfl rfl rfl fun rb => ?_; refine LN rfl fun r1 => ?_; refine JC 5 rfl ?_; refine LR rfl (Jh rfl (Or.inr hbf) rfl rfl) ?_; refine Qx rfl (Jl rfl rfl rfl Jyk (Jrh hf hw) (LS 4 [] rfl rfl ?_))
 refine LT 1 rfl rfl ?_; refine JI 9 rfl ?_; refine cD (fun g => ?_) fun g => ?_
 refine Jo 2 rfl ?_; refine LR rfl (Jp (vs := [_, _, _, _, _, _, _, _]) rfl (kn 1 rfl) rfl rfl rfl rfl) ?_
 refine LT 0 rfl rfl ?_; refine Jx 5 rfl ?_; refine Jf rfl rfl (.cons (Jq (vs := [_, _, _, _, _, _, _, _]) rfl (kn 0 rfl) rfl rfl) (.cons (Jj rfl) .nil)) (fun w1 hs1 => ?_)
 (rw [if_pos (by omega)]
  exact ⟨⟨{ a with code := (KE f _).1 }, 0, [], hin, rfl⟩, rfl, hs1.weakL (List.nil_sublist _)⟩)
 ·refine Jo 4 rfl ?_; refine LR rfl (Jh rfl (Or.inr hbf) rfl rfl) ?_; refine LR rfl (Jp (vs := [_, _, _, _, _, _, _, _]) rfl (kn 1 rfl) rfl rfl rfl rfl) ?_; refine LR rfl (JB rfl rfl) ?_; refine Ke rfl rfl rfl (enters_of Tryz.func129 (by kernel_rfl) rfl) hset oR fun x => ?_; refine JY List.perm_append_comm ?_; change HL _ _ ((21, .tuple #[x.a.val, .int .i64 x.err]) :: _) ((r1, _) :: (rb, _) :: x.L) _ _ _ _; refine LS 2 [] rfl rfl ?_; refine Jc (k := 0) (n := 8) (ys := x.a.cells) rfl rfl rfl rfl rfl rfl rfl rfl rfl ?_; refine Jx 4 rfl ?_; refine Jf rfl rfl (.cons (Jq (vs := [_, _, _, _, _, _, _, _]) rfl (kn 0 rfl) rfl rfl) (.cons (Jj rfl) .nil)) (fun w1 hs1 => ?_)
  (rw [if_neg (by omega)]
   exact ⟨x, rfl, hs1.weakL (List.sublist_append_right [_, _] _)⟩)
theorem Jrj {R : Jm} {s : StL} (hs : s.In R) {f : Int} (hf : KA f) {gd : FuncId} {capsd : List Value} {go : Int → AcE → AcE × Int} (egd : Enters Tryz.prog gd)
  (hdo : ∀ w : Nat, w < 2 → ∀ (a : AcL) (R' : Jm), (∀ q ∈ R, q ∈ R') → a.In R' → PureT (α := AcRes R' (go w a.er)) Tryz.prog gd (.int .i64 (w : Int) :: a.val :: capsd).toArray (fun x => x.val) [] (fun x => x.L) R') :
  PureT (α := StRes R (Zm f s.er go)) Tryz.prog 127 [.int .i64 f, s.val, .func (.func gd) #[] capsd.toArray].toArray (fun x => x.val) [] (fun x => x.L) R := by
 obtain ⟨res, hres⟩ : ∃ res, res = Zm f s.er go := ⟨_, rfl⟩
 rw [← hres]; refine Jt Tryz.func127 rfl rfl fun w => ?_; refine J8 ?_; refine Jo 2 rfl ?_; refine JS (cs := s.cells.toArray) rfl rfl rfl rfl fun rb => ?_; refine LN rfl fun r1 => ?_; refine JC 5 rfl ?_; refine LR rfl (Jp (vs := [_]) rfl (kn 1 rfl) rfl rfl rfl rfl) ?_; refine LN rfl fun r2 => ?_
 refine LT 0 rfl rfl ?_; refine JI 9 rfl ?_; refine J1 (σ := Nat × StSt R) (fun q => q.1 ≤ 2 ∧ VO f s.er go (([0, 1] : List Int).drop q.1) q.2.s.er = res) (fun q => [(0, .int .i64 f), (2, .func (.func gd) #[] capsd.toArray), (4, Qd rb 0), (6, Qd r1 0), (8, Qd r2 0), (17, .int .i64 (q.1 : Int))]) (fun q => (r2, .cells q.2.s.cells.toArray 36 (0, 0)) :: (r1, .cells st0L.cells.toArray 36 (0, 0)) :: (rb, .cells s.cells.toArray 36 (0, 0)) :: q.2.L) (fun _ _ _ => True) (fun q => 2 - q.1) (0, ⟨s, [], hs⟩) ⟨Nat.zero_le _, hres.symm⟩ (lK rfl) (List.Sublist.refl _) (fun _ _ h => h) ?_; rintro ⟨i, t⟩ ⟨hi2, hinv⟩; simp only at hi2 hinv; change HC _ _ [(0, _), (2, _), (4, _), (6, _), (8, _), (17, .int .i64 (i : Int))] ((r2, .cells t.s.cells.toArray _ (0, 0)) :: (r1, _) :: (rb, _) :: t.L) _ _ _; refine JP 6 rfl ?_; refine cD (fun g => ?_) fun g => ?_
 ·refine JP 12 rfl ?_
  have hi : i < 2 := by omega
  rw [Jdj hi, Jab] at hinv; refine Jo 3 rfl ?_; refine Jl rfl rfl rfl Jyk (Jrh hf hi) ?_; refine JI 13 rfl ?_; refine cD (fun g => ?_) fun g => ?_
  refine Jo 6 rfl ?_; refine Je (by omega) (by omega) ?_; refine Jx 2 rfl ?_; refine Jz ?_
  (rw [if_pos (by simp_all)] at hinv
   exact Jv (i + 1, t) ⟨by simp only; omega, hinv⟩ (by simp only; omega) (lK rfl) (List.Sublist.refl _) (fun _ _ h => h))
  ·refine JP 3 rfl ?_; rw [if_neg (by simp_all)] at hinv
   refine JL [] [(1, .pure), (2, .pure), (4, .pure), (5, .pure), (6, .pure), (7, .grow (V2 qU (.cells #[.string ⟨#[]⟩, .int .u64 0, .int .u64 0, .int .u64 0, .int .u64 0, .int .u64 0, .string ⟨#[]⟩, .slice none 0 0] 48 (0, 0)))), (8, .turn), (9, .pure)] 10 [0, 1, 2, 3, 4, 5, 6, 7, 8, 9] (by kernel_rfl) (by kernel_rfl) (by first | exact (fun _ h => absurd h List.not_mem_nil) | simp [SubS] | (intro p hp; simp [hp])) ?_; refine KB (k := 0) rfl rfl rfl rfl rfl (Jb (xs := t.s.cells) (n := 1) rfl (kn 0 rfl) rfl rfl rfl) ?_; refine Jn (k := 1) rfl rfl rfl rfl rfl (fun _ hS => (Ji rfl)) ?_; refine Qq (k := 2) rfl rfl rfl rfl rfl Jli (wY i) ?_; refine KH (k := 3) rfl rfl rfl rfl rfl Joz (wX t.ok (Qn i)) (fun q hq => (List.mem_append.1 hq).elim (fun h => Or.inl (List.mem_cons_of_mem _ (List.mem_cons_of_mem _ (List.mem_cons_of_mem _ h)))) Or.inr) ?_; refine Jn (k := 4) rfl rfl rfl rfl rfl (fun _ hS => (Ji rfl)) ?_; refine Jn (k := 5) rfl rfl rfl rfl rfl (fun _ hS => (JM rfl rfl)) ?_; refine Jn (k := 6) rfl rfl rfl rfl rfl (fun _ hS => (JM rfl rfl)) ?_; refine VL (k := 7) (cs := #[_, _, _, _, _, _, _, _]) rfl rfl rfl rfl rfl rfl fun r3 => ?_; refine QI (k := 8) (q := 0) (n := 8) (ys := (Kt t.s (Qn i)).cells) rfl rfl rfl rfl rfl rfl rfl rfl rfl rfl rfl (fun _ h => nomatch h) ?_; refine Jn (k := 9) rfl rfl rfl rfl rfl (fun _ hS => (J9 rfl)) ?_; refine Ko ?_; refine JC 5 rfl ?_; refine Jl rfl rfl rfl Jli (wY i) ?_; refine LS 1 [] rfl rfl ?_
   refine LT 0 rfl rfl ?_; refine Xj 7 [0] rfl rfl ?_; refine Ke rfl rfl rfl egd (hdo i hi { Kt t.s (Qn i) with addr := Qn i } (t.L ++ R) (fun q hq => List.mem_append_right _ hq) (Jv5 (jA t.ok (Qn i)) (Joq i))) (fun q hq => (List.mem_append.1 hq).elim (fun h => Or.inl (List.mem_cons_of_mem _ (List.mem_cons_of_mem _ (List.mem_cons_of_mem _ (List.mem_cons_of_mem _ h))))) Or.inr) fun x => ?_; refine JY (QD x.L [_, _, _, _] t.L) ?_; change HL _ _ ((42, .tuple #[x.a.val, .int .i64 x.err]) :: _) ((r3, _) :: (r2, _) :: (r1, _) :: (rb, _) :: (x.L ++ t.L)) _ _ _ _
   have hxe : (go i (QQ t.s.er i)).2 = x.err := by rw [← Jop]; exact (congrArg Prod.snd x.eq).symm
   have hxa : (go i (QQ t.s.er i)).1 = x.a.er := by rw [← Jop]; exact (congrArg Prod.fst x.eq).symm
   rw [hxe, hxa] at hinv; refine LS 3 [] rfl rfl ?_; refine LN rfl fun r4 => ?_; refine Jc (k := 0) (n := 8) (ys := x.a.cells) rfl rfl rfl rfl rfl rfl rfl rfl rfl ?_; refine JI 10 rfl ?_; refine cD (fun g => ?_) fun g => ?_
   ·refine Jo 1 rfl ?_; refine LR rfl (Jb (xs := t.s.cells) (n := 1) rfl (kn 2 rfl) rfl rfl rfl) ?_; refine LR rfl (Jb (xs := x.a.cells) (n := 8) rfl (kn 0 rfl) rfl rfl rfl) ?_; refine Ke rfl rfl rfl (enters_of Tryz.func196 (by kernel_rfl) rfl) (J1h (R := x.L ++ (t.L ++ R)) (t.ok.mono fun q hq => List.mem_append_right _ hq) x.ok) (fun q hq => (List.mem_append.1 hq).elim (fun h => Or.inl (List.mem_cons_of_mem _ (List.mem_cons_of_mem _ (List.mem_cons_of_mem _ (List.mem_cons_of_mem _ (List.mem_cons_of_mem _ (List.mem_append_left _ h))))))) fun hq => (List.mem_append.1 hq).elim (fun h => Or.inl (List.mem_cons_of_mem _ (List.mem_cons_of_mem _ (List.mem_cons_of_mem _ (List.mem_cons_of_mem _ (List.mem_cons_of_mem _ (List.mem_append_right _ h))))))) Or.inr) fun y => ?_; refine JY (QD y.L [_, _, _, _, _] (x.L ++ t.L)) ?_; change HL _ _ ((50, .tuple #[y.s.val, .int .i64 y.err]) :: _) ((r4, _) :: (r3, _) :: (r2, _) :: (r1, _) :: (rb, _) :: (y.L ++ (x.L ++ t.L))) _ _ _ _
    have hye : (qh t.s.er x.a.er).2 = y.err := (congrArg Prod.snd y.eq).symm
    have hys : (qh t.s.er x.a.er).1 = y.s.er := (congrArg Prod.fst y.eq).symm
    rw [hye, hys] at hinv; refine LS 3 [] rfl rfl ?_; refine Jc (k := 2) (n := 1) (ys := y.s.cells) rfl rfl rfl rfl rfl rfl rfl rfl rfl ?_; refine JI 9 rfl ?_; refine cD (fun g => ?_) fun g => ?_
    refine Jo 2 rfl ?_; refine LR rfl (Jb (xs := s.cells) (n := 1) rfl (kn 4 rfl) rfl rfl rfl) ?_; refine Qx rfl (Jc (k := 3) (n := 1) (ys := s.cells) rfl rfl rfl rfl rfl rfl rfl rfl rfl (Jx 9 rfl ?_)); refine Jf rfl rfl (.cons (Jq (vs := [_]) rfl (kn 3 rfl) rfl rfl) (.cons (Jj rfl) .nil)) (fun w1 hs1 => ?_)
    (rw [if_neg (show ¬ (x.err ≠ 0) by omega), if_pos (show y.err ≠ 0 by omega)] at hinv
     exact ⟨⟨s, y.err, [], hs, hinv⟩, rfl, hs1.weakL (List.nil_sublist _)⟩)
    ·refine Jo 5 rfl ?_; refine Je (by omega) (by omega) ?_; refine Jx 2 rfl ?_; refine Jz ?_
     (rw [if_neg (show ¬ (x.err ≠ 0) by omega), if_neg (show ¬ (y.err ≠ 0) by omega)] at hinv
      exact Jv (i + 1, t.next y) ⟨by simp only; omega, hinv⟩ (by simp only; omega) (lK rfl) (.cons _ (.cons _ (List.Sublist.refl _))) (fun _ _ h => h))
   refine JP 8 rfl ?_; refine cD (fun g => ?_) fun g => ?_
   refine Jo 2 rfl ?_; refine LR rfl (Jb (xs := s.cells) (n := 1) rfl (kn 4 rfl) rfl rfl rfl) ?_; refine Qx rfl (Jc (k := 3) (n := 1) (ys := s.cells) rfl rfl rfl rfl rfl rfl rfl rfl rfl (Jx 9 rfl ?_)); refine Jf rfl rfl (.cons (Jq (vs := [_]) rfl (kn 3 rfl) rfl rfl) (.cons (Jj rfl) .nil)) (fun w1 hs1 => ?_)
   (rw [if_pos (show x.err ≠ 0 by omega)] at hinv
    exact ⟨⟨s, x.err, [], hs, hinv⟩, rfl, hs1.weakL (List.nil_sublist _)⟩)
   refine Jo 5 rfl ?_; refine Je (by omega) (by omega) ?_; refine Jx 2 rfl ?_; refine Jz ?_
   exfalso; omega
 ·refine Jo 7 rfl ?_; refine LR rfl (Jb (xs := t.s.cells) (n := 1) rfl (kn 0 rfl) rfl rfl rfl) ?_; refine Jc (k := 1) (n := 1) (ys := t.s.cells) rfl rfl rfl rfl rfl rfl rfl rfl rfl ?_; refine Jx 4 rfl ?_; refine Jf rfl rfl (.cons (Jq (vs := [_]) rfl (kn 1 rfl) rfl rfl) (.cons (Jj rfl) .nil)) (fun w1 hs1 => ?_)
  (obtain rfl : i = 2 := by omega
   exact ⟨⟨t.s, 0, t.L, t.ok, hinv⟩, rfl, hs1.weakL (.cons _ (.cons _ (.cons _ (List.Sublist.refl _))))⟩)
theorem Jjx {R : Jm} (f : Int) {s : StL} (hs : s.In R) {r : Rec} (hr : r.ok) : PureT (α := StRes R (KX f s.er r)) Tryz.prog 81 [.int .i64 f, s.val, r.val].toArray (fun x => x.val) [] (fun x => x.L) R := by
 have hc := Yi hs
 obtain ⟨res, hres⟩ : ∃ res, res = Zm f s.er fun w a => XN f w a r := ⟨_, rfl⟩
 have hwr : KX f s.er r = if V3 f r ≠ 0 then (s.er, V3 f r) else if KR s.er ≠ 0 then (s.er, KR s.er) else res := by rw [hres]; rfl
 rw [hwr]; refine Jt Tryz.func81 rfl rfl fun w => ?_; refine J8 ?_; refine Jo 2 rfl ?_; refine LN rfl fun r1 => ?_; refine JS (cs := s.cells.toArray) rfl rfl rfl rfl fun rs => ?_; refine JS (cs := r.cells.toArray) rfl rfl rfl rfl fun rr => ?_; refine LN rfl fun r2 => ?_; refine JC 6 rfl ?_; refine LR rfl (Jh rfl (kn 3 rfl) rfl rfl) ?_; refine LR rfl (Jb (xs := r.cells) (n := 17) rfl (kn 1 rfl) rfl rfl rfl) ?_; refine Jl rfl rfl rfl (enters_of Tryz.func63 (by kernel_rfl) rfl) (Jrf f r) ?_; refine JI 9 rfl ?_; refine cD (fun g => ?_) fun g => ?_
 refine X6 4 [2] rfl rfl ?_
 refine LT 0 rfl rfl ?_; refine Jx 5 rfl ?_; refine Jf rfl rfl (.cons (Jq (vs := [_]) rfl (kn 0 rfl) rfl rfl) (.cons (Jj rfl) .nil)) (fun w1 hs1 => ?_); rw [if_pos (by omega)]; exact ⟨⟨s, V3 f r, [], hs, rfl⟩, rfl, hs1.weakL (List.nil_sublist _)⟩
 ·refine Jo 5 rfl ?_; refine LR rfl (Jp (vs := [_]) rfl (kn 2 rfl) rfl rfl rfl rfl) ?_; refine Jg rfl rfl rfl Jo0 hc oR ?_; refine JI 9 rfl ?_; refine cD (fun g => ?_) fun g => ?_
  refine X6 4 [2] rfl rfl ?_
  refine LT 0 rfl rfl ?_; refine Jx 5 rfl ?_; refine Jf rfl rfl (.cons (Jq (vs := [_]) rfl (kn 0 rfl) rfl rfl) (.cons (Jj rfl) .nil)) (fun w1 hs1 => ?_); rw [if_neg (by omega), if_pos (by omega)]; exact ⟨⟨s, KR s.er, [], hs, rfl⟩, rfl, hs1.weakL (List.nil_sublist _)⟩
  ·refine JP 3 rfl ?_
   have hf : KA f := (Jh5 (show V3 f r = 0 by omega)).1
   have hch := Jrj (R := (rr, Obj.cells r.cells.toArray 29 (0, 0)) :: (r1, Obj.cells #[.int .i64 f] 3 (0, 0)) :: R) (hs.mono fun q hq => List.mem_cons_of_mem _ (List.mem_cons_of_mem _ hq)) hf (gd := 128) (capsd := [Qd r1 0, Qd rr 0]) (go := fun w a => XN f w a r) (enters_of Tryz.func128 (by kernel_rfl) rfl) (fun w hw a R2 hR2 ha => J1m hf hr (hR2 _ (List.mem_cons_of_mem _ List.mem_cons_self)) (hR2 _ List.mem_cons_self) hw ha)
   refine X6 3 [3, 2] rfl rfl ?_; refine LR rfl (JB rfl rfl) ?_
   refine Ke (Rl := (rr, Obj.cells r.cells.toArray 29 (0, 0)) :: (r1, Obj.cells #[.int .i64 f] 3 (0, 0)) :: R) rfl rfl rfl (enters_of Tryz.func127 (by kernel_rfl) rfl) hch (fun q hq => by
    rcases List.mem_cons.1 hq with rfl | hq
    exact Or.inl (by simp)
    rcases List.mem_cons.1 hq with rfl | hq
    exact Or.inl (by simp)
    exact Or.inr hq) fun x => ?_
   refine JY List.perm_append_comm ?_; change HL _ _ ((26, .tuple #[x.s.val, .int .i64 x.err]) :: _) ((r2, _) :: (rr, _) :: (rs, _) :: (r1, _) :: x.L) _ _ _ _; refine LS 2 [] rfl rfl ?_; refine Jc (k := 0) (n := 1) (ys := x.s.cells) rfl rfl rfl rfl rfl rfl rfl rfl rfl ?_; refine Jx 4 rfl ?_; refine Jf rfl rfl (.cons (Jq (vs := [_]) rfl (kn 0 rfl) rfl rfl) (.cons (Jj rfl) .nil)) (fun w1 hs1 => ?_)
   (rw [if_neg (by omega), if_neg (by omega), hres]
    exact ⟨⟨x.s, x.err, x.L ++ [(rr, Obj.cells r.cells.toArray 29 (0, 0)), (r1, Obj.cells #[.int .i64 f] 3 (0, 0))], x.ok.mono fun q hq => by simp only [List.mem_append, List.mem_cons, List.not_mem_nil, or_false] at hq ⊢; rcases hq with h | h | h | h <;> simp [h], x.eq⟩, rfl, (hs1.perm (L' := x.L ++ [_, _, _, _]) (List.perm_append_comm (l₁ := [_, _, _, _]))).weakL ((List.Sublist.refl _).append (.cons _ (.cons_cons _ (.cons _ (List.Sublist.refl _)))))⟩)
theorem Jv6 {R : Jm} (f : Int) {s : StL} (hs : s.In R) : PureR Tryz.prog 24 [.int .i64 f, s.val].toArray (.tuple #[(VG f s.er).1.val, .int .i64 (VG f s.er).2]) R := by
 have hc := Jeq f hs
 have hA := jA hs A0
 have hrs : VG f s.er = if Qi f s.er ≠ 0 then (rec0, Qi f s.er) else (VN f (Kt s A0).er, 0) := by rw [j9]; rfl
 rw [hrs]; refine Ja Tryz.func24 rfl rfl fun w => ?_; refine J8 ?_; refine Jo 2 rfl ?_; refine JS (cs := s.cells.toArray) rfl rfl rfl rfl fun rs => ?_; refine LN rfl fun r1 => ?_; refine Xj 8 [1] rfl rfl ?_; refine Jg rfl rfl rfl (enters_of Tryz.func25 (by kernel_rfl) rfl) hc oR ?_; refine JI 9 rfl ?_; refine cD (fun g => ?_) fun g => ?_
 refine Jo 2 rfl ?_; refine LR rfl (Js (r := [_, _, _, _, _, _, _, _, _, _, _, _, _, _, _, _, _]) rfl rfl) ?_; refine Qx rfl ?_
 refine LT 0 rfl rfl ?_; refine Jx 5 rfl ?_; refine Jf rfl rfl (.cons (Jq (vs := [_, _, _, _, _, _, _, _, _, _, _, _, _, _, _, _, _]) rfl (kn 0 rfl) rfl rfl) (.cons (Jj rfl) .nil)) (fun w1 hs1 => ?_); rw [if_pos (by omega)]; exact ⟨rfl, hs1.keep⟩
 ·refine JP 3 rfl ?_
  have hrd := Jrg (f := f) (by
   obtain ⟨a, ha⟩ := YJ.1 (show Qi f s.er = 0 by omega)
   exact ha.forked) hA
  refine JL [] [(1, .pure), (3, .pure), (4, .pure), (5, .pure), (6, .grow (V2 qU (.cells #[.string ⟨#[]⟩, .int .u64 0, .int .u64 0, .int .u64 0, .int .u64 0, .int .u64 0, .string ⟨#[]⟩, .slice none 0 0] 48 (0, 0)))), (7, .turn), (8, .pure)] 9 [0, 1, 2, 3, 4, 5, 6, 7, 8] (by kernel_rfl) (by kernel_rfl) (by first | exact (fun _ h => absurd h List.not_mem_nil) | simp [SubS] | (intro p hp; simp [hp])) ?_; refine KB (k := 0) rfl rfl rfl rfl rfl (Jp (vs := [_]) rfl (kn 1 rfl) rfl rfl rfl rfl) ?_; refine Qq (k := 1) rfl rfl rfl rfl rfl Jli (wY 0) ?_; refine KH (k := 2) rfl rfl rfl rfl rfl Joz (wX hs A0) oR ?_; refine Jn (k := 3) rfl rfl rfl rfl rfl (fun _ hS => (Ji rfl)) ?_; refine Jn (k := 4) rfl rfl rfl rfl rfl (fun _ hS => (JM rfl rfl)) ?_; refine Jn (k := 5) rfl rfl rfl rfl rfl (fun _ hS => (JM rfl rfl)) ?_; refine VL (k := 6) (cs := #[_, _, _, _, _, _, _, _]) rfl rfl rfl rfl rfl rfl fun r2 => ?_; refine QI (k := 7) (q := 0) (n := 8) (ys := (Kt s A0).cells) rfl rfl rfl rfl rfl rfl rfl rfl rfl rfl rfl (fun _ h => nomatch h) ?_; refine Jn (k := 8) rfl rfl rfl rfl rfl (fun _ hS => (J9 rfl)) ?_; refine Ko ?_; refine JC 5 rfl ?_; refine LR rfl (Jb (xs := (Kt s A0).cells) (n := 8) rfl (kn 0 rfl) rfl rfl rfl) ?_; refine Jg rfl rfl rfl (enters_of Tryz.func54 (by kernel_rfl) rfl) hrd oR ?_; refine Jc (k := 1) (n := 17) (ys := (VN f (Kt s A0).er).cells) rfl rfl rfl rfl rfl rfl rfl rfl rfl ?_; refine Jx 4 rfl ?_; refine Jf rfl rfl (.cons (Jq (vs := [_, _, _, _, _, _, _, _, _, _, _, _, _, _, _, _, _]) rfl (kn 1 rfl) rfl rfl) (.cons (Jj rfl) .nil)) (fun w1 hs1 => ?_); rw [if_neg (by omega)]; exact ⟨rfl, hs1.keep⟩
def XQ (a : AcE) : Bool := !((decide (100 < a.addr.length) || (decide (60 < a.code.length) && decide (a.code.length ≤ 512))) || decide (20 < a.slots.length)) && a.slots.all fun x => !(decide (100 < x.1.length) || decide (100 < x.2.length))
def Z0 : Nat → Int → List AcE → Bool × Int
 | _, n, [] => (true, n)
 | i, n, a :: l => if 40 < i then (true, n) else if XQ a = false then (false, n) else Z0 (i + 1) (n + (a.slots.length : Int)) l
def ZR (s : List AcE) : Bool := (Z0 0 0 s).1 && (decide (s.length ≤ 40) && decide ((Z0 0 0 s).2 ≤ 40))
theorem Jv7 {a : AcE} {i : Nat} {x : BS × BS} (hx : a.slots[i]? = some x) (h : x.1.length > 100 ∨ x.2.length > 100) : XQ a = false := by
 unfold XQ
 have : (a.slots.all fun x => !(decide (100 < x.1.length) || decide (100 < x.2.length))) = false := by
  rw [List.all_eq_false]
  exact ⟨x, List.mem_of_getElem? hx, by rcases h with h | h <;> simp [h]⟩
 rw [this, Bool.and_false]
theorem Jv8 {a : AcE} (h : XQ a = true) : a.slots.length ≤ 20 := by
 unfold XQ at h
 simp only [Bool.and_eq_true, Bool.not_eq_true', Bool.or_eq_false_iff, decide_eq_false_iff_not] at h; omega
theorem Jrk {i : Nat} {n : Int} {s : List AcE} {a : AcE} (h : s[i]? = some a) (hi : i ≤ 40) (hf : XQ a = true) : Z0 i n (s.drop i) = Z0 (i + 1) (n + (a.slots.length : Int)) (s.drop (i + 1)) := by
 obtain ⟨hlt, e⟩ := List.getElem?_eq_some_iff.1 h
 rw [List.drop_eq_getElem_cons hlt, e]
 unfold Z0
 rw [if_neg (by omega), if_neg (by rw [hf]; simp)]
 cases s.drop (i + 1) <;> rfl
theorem Jrl {i : Nat} {n : Int} {s : List AcE} (h : 40 < i ∨ s.length ≤ i) : Z0 i n (s.drop i) = (true, n) := by
 rcases h with h | h
 ·cases s.drop i with
  | nil => rfl
  | cons a l => unfold Z0; rw [if_pos h]
 ·rw [List.drop_of_length_le h]; rfl
theorem Jrm {i : Nat} {n : Int} {s : List AcE} {a : AcE} (h : s[i]? = some a) (hi : i ≤ 40) (hf : XQ a = false) : (Z0 i n (s.drop i)).1 = false := by
 obtain ⟨hlt, e⟩ := List.getElem?_eq_some_iff.1 h
 rw [List.drop_eq_getElem_cons hlt, e]
 unfold Z0
 rw [if_neg (by omega), if_pos hf]
theorem Jl8 {R : Jm} {a : AcL} (ha : a.In R) : PureR Tryz.prog 69 [a.val].toArray (.bool (XQ a.er)) R := by
  have hl := ha.len
  have hseg := ha.seg
  obtain ⟨res, hres⟩ : ∃ b, b = XQ a.er := ⟨_, rfl⟩
  rw [← hres]
  have h1 : (100 < (a.addr.length : Int) ∨ (60 < (a.code.length : Int) ∧ (a.code.length : Int) ≤ 512) ∨ 20 < (a.slots.length : Int)) → res = false := fun h => by
    rw [hres]; unfold XQ
    have : ((decide (100 < a.addr.length) || (decide (60 < a.code.length) && decide (a.code.length ≤ 512))) || decide (20 < a.slots.length)) = true := by
      simp only [Bool.or_eq_true, Bool.and_eq_true, decide_eq_true_eq]; omega
    show (!((decide (100 < a.addr.length) || (decide (60 < a.code.length) && decide (a.code.length ≤ 512))) || decide (20 < a.slots.length)) && _) = false
    rw [this]; rfl
  have h2 : ¬ (100 < (a.addr.length : Int) ∨ (60 < (a.code.length : Int) ∧ (a.code.length : Int) ≤ 512) ∨ 20 < (a.slots.length : Int)) → (∀ (j : Nat) (x : BS × BS), a.slots[j]? = some x → x.1.length ≤ 100 ∧ x.2.length ≤ 100) → res = true := fun h h' => by
    rw [hres]; unfold XQ
    have e : ((decide (100 < a.addr.length) || (decide (60 < a.code.length) && decide (a.code.length ≤ 512))) || decide (20 < a.slots.length)) = false := by
      simp only [Bool.or_eq_false_iff, Bool.and_eq_false_iff, decide_eq_false_iff_not]; omega
    show (!((decide (100 < a.addr.length) || (decide (60 < a.code.length) && decide (a.code.length ≤ 512))) || decide (20 < a.slots.length)) && _) = true
    rw [e]; simp only [Bool.not_false, Bool.true_and, List.all_eq_true]; intro x hx
    obtain ⟨j, hj⟩ := List.getElem?_of_mem hx
    obtain ⟨g1, g2⟩ := h' j x hj
    simp; omega
  refine Ja Tryz.func69 rfl rfl fun w => ?_; refine J8 ?_; refine Jo 2 rfl ?_; refine JS (cs := a.cells.toArray) rfl rfl rfl rfl fun r1 => ?_; refine Xj 8 [0] rfl rfl ?_; refine LR rfl (Qm rfl rfl) ?_; refine LS 2 [] rfl rfl ?_
  refine J4 8 rfl (fun gb => ?_) (fun gb => ?_) <;> (try simp only [ZZ] at gb) <;> first | (refine LR rfl (JD rfl rfl rfl) ?_) | (refine LK rfl ?_)
  all_goals refine LW 1 [0] rfl rfl ?_
  all_goals first | refine LR rfl (Qm rfl rfl) ?_ | refine LK rfl ?_
  all_goals refine LW 2 [] rfl rfl ?_
  all_goals first | refine LK rfl ?_ | (refine J4 13 rfl (fun gb => ?_) (fun gb => ?_) <;> (try simp only [ZZ] at gb) <;> first | (refine LR rfl (JD rfl rfl rfl) ?_) | (refine LK rfl ?_))
  all_goals refine LW 1 [0] rfl rfl ?_
  all_goals first | refine LR rfl (Qm rfl rfl) ?_ | refine LK rfl ?_
  all_goals refine LW 4 [] rfl rfl ?_
  all_goals first | refine LR rfl (JD rfl rfl rfl) ?_ | refine LK rfl ?_ | (refine J4 20 rfl (fun gb => ?_) (fun gb => ?_) <;> (try simp only [ZZ] at gb) <;> first | (refine LR rfl (JD rfl rfl rfl) ?_) | (refine LK rfl ?_))
  all_goals refine LW 1 [0] rfl rfl ?_
  all_goals first | refine LR rfl (J3 rfl hseg rfl) ?_ | refine LK rfl ?_
  all_goals (
   refine LW 2 [] rfl rfl (Jx 1 rfl (Y7 1 rfl ?_)); refine Jw rfl (fun g => ?_) (fun g => ?_)
   try simp only [ZZ] at g
   refine Kn 7 rfl ?_; refine pT rfl rfl rfl fun w1 hs1 => ?_; rw [h1 (by omega)]; exact ⟨rfl, hs1.keep⟩
   · try exact Bool.noConfusion g
     all_goals try simp only [ZZ] at g
     all_goals (
      refine JP 9 rfl ?_
      have h0 : ¬ (100 < (a.addr.length : Int) ∨ (60 < (a.code.length : Int) ∧ (a.code.length : Int) ≤ 512) ∨ 20 < (a.slots.length : Int)) := by
        simp_all
        all_goals first | done | omega | trace_state
      refine J1 (σ := Nat) (fun i => i ≤ a.slots.length ∧ ∀ (j : Nat) (x : BS × BS), j < i → a.slots[j]? = some x → x.1.length ≤ 100 ∧ x.2.length ≤ 100) (fun i => [(1, .pointer (some ⟨r1, 0, none⟩)), (3, .int .i64 (i : Int))]) (fun _ => [(r1, .cells a.cells.toArray 48 (0, 0))]) (fun _ _ _ => True) (fun i => a.slots.length - i) 0 ⟨Nat.zero_le _, fun _ _ h => absurd h (Nat.not_lt_zero _)⟩ (lK rfl) (List.Sublist.refl _) (fun _ _ h => h) ?_; rintro i ⟨hi1, hinv⟩; refine X6 6 [0] rfl rfl ?_; refine LR rfl (J3 rfl hseg rfl) ?_; refine JI 3 rfl ?_; refine cD (fun g => ?_) fun g => ?_
      · refine JP 5 rfl ?_
        obtain ⟨x, hx, hmx⟩ := QM (show i < a.slots.length by omega)
        have hxl := ha.slots x hmx
        refine X6 4 [0] rfl rfl ?_
        refine LR rfl (Ju (j := i) rfl hseg rfl rfl rfl (by first | rfl | omega) (by omega)) ?_; refine LR rfl (QG (off' := plO a.p + (i * 2 + 0)) rfl rfl (by show plO a.p + i * 2 + 0 = _; omega)) ?_; refine LR rfl (j5 Kl (k := 0) (v := J5 x.1) oR rfl hseg hx rfl rfl) ?_; refine LR rfl (Qm rfl rfl) ?_; refine LS 2 [] rfl rfl ?_
        refine J4 41 rfl (fun gb => ?_) (fun gb => ?_) <;> (try simp only [ZZ] at gb) <;> first | (refine LR rfl (JD rfl rfl rfl) ?_) | (refine LK rfl ?_)
        all_goals refine LW 2 [0] rfl rfl ?_
        all_goals first | (refine LR rfl (Ju (j := i) rfl hseg rfl rfl rfl (by first | rfl | omega) (by omega)) ?_) | refine LK rfl ?_
        all_goals first | (refine LR rfl (QG (off' := plO a.p + (i * 2 + 1)) rfl rfl (by show plO a.p + i * 2 + 1 = _; omega)) ?_) | refine LK rfl ?_
        all_goals first | refine LR rfl (j5 Kl (k := 1) (v := J5 x.2) oR rfl hseg hx rfl rfl) ?_ | refine LK rfl ?_
        all_goals first | refine LR rfl (Qm rfl rfl) ?_ | refine LK rfl ?_
        all_goals (
         refine LW 2 [] rfl rfl (Jx 1 rfl (Y7 1 rfl ?_)); refine Jw rfl (fun g => ?_) (fun g => ?_)
         try simp only [ZZ] at g
         refine Kn 11 rfl ?_; refine pT rfl rfl rfl fun w1 hs1 => ?_; rw [hres, Jv7 hx (by omega)]; exact ⟨rfl, hs1.keep⟩
         · try exact Bool.noConfusion g
           all_goals try simp only [ZZ] at g
           all_goals (
            refine Jo 6 rfl ?_; refine Je (by omega) (by omega) ?_; refine Jx 2 rfl ?_; refine Jz ?_
            exact Jv (i + 1) ⟨by omega, fun j y hj hy => by
              rcases Nat.lt_succ_iff_lt_or_eq.1 hj with h | rfl
              exact hinv j y h hy
              · obtain rfl := Option.some.inj (hx.symm.trans hy); simp_all; all_goals first | done | omega | trace_state⟩ (by omega) (lK rfl) (List.Sublist.refl _) (fun _ _ h => h)
            skip)
         skip)
      refine Kn 11 rfl ?_; refine pT rfl rfl rfl fun w1 hs1 => ?_; rw [h2 h0 (fun j y hy => hinv j y (by have := (List.getElem?_eq_some_iff.1 hy).1; omega) hy)]; exact ⟨rfl, hs1.keep⟩
      skip)
   skip)
theorem Jv9 {R : Jm} {s : StL} (hs : s.In R) : PureR Tryz.prog 29 [s.val].toArray (.bool (ZR s.er)) R := by
  have hl := hs.len
  have hseg := hs.seg
  obtain ⟨⟨rb, rn⟩, hres⟩ : ∃ b, b = Z0 0 0 s.er := ⟨_, rfl⟩
  have hfs : ZR s.er = (rb && (decide (s.accts.length ≤ 40) && decide (rn ≤ 40))) := by unfold ZR; rw [← hres, s.er_len]
  rw [hfs]; refine Ja Tryz.func29 rfl rfl fun w => ?_; refine J8 ?_; refine Jo 2 rfl ?_; refine JS (cs := s.cells.toArray) rfl rfl rfl rfl fun r1 => ?_; refine JI 15 rfl ?_; refine J1 (σ := Nat × Int) (fun q => q.1 ≤ s.accts.length ∧ 0 ≤ q.2 ∧ q.2 ≤ 20 * q.1 ∧ q.1 ≤ 41 ∧ Z0 q.1 q.2 (s.er.drop q.1) = (rb, rn)) (fun q => [(1, .pointer (some ⟨r1, 0, none⟩)), (3, .int .i64 q.2), (4, .int .i64 (q.1 : Int))]) (fun _ => [(r1, .cells s.cells.toArray 36 (0, 0))]) (fun _ _ _ => True) (fun q => s.accts.length - q.1) (0, 0) ⟨Nat.zero_le _, by omega, by omega, by omega, hres.symm⟩ (lK rfl) (List.Sublist.refl _) (fun _ _ h => h) ?_; rintro ⟨i, n⟩ ⟨hi1, hn0, hn1, hi41, hinv⟩; simp only at hi1 hn0 hn1 hi41 hinv; change HC _ _ [(1, _), (3, .int .i64 n), (4, .int .i64 (i : Int))] _ _ _ _; refine X6 6 [0] rfl rfl ?_; refine LR rfl (J3 rfl hseg rfl) ?_; refine LS 2 [] rfl rfl ?_
  refine J4 11 rfl (fun gb => ?_) (fun gb => ?_) <;> (try simp only [ZZ] at gb) <;> first | (refine Qx rfl ?_) | (refine LK rfl ?_)
  all_goals (
   refine LW 2 [] rfl rfl (Jx 1 rfl (Y7 1 rfl ?_)); refine Jw rfl (fun g => ?_) (fun g => ?_)
   · try exact Bool.noConfusion g
     all_goals try simp only [ZZ] at g
     all_goals (
      refine JP 5 rfl ?_
      obtain ⟨a, ha, hma⟩ := QM (show i < s.accts.length by omega)
      have ha2 := hs.accts a hma
      have hi40 : i ≤ 40 := by simp_all <;> omega
      refine X6 4 [0] rfl rfl ?_
      refine LR rfl (Ju (j := i) rfl hseg rfl rfl rfl (by first | rfl | omega) (by omega)) ?_; refine LR rfl (Kp AcL.len oR rfl hseg ha rfl rfl) ?_; refine Jg rfl rfl rfl (enters_of Tryz.func69 (by kernel_rfl) rfl) (Jl8 ha2) oR ?_; refine JI 10 rfl ?_; refine cD (fun g => ?_) fun g => ?_
      refine Kn 12 rfl ?_; refine pT rfl rfl rfl fun w1 hs1 => ?_
      (have hff : XQ a.er = false := by simp_all
       have h1 := Jrm (n := n) (Yw ha) hi40 hff
       rw [hinv] at h1
       rw [show rb = false from h1]; exact ⟨rfl, hs1.keep⟩)
      refine JP 2 rfl ?_
      have hft : XQ a.er = true := by simp_all
      have h20 := Jv8 hft
      have h20 : a.slots.length ≤ 20 := h20
      rw [Jrk (Yw ha) hi40 hft] at hinv; refine X6 5 [0] rfl rfl ?_
      refine LR rfl (Ju (j := i) rfl hseg rfl rfl rfl (by first | rfl | omega) (by omega)) ?_; refine LR rfl (QG (off' := plO s.p + (i * 8 + 7)) rfl rfl (by show plO s.p + i * 8 + 7 = _; omega)) ?_; refine LR rfl (j5 AcL.len (k := 7) (v := KP a.slots.length a.p) oR rfl hseg ha rfl rfl) ?_; refine LR rfl (J3 rfl ha2.seg rfl) ?_; refine Wo rfl (Je (by omega) (by omega) (JC 7 rfl ?_)); refine Je (by omega) (by omega) ?_; refine Jx 2 rfl ?_; refine Jz ?_; exact Jv (i + 1, n + (a.slots.length : Int)) ⟨by simp only; omega, by simp only; omega, by simp only; omega, by simp only; omega, hinv⟩ (by simp only; omega) (lK rfl) (List.Sublist.refl _) (fun _ _ h => h)
      skip)
   · try simp only [ZZ] at g
     refine X6 9 [0] rfl rfl ?_; refine LR rfl (J3 rfl hseg rfl) ?_; refine LS 2 [] rfl rfl ?_
     refine J4 38 rfl (fun gb => ?_) (fun gb => ?_) <;> (try simp only [ZZ] at gb) <;> first | (refine Qx rfl ?_) | (refine LK rfl ?_)
     all_goals (
      refine LW 3 [] rfl rfl (Jx 1 rfl (ZJ 2 rfl ?_)); refine pT rfl rfl rfl fun w1 hs1 => ?_
      first
        | (have hff : XQ a.er = false := by simp_all
           have h1 := Jrm (n := n) (Yw ha) hi40 hff
           rw [hinv] at h1
           rw [show rb = false from h1]; exact ⟨rfl, hs1.keep⟩)
        | (rw [Jrl (by rw [s.er_len]; omega)] at hinv
           obtain ⟨rfl, rfl⟩ := Prod.mk.inj hinv
           refine ⟨?_, hs1.keep⟩
           simp [JA]
           all_goals first | done | omega | trace_state)
        | trace_state
      skip)
   skip)
def rw1 : Rec := ⟨5, 6, ⟨7, 0, 0, 0⟩, w40, w40, 8, 0, 0⟩
theorem qu {n : Nat} (h : n < 1000) : VK n := by unfold VK; omega
theorem Jrn {a b : Int} (h : a = b) : Value.int .i64 a = .int .i64 b := congrArg _ h
theorem Y3 {a b : Bool} (h : a = b) : Value.bool a = .bool b := congrArg _ h
structure Stay (s t : StL) (a key : BS) : Prop where
  there : WA s a = true → WA t a = true
  oth : a ≠ A0 → a ≠ A1 → WA s a = WA t a ∧ (Kt s a).er = (Kt t a).er
  nonce : (Kt s a).nonce = (Kt t a).nonce
  bal : (Kt s a).bal = (Kt t a).bal
  slot : (a = A0 → ¬ wj key) → KM (Kt s a).er key = KM (Kt t a).er key
theorem Jzh {α : Type} {p : α → Bool} {l : List α} {j : Nat} {x : α} (h : l[j]? = some x) (hp : p x = true) : l.any p = true := List.any_eq_true.2 ⟨x, List.mem_of_getElem? h, hp⟩
theorem Jro {α : Type} {p : α → Bool} {l : List α} (h : ∀ (j : Nat) x, l[j]? = some x → p x = false) : l.any p = false := by
 rw [List.any_eq_false]; intro x hx
 obtain ⟨j, hj⟩ := List.getElem?_of_mem hx
 rw [h j x hj]; simp
structure RackI (a : AcL) (rb : Bool) (i : Nat) (rs sp : Bool) : Prop where
  le : i ≤ a.slots.length
  odd : ∀ (j : Nat) x, j < i → a.slots[j]? = some x → qX x = false
  rs : rs = true ↔ rb = true ∧ ∀ (j : Nat) x y, j + 1 < i → a.slots[j]? = some x → a.slots[j + 1]? = some y → Op.bytesLess x.1 y.1 = true
  sp : sp = true ↔ ∃ (j : Nat) (x : BS × BS), j < i ∧ a.slots[j]? = some x ∧ x.2 = Vc
theorem RackI.zero (a : AcL) (rb : Bool) : RackI a rb 0 rb false := ⟨Nat.zero_le _, fun _ _ h => absurd h (Nat.not_lt_zero _), by simp, by simp⟩
theorem RackI.next {a : AcL} {rb : Bool} {i : Nat} {rs sp rs' sp' : Bool} {x : BS × BS} (h : RackI a rb i rs sp) (hx : a.slots[i]? = some x) (ho : x.1.length = 32 ∧ x.2.length = 32)
  (hr : rs' = (rs && (decide (i = 0) || Op.bytesLess ((a.slots[i - 1]?.map Prod.fst).getD []) x.1))) (hp : sp' = (sp || decide (x.2 = Vc))) : RackI a rb (i + 1) rs' sp' := by
 have hlt := (List.getElem?_eq_some_iff.1 hx).1
 refine ⟨hlt, fun j y hj hy => ?_, ?_, ?_⟩
 ·rcases Nat.lt_succ_iff_lt_or_eq.1 hj with hj | rfl
  ·exact h.odd j y hj hy
  ·rw [hx] at hy; cases hy
   unfold qX; simp [ho.1, ho.2]
 ·rw [hr, Bool.and_eq_true, h.rs, Bool.or_eq_true, decide_eq_true_eq]
  constructor
  ·rintro ⟨⟨h1, h2⟩, h3⟩
   refine ⟨h1, fun j u v hj hu hv => ?_⟩
   rcases Nat.lt_succ_iff_lt_or_eq.1 hj with hj | hj
   ·exact h2 j u v hj hu hv
   ·subst hj
    rw [hx] at hv; cases hv; rw [show j + 1 - 1 = j by omega, hu] at h3; exact h3.resolve_left (by omega)
  ·rintro ⟨h1, h2⟩
   refine ⟨⟨h1, fun j u v hj hu hv => h2 j u v (by omega) hu hv⟩, ?_⟩
   rcases Nat.eq_zero_or_pos i with h0 | h0
   ·exact .inl h0
   ·obtain ⟨j, rfl⟩ : ∃ j, i = j + 1 := ⟨i - 1, by omega⟩
    obtain ⟨u, hu, -⟩ := QM (show j < a.slots.length by omega)
    rw [show j + 1 - 1 = j by omega, hu]; exact .inr (h2 j u x (by omega) hu hx)
 ·rw [hp, Bool.or_eq_true, h.sp, decide_eq_true_eq]
  constructor
  ·rintro (⟨j, u, hj, hu, e⟩ | e)
   ·exact ⟨j, u, by omega, hu, e⟩
   ·exact ⟨i, x, by omega, hx, e⟩
  ·rintro ⟨j, u, hj, hu, e⟩
   rcases Nat.lt_succ_iff_lt_or_eq.1 hj with hj | rfl
   ·exact .inl ⟨j, u, hj, hu, e⟩
   ·rw [hx] at hu; cases hu; exact .inr e
theorem RackI.done {a : AcL} {rb : Bool} {rs sp : Bool} (h : RackI a rb a.slots.length rs sp) : a.slots.any qX = false ∧ rs = (rb && QN Prod.fst a.slots) ∧ sp = a.slots.any XL := by
 have hlt : ∀ (j : Nat) (x : BS × BS), a.slots[j]? = some x → j < a.slots.length := fun j x hx => (List.getElem?_eq_some_iff.1 hx).1
 refine ⟨Jro fun j x hx => h.odd j x (hlt j x hx) hx, ?_, ?_⟩
 ·rw [Bool.eq_iff_iff, h.rs, Bool.and_eq_true]
  refine and_congr_right fun _ => ⟨fun hh => Zn fun j x y hx hy => hh j x y (hlt _ _ hy) hx hy, fun hh j x y _ hx hy => ?_⟩
  cases hb : Op.bytesLess x.1 y.1
  ·rw [j8 hx hy hb] at hh; cases hh
  ·rfl
 ·rw [Bool.eq_iff_iff, h.sp]
  constructor
  ·rintro ⟨j, x, _, hx, e⟩
   exact Jzh hx (by unfold XL; rw [e]; simp)
  ·intro hh
   obtain ⟨x, hx, e⟩ := List.any_eq_true.1 hh
   obtain ⟨j, hj⟩ := List.getElem?_of_mem hx
   exact ⟨j, x, hlt j x hj, hj, by simpa [XL] using e⟩
theorem chk_one (e : AcE) : KR [e] = Wj e := by
 unfold KR goS
 rw [if_neg (by show ¬ 1 > 32; decide), zm]
 split
 ·rfl
 ·rename_i h
  rw [goS]; exact (Decidable.not_not.1 h).symm
structure OutI {α : Type} (f : α → List Value) (sz : Nat) (acc : List α) (n : Nat) (xs : List Value) (row : QV) : Prop where
  num : n = acc.length
  cells : xs = acc.flatMap f
  ok : rowOk sz n xs row
theorem OutI.nil {α : Type} {f : α → List Value} {sz : Nat} : OutI f sz [] 0 [] none := ⟨rfl, rfl, rfl, rfl⟩
theorem one_seg {a : AcL} {r : Nat} : Seg [(r, .cells a.cells.toArray 48 (0, 0))] [a].length ([a].flatMap AcL.cells) (some (⟨r, 0, none⟩, 1)) := by
 have h := KJ (row := some (r, 1, [])) (sz := 8) (n := 1) (e := 48) (cs := a.cells) ⟨rfl, rfl⟩ (by decide)
 simpa [JR, Vd] using h
theorem Jrp {R : Jm} {a : AcL} (ha : a.In R) (r : Nat) : StL.In ((r, .cells a.cells.toArray 48 (0, 0)) :: R) ⟨[a], some (⟨r, 0, none⟩, 1)⟩ :=
 ⟨by show 1 ≤ _; decide, one_seg.mono fun q hq => by rw [List.mem_singleton.1 hq]; exact List.mem_cons_self, fun x hx => by rw [List.mem_singleton.1 hx]; exact ha.mono fun q hq => List.mem_cons_of_mem _ hq⟩
open Go.Proofs (Enters enters_of)
theorem jQ {k n : Int} {p : Pl} {x : Ty} {l : List Vl} (hk : (k = 3 ∧ (l.length : Int) = n) ∨ (k = 4 ∧ (l.length : Int) ≤ n)) (h : ∀ v ∈ l, KO v x = 0) : KO (KY l 0) (.mk k n p [x]) = 0 := by
 have hL : ∀ (l : List Vl) (i : Nat), (∀ v ∈ l, KO v x = 0) → QE l k 0 [x] i = 0 := by
  intro l
  induction l with
  | nil => intro i _; rw [QE]
  | cons v l ih =>
   intro i h
   have e : JT k 0 [x] i = x := by unfold JT X9; rcases hk with ⟨rfl, _⟩ | ⟨rfl, _⟩ <;> rfl
   rw [QE, e, if_pos (h v (by simp)), ih _ (fun w hw => h w (by simp [hw]))]
 unfold KY
 rw [qn ?_ ?_, hL l 0 h]
 ·rcases hk with ⟨rfl, h1⟩ | ⟨rfl, h1⟩ <;> simp <;> omega
 ·rw [Vv k n _ 0 0 0 0 [] none l none 0 _ rfl]
  rcases hk with ⟨rfl, h1⟩ | ⟨rfl, h1⟩ <;> simp [Vf, h1]
theorem yh {a b c d : Nat} {n : Int} {p : Pl} (h : ((WC [a, b, c, d]).length : Int) ≤ n) : KO (.mk a b c d [] none [] none 0) (.mk 1 n p []) = 0 := by
 rw [qn (by simp) (by rw [Vv 1 n _ a b c d [] none [] none 0 _ rfl]; simp [Vf, h]), QE]
theorem Jzi : ∀ i : Fin 256, (WC [i.val, 0, 0, 0]).length ≤ 1 := by decide +kernel
theorem Jrq (b : UInt8) : KO (ZV b) byT = 0 := yh (by have := Jzi ⟨b.toNat, XS b⟩; simp only at this; omega)
theorem Ja9 {s : BS} {n : Int} (h : (s.length : Int) = n) : KO (yN s) (X0 3 n) = 0 := jQ (.inl ⟨rfl, by rw [List.length_map]; exact h⟩) fun v hv => by obtain ⟨b, _, rfl⟩ := List.mem_map.1 hv; exact Jrq b
theorem Jwa {s : BS} {n : Int} (h : (s.length : Int) ≤ n) : KO (yN s) (X0 4 n) = 0 := jQ (.inr ⟨rfl, by rw [List.length_map]; exact h⟩) fun v hv => by obtain ⟨b, _, rfl⟩ := List.mem_map.1 hv; exact Jrq b
theorem Jwb {x : BS × BS} (h1 : x.1.length = 32) (h2 : x.2.length = 32) : KO (wU x) Jau = 0 := by
 unfold wU Jau KY
 rw [qn (by simp) (by rw [Vv 7 0 _ 0 0 0 0 [] none _ none 0 _ rfl]; simp [Vf]), QE, show JT 7 0 [X0 3 32, X0 3 32] 0 = X0 3 32 from rfl, if_pos (Ja9 (by omega)), QE, show JT 7 0 [X0 3 32, X0 3 32] (0 + 1) = X0 3 32 from rfl, if_pos (Ja9 (by omega)), QE]
theorem Jwc {n : Nat} (h : VK n) : (WC [n, 0, 0, 0]).length ≤ 8 := by
 have h1 := Jln (l := [n, 0, 0, 0]) (Jys h)
 rw [Jpr] at h1; exact of_decide_eq_true h1.symm
theorem Jzj {a : AcE} (h : Wj a = 0) (hn : VK a.nonce) : KO (acV a) acT = 0 := by
 obtain ⟨h1, h2, _, h4, h5⟩ := Q1 h
 obtain ⟨I, hI⟩ : ∃ I, I = [X0 3 20, .mk 1 8 none [], .mk 1 32 none [], X0 4 512, .mk 4 16 none [Jau]] := ⟨_, rfl⟩
 have e0 : JT 7 0 I 0 = X0 3 20 := by rw [hI]; rfl
 have e1 : JT 7 0 I (0 + 1) = .mk 1 8 none [] := by rw [hI]; rfl
 have e2 : JT 7 0 I (0 + 1 + 1) = .mk 1 32 none [] := by rw [hI]; rfl
 have e3 : JT 7 0 I (0 + 1 + 1 + 1) = X0 4 512 := by rw [hI]; rfl
 have e4 : JT 7 0 I (0 + 1 + 1 + 1 + 1) = .mk 4 16 none [Jau] := by rw [hI]; rfl
 have hl : I.length = 5 := by rw [hI]; rfl
 have hsl : KO (Vl.mk 0 0 0 0 [] none (a.slots.map wU) none 0) (.mk 4 16 none [Jau]) = 0 := jQ (.inr ⟨rfl, by rw [List.length_map]; omega⟩) fun v hv => by
  obtain ⟨x, hx, rfl⟩ := List.mem_map.1 hv
  exact Jwb (h2 x hx).1 (h2 x hx).2.1
 unfold acV acT KY
 rw [← hI, qn (by simp) (by rw [hl, Vv 7 0 _ 0 0 0 0 [] none _ none 0 _ rfl]; simp [Vf]), QE, e0, if_pos (Ja9 (by omega)), QE, e1, if_pos (yh (by have := Jwc hn; omega)), QE, e2, if_pos (yh (by have := Jge [a.bal.a, a.bal.b, a.bal.c, a.bal.d]; omega)),
  QE, e3, if_pos (Jwa (by omega)), QE, e4, if_pos hsl, QE]
theorem Jba {l : List AcE} (h : KR l = 0) (hn : ∀ a ∈ l, VK a.nonce) : V5 qp (Za l) = 0 := by
 obtain ⟨h1, h2, _⟩ := W8.1 h
 unfold V5
 rw [if_pos Jjk]
 exact jQ (.inr ⟨rfl, by rw [List.length_map]; omega⟩) fun v hv => by
  obtain ⟨a, ha, rfl⟩ := List.mem_map.1 hv
  exact Jzj (h2 a ha) (hn a ha)
theorem Jjy {s : StL} (h : KR s.er = 0) : s.accts.length ≤ 100000 ∧ ∀ a ∈ s.accts, Ac1 a := by
 obtain ⟨h1, h2, _⟩ := W8.1 h
 rw [s.er_len] at h1; refine ⟨by omega, fun a ha => ?_⟩
 obtain ⟨g1, g2, _, g4, g5⟩ := Q1 (h2 a.er (List.mem_map.2 ⟨a, ha, rfl⟩))
 change a.addr.length = 20 at g1; change a.code.length ≤ 512 at g4; change a.slots.length ≤ 16 at g5; exact ⟨by omega, by omega, by omega, fun x hx => by obtain ⟨e1, e2, _⟩ := g2 x hx; omega⟩
theorem Jzk {R : Jm} {s : StL} (hs : s.In R) (h : KR s.er = 0) : V5 qp (Za s.er) = 0 := Jba h fun a ha => by
 obtain ⟨b, hb, rfl⟩ := List.mem_map.1 ha
 exact (hs.accts b hb).nonce
theorem Jer : ∀ l : List Vl, (∀ x ∈ l, Nonempty (VR x)) → ∃ (ys : List Vl) (L : Jm), ys.map ZD = l ∧ ∀ y ∈ ys, y.In L
 | [], _ => ⟨[], [], rfl, fun y hy => nomatch hy⟩
 | x :: l, h => by
  obtain ⟨ys, L, h1, h2⟩ := Jer l fun y hy => h y (List.mem_cons_of_mem _ hy)
  obtain ⟨v⟩ := h x List.mem_cons_self
  refine ⟨v.x :: ys, v.L ++ L, by rw [List.map_cons, v.er, h1], fun y hy => ?_⟩
  rcases List.mem_cons.1 hy with rfl | hy
  ·exact v.ok.mono fun q hq => List.mem_append_left _ hq
  ·exact (h2 y hy).mono fun q hq => List.mem_append_right _ hq
theorem Zv {l : List Vl} (h : ∀ x ∈ l, Nonempty (VR x)) (hl : l.length ≤ 100000) : Nonempty (VR (KY l 0)) := by
 obtain ⟨ys, L, h1, h2⟩ := Jer l h
 have hy : ys.length = l.length := by rw [← h1, List.length_map]
 exact ⟨⟨.mk 0 0 0 0 [] none ys (some (⟨0, 0, none⟩, ys.length)) 0, (0, .cells (Q7 ys).toArray 0 (0, 0)) :: L, .mk u0 u0 u0 u0 (by decide) rfl (by omega) ⟨Nat.le_refl _, fun _ => ⟨rfl, _, 0, (0, 0), List.mem_cons_self, by rw [List.drop_zero, List.toList_toArray, List.take_length]⟩⟩ i0 fun x hx => (h2 x hx).mono fun q hq => List.mem_cons_of_mem _ hq, by rw [WF, WT, h1]; rfl⟩⟩
theorem Jjz {a b c d : Nat} (ha : VK a) (hb : VK b) (hc : VK c) (hd : VK d) : Nonempty (VR (.mk a b c d [] none [] none 0)) :=
 ⟨⟨.mk a b c d [] none [] none 0, [], .mk ha hb hc hd (by decide) rfl (by decide) rfl i0 (fun x hx => nomatch hx), by rw [WF, vz]⟩⟩
theorem Jbb {s : BS} (hl : s.length ≤ 100000) : Nonempty (VR (yN s)) := ⟨Jqp hl⟩
theorem Jzl {a : AcL} (h : Ac1 a) (hn : VK a.nonce) (hb : a.bal.ok) : Nonempty (VR (acV a.er)) := by
 obtain ⟨h1, h2, h3, h4⟩ := h
 refine Zv (fun x hx => ?_) (by show 5 ≤ 100000; decide); simp only [List.mem_cons, List.not_mem_nil, or_false] at hx
 rcases hx with rfl | rfl | rfl | rfl | rfl
 ·exact Jbb h1
 ·exact Jjz hn u0 u0 u0
 ·exact Jjz hb.a hb.b hb.c hb.d
 ·exact Jbb h2
 ·refine Zv (fun x hx => ?_) (by rw [List.length_map]; exact h3)
  obtain ⟨⟨k, v⟩, hy, rfl⟩ := List.mem_map.1 hx
  refine Zv (fun x hx => ?_) (by show 2 ≤ 100000; decide); simp only [List.mem_cons, List.not_mem_nil, or_false] at hx
  rcases hx with rfl | rfl
  ·exact Jbb (h4 _ hy).1
  ·exact Jbb (h4 _ hy).2
theorem Jzm {R : Jm} {s : StL} (hs : s.In R) (h : KR s.er = 0) : Nonempty (VR (Za s.er)) := by
 obtain ⟨hn, hb⟩ := Jjy h
 refine Zv (fun x hx => ?_) (by rw [List.length_map, s.er_len]; exact hn)
 obtain ⟨a, ha, rfl⟩ := List.mem_map.1 hx
 obtain ⟨b, hb2, rfl⟩ := List.mem_map.1 ha
 exact Jzl (hb b hb2) (hs.accts b hb2).nonce (hs.accts b hb2).bal
def J1n : TR qp := ⟨Jqd 0 0 0 0 0 0 0 0, [(0, Jly 0), (0, .cells #[.int .i64 3, .int .i64 32, .slice (some ⟨0, 0, none⟩) 1 1, .int .i64 3, .int .i64 32, .slice (some ⟨0, 0, none⟩) 1 1] 0 (0, 0)), (0, .cells #[.int .i64 7, .int .i64 0, .slice (some ⟨0, 0, none⟩) 2 2] 0 (0, 0)),
 (0, .cells #[.int .i64 3, .int .i64 20, .slice (some ⟨0, 0, none⟩) 1 1, .int .i64 1, .int .i64 8, .slice none 0 0, .int .i64 1, .int .i64 32, .slice none 0 0, .int .i64 4, .int .i64 512, .slice (some ⟨0, 0, none⟩) 1 1, .int .i64 4, .int .i64 16, .slice (some ⟨0, 0, none⟩) 1 1] 0 (0, 0)),
 (0, .cells #[.int .i64 7, .int .i64 0, .slice (some ⟨0, 0, none⟩) 5 5] 0 (0, 0))], Jja (e := 0) (by simp) (by simp) (by simp) (by simp) (by simp) (by simp) (by simp) (by simp), Jjb ..⟩
theorem Jrr (t : Ty) (v : Vl) : Yh t (ZD v) = Yh t v := by unfold Yh V5; rw [Jy4, Jvg]
theorem Jrs {T : Ty} {V : Vl} (t : TR T) (v : VR V) : Yh t.x v.x = Yh T V := by obtain ⟨x, L, ok, rfl⟩ := t; obtain ⟨y, M, ok2, rfl⟩ := v; rw [Jl3, Jrr]
theorem Jes {l : List AcE} (h : KR l = 0) (hf : V5 qp (Za l) = 0) : Q3 l = (KS (Za l) qp, 0) := by
 unfold Q3 Yh
 rw [if_neg (by omega), if_neg (by omega)]
theorem yi {R : Jm} {s : StL} (hs : s.In R) (hw : KR s.er = 0 → Y6 (Za s.er) ≤ 20000) : PureR Tryz.prog 20 [s.val].toArray (Zy (Q3 s.er)) R := by
 have hC := Yi hs
 have hac := Jjy (s := s)
 have hlay := Jzm hs
 have hfit := Jzk hs
 have hb0 : KR s.er ≠ 0 → Q3 s.er = ([], KR s.er) := fun h => by unfold Q3; rw [if_pos h]
 have hb1 : KR s.er = 0 → Q3 s.er = Yh qp (Za s.er) := fun h => by unfold Q3; rw [if_neg (by omega)]
 obtain ⟨accts, p⟩ := s
 generalize hz0 : KR (StL.er ⟨accts, p⟩) = z at *
 refine Ja Tryz.func20 rfl rfl fun w => ?_; refine J8 ?_; refine Jo 2 rfl ?_; refine LN rfl fun r1 => ?_; refine JC 7 rfl ?_; refine LR rfl (Jp (vs := [_]) rfl (kn 0 rfl) rfl rfl rfl rfl) ?_; refine Jg rfl rfl rfl Jo0 hC oR ?_; refine JI 9 rfl ?_; refine cD (fun g => ?_) fun g => ?_
 refine Kn 9 rfl ?_; refine Jf rfl rfl (.cons (Jj rfl) (.cons (Jj rfl) .nil)) (fun w1 hs1 => ?_); refine ⟨?_, hs1.keep⟩; rw [hb0 (by assumption)]; rfl
 ·refine JP 3 rfl ?_
  have hz : z = 0 := by assumption
  obtain ⟨hn, hb⟩ := hac hz
  obtain ⟨v0⟩ := hlay hz
  have hww := hw hz
  refine JL [(r1, .cells #[KP accts.length p] 36 (0, 0))] [(0, .grow (Qf J1n (fun y => y.x.val) (fun y => y.L))), (1, .pure), (2, .pure), (3, .grow (Qf v0 (fun y => y.x.val) (fun y => y.L))), (5, .pure), (6, .pure)] 7 [1, 2, 0, 3, 4, 5, 6] (by kernel_rfl) (by kernel_rfl) (by first | exact (fun _ h => absurd h List.not_mem_nil) | simp [SubS] | (intro p hp; simp [hp])) ?_
  refine Jn (k := 1) rfl rfl rfl rfl rfl (fun _ hS => (JD rfl rfl rfl)) ?_; refine Jn (k := 2) rfl rfl rfl rfl rfl (fun _ hS => (Jh rfl (.inl (hS _ (Jr (n := 0) rfl))) rfl rfl)) ?_; refine KT (k := 0) rfl rfl rfl rfl rfl (enters_of Tryz.func46 (by kernel_rfl) rfl) Jvh oN fun t => ?_; refine KT (k := 3) rfl rfl rfl rfl rfl (enters_of Tryz.func47 (by kernel_rfl) rfl) (Jvo hs hn hb) oR fun v => ?_
  refine KH (k := 4) (Rl := v.L ++ t.L) rfl rfl rfl rfl rfl (enters_of Tryz.func45 (by kernel_rfl) rfl) (Jvj (t.ok.mono fun q hq => List.mem_append_right _ hq) (v.ok.mono fun q hq => List.mem_append_left _ hq) (by rw [← J1b v.x, v.er]; exact hww)) (fun q hq => .inl (by rcases List.mem_append.1 hq with h | h <;> simp [h])) ?_; refine Wu (congrArg Zy (Jrs t v)) ?_; refine Jn (k := 5) rfl rfl rfl rfl rfl (fun _ hS => (JM rfl rfl)) ?_; refine Jn (k := 6) rfl rfl rfl rfl rfl (fun _ hS => (JM rfl rfl)) ?_; refine Ko ?_; refine Jx 5 rfl ?_; refine Jf rfl rfl (.cons (Jj rfl) (.cons (Jj rfl) .nil)) (fun w1 hs1 => ?_); refine ⟨?_, hs1.keep⟩; rw [hb1 hz]; rfl
structure Num8 (s : BS) (x : Nat) : Prop where
  len : s.length = 8
  u : VK x
  at_ : ∀ i, i < 8 → (s.getD i 0).toNat = x / 256 ^ (7 - i) % 256
theorem zO {c : Cx} {l : Kv} {E : Jm} {X : XP} {d : List Deferred} {ops : Array Oper} {rest : List Nat} {k : Nat} {tb : ZT} {S : Jm} {T : Jm → Act → Prop} {t ty : TypeId} {ps : String} {af : Array Edge} {gd : Option (Nat × Bool)} {x y : Operand} {q r off n : Nat} {cs cs' : Array Value} {vs : Array Value} {e : TypeId} {E' : Jm} (hko : WW ops.toList k = some ⟨none, .store t x y, ty, ps, af, gd⟩) (hg : Kg l ops ⟨none, .store t x y, ty, ps, af, gd⟩ = some true) (hA : tb k = .turn)
  (hx : JZ l x = some (.pointer (some ⟨r, off, none⟩))) (hk : E[q]? = some (r, .cells cs e (0, 0))) (hy : JZ l y = some (.agg vs)) (ht : KN c.P t = some n) (hn : vs.size = n) (ho : vs.toList.all Q6 = true) (hc : off + n ≤ cs.size)
  (hcs : (cs.toList.take off ++ vs.toList ++ cs.toList.drop (off + n)).toArray = cs') (hL : E.set q (r, .cells cs' e (0, 0)) = E') (hS : SubS S E')
  (h : HB c d l E' X S ops tb rest T) : HB c d l E X S ops tb (k :: rest) T :=
 jx hko hg rfl hA (fun a w hf hs => ⟨w.setRow r cs', by
  simp only [execOp]; rw [hf.eval hx, hf.eval hy]
  have h1 := run_storeCells_at (P := c.P) r off e vs.toList 0 cs w (hs.get hk) (by simp [hn]; omega) (fun u hu => by rw [WJ]; exact List.all_eq_true.1 ho u hu)
  simp only [Nat.add_zero, Array.length_toList, hn] at h1; rw [hcs] at h1
  simp [Instr.storeAt, Instr.sureAddr, Sem.run_bind, Result.andThen, storeVar, QS ht, Value.cells, hn, h1], by
  subst hL
  exact hs.set hk (Keep.setRow r cs') (setRow_heap _ _ _ _ _ _ (hs.get hk))⟩) hS h
theorem zP (f g : Int) : Pure Tryz.prog 62 [.int .i64 f, .int .i64 g].toArray (.bool (decide (SL.Way f g))) := by
 have e : decide (SL.Way f g) = (decide (f ≥ 0) && (decide (f ≤ g) && decide (g ≤ 5))) := by
  rw [Bool.eq_iff_iff]; simp only [Bool.and_eq_true, decide_eq_true_eq, ge_iff_le]; exact Iff.rfl
 rw [e]; refine Jk Tryz.func62 rfl rfl fun w => ?_; refine J8 ?_; refine Jo 10 rfl ?_
 refine J4 7 rfl (fun gb => ?_) (fun gb => ?_) <;> (try simp only [ZZ] at gb) <;> first | (refine Qx rfl ?_) | (refine LK rfl ?_)
 all_goals refine LW 4 [] rfl rfl ?_
 all_goals first | refine LK rfl ?_ | (refine J4 12 rfl (fun gb => ?_) (fun gb => ?_) <;> (try simp only [ZZ] at gb) <;> first | (refine Qx rfl ?_) | (refine LK rfl ?_))
 all_goals (
  refine LW 3 [] rfl rfl (Jx 1 rfl (ZJ 2 rfl ?_)); refine pT rfl rfl rfl fun w1 hs1 => ?_; refine ⟨?_, hs1.keep⟩
  simp_all [JA]
  all_goals first | done | omega | trace_state
  skip)
def chMg : Array MapEntry := #[⟨.int .i64 3, .func (.func 191) #[] #[], 0⟩, ⟨.int .i64 5, .func (.func 192) #[] #[], 1⟩]
theorem Jbc : ∀ e ∈ chMg.toList, isI e.key := by
 intro e he
 have he : e ∈ [(⟨.int .i64 3, .func (.func 191) #[] #[], 0⟩ : MapEntry), ⟨.int .i64 5, .func (.func 192) #[] #[], 1⟩] := he
 rcases List.mem_cons.1 he with rfl | he
 ·exact ⟨3, rfl⟩
 ·rw [List.mem_singleton.1 he]; exact ⟨5, rfl⟩
theorem qv : PureE (α := Nat) Tryz.prog 119 [].toArray (fun m => .map (some m)) (fun m => [(m, .map chMg 2)]) := by
 refine JV Tryz.func119 rfl rfl fun w => ?_; refine J8 ?_; refine Jo 7 rfl ?_; refine ZK rfl rfl fun rm => ?_; refine KF (q := 0) (key := .int .i64 3) (val := .func (.func 191) #[] #[]) (Wa (t := 3) (by kernel_rfl)) rfl rfl rfl rfl rfl rfl ⟨_, rfl⟩ (by intro e he; simp at he) rfl rfl ?_; refine KF (q := 0) (key := .int .i64 5) (val := .func (.func 192) #[] #[]) (Wa (t := 3) (by kernel_rfl)) rfl rfl rfl rfl rfl rfl ⟨_, rfl⟩ (by intro e he; simp at he; rw [he]; exact ⟨_, rfl⟩) rfl rfl ?_; refine Jx 5 rfl ?_; refine pT rfl rfl rfl fun w1 hs1 => ?_; exact ⟨rm, rfl, hs1⟩
theorem J1o (ρ : Nat) (r : Rec) : PureT (α := Unit) Tryz.prog 191 [Qd ρ 0].toArray (fun _ => .tuple #[]) [(ρ, .cells r.cells.toArray 29 (0, 0))] (fun _ => [(ρ, .cells (Rec.cells { r with overhead := w40, extra := 0, blob := wN1 1 }).toArray 29 (0, 0))]) [] := by
 refine Jt Tryz.func191 rfl rfl fun w => ?_; refine J8 ?_; refine Jo 4 rfl ?_; refine LR rfl (Js (r := [_, _, _, _]) rfl rfl) ?_; refine Jl rfl rfl rfl jD (Vo 1) ?_; refine JC 2 rfl ?_; refine Qk (k := 0) (n := 4) (vs := (w40.l.map uV).toArray) (cs' := (Rec.cells { r with overhead := w40 }).toArray) rfl rfl rfl rfl rfl rfl rfl (by exact Nat.le_of_ble_eq_true rfl) rfl rfl ?_; refine JC 2 rfl ?_; refine KC (k := 0) (cs' := (Rec.cells { r with overhead := w40, extra := 0 }).toArray) rfl rfl rfl rfl rfl rfl rfl rfl rfl rfl ?_; refine JC 2 rfl ?_; refine Qk (k := 0) (n := 4) (vs := ((wN1 1).l.map uV).toArray) (cs' := (Rec.cells { r with overhead := w40, extra := 0, blob := wN1 1 }).toArray) rfl rfl rfl rfl rfl rfl rfl (by exact Nat.le_of_ble_eq_true rfl) rfl rfl ?_; refine Jx 1 rfl ?_; refine Kh rfl rfl .nil (fun w1 hs1 => ?_); exact ⟨(), rfl, hs1⟩
theorem J1p (ρ : Nat) (r : Rec) : PureT (α := Unit) Tryz.prog 192 [Qd ρ 0].toArray (fun _ => .tuple #[]) [(ρ, .cells r.cells.toArray 29 (0, 0))] (fun _ => [(ρ, .cells (Rec.cells { r with operator := 1 }).toArray 29 (0, 0))]) [] := by
 refine Jt Tryz.func192 rfl rfl fun w => ?_; refine J8 ?_; refine Jo 4 rfl ?_; refine KC (k := 0) (cs' := (Rec.cells { r with operator := 1 }).toArray) rfl rfl rfl rfl rfl rfl rfl rfl rfl rfl ?_; refine Jx 1 rfl ?_; refine Kh rfl rfl .nil (fun w1 hs1 => ?_); exact ⟨(), rfl, hs1⟩
theorem Jwd (r : Rec) : Pure Tryz.prog 66 [.int .i64 2, r.val].toArray (QT 2 r).val := by
 refine Jk Tryz.func66 rfl rfl fun w => ?_; refine J8 ?_; refine Jo 2 rfl ?_; refine JS (cs := r.cells.toArray) rfl rfl rfl rfl fun rb => ?_; refine LN rfl fun r1 => ?_; refine JC 5 rfl ?_; refine JJ rfl rfl rfl Jo4 qv fun m => ?_; change HL _ _ _ ((m, .map chMg 2) :: _) _ _ _ _; refine LS 2 [] rfl rfl ?_; refine Je (by omega) (by omega) ?_; refine LR rfl (Vz (v := .func (.func 191) #[] #[]) (Wa (t := 3) (by kernel_rfl)) rfl rfl (kn 0 rfl) rfl rfl ⟨_, rfl⟩ Jbc (by rfl)) ?_; refine JI 9 rfl ?_; refine Jw rfl (fun g => ?_) (fun g => ?_)
 try simp only [ZZ] at g
 refine Jo 2 rfl ?_; refine Qh (T := [(rb, .cells r.cells.toArray 29 (0, 0))]) (L0 := [(m, _), (r1, _)]) (Rl := []) (List.perm_append_comm (l₁ := [_, _])) rfl rfl rfl (enters_of Tryz.func191 (by kernel_rfl) rfl) (J1o rb r) oN fun u => ?_; refine JY (L' := [(m, _), (r1, _), (rb, _)]) (List.perm_append_comm (l₁ := [_])) ?_; refine JC 4 rfl ?_; refine LR rfl (Jb (xs := (QT 2 r).cells) (n := 17) rfl (kn 2 rfl) rfl rfl rfl) ?_; refine Jc (k := 1) (n := 17) (ys := (QT 2 r).cells) rfl rfl rfl rfl rfl rfl rfl rfl rfl ?_; refine Jx 3 rfl ?_; refine Jf rfl rfl (.cons (Jq (vs := [_, _, _, _, _, _, _, _, _, _, _, _, _, _, _, _, _]) rfl (kn 1 rfl) rfl rfl) .nil) (fun w1 hs1 => ?_); exact ⟨rfl, hs1.keep⟩
 ·try exact Bool.noConfusion g
theorem Jwe (r : Rec) : Pure Tryz.prog 66 [.int .i64 4, r.val].toArray (QT 4 r).val := by
 refine Jk Tryz.func66 rfl rfl fun w => ?_; refine J8 ?_; refine Jo 2 rfl ?_; refine JS (cs := r.cells.toArray) rfl rfl rfl rfl fun rb => ?_; refine LN rfl fun r1 => ?_; refine JC 5 rfl ?_; refine JJ rfl rfl rfl Jo4 qv fun m => ?_; change HL _ _ _ ((m, .map chMg 2) :: _) _ _ _ _; refine LS 2 [] rfl rfl ?_; refine Je (by omega) (by omega) ?_; refine LR rfl (Vz (v := .func (.func 192) #[] #[]) (Wa (t := 3) (by kernel_rfl)) rfl rfl (kn 0 rfl) rfl rfl ⟨_, rfl⟩ Jbc (by rfl)) ?_; refine JI 9 rfl ?_; refine Jw rfl (fun g => ?_) (fun g => ?_)
 try simp only [ZZ] at g
 refine Jo 2 rfl ?_; refine Qh (T := [(rb, .cells r.cells.toArray 29 (0, 0))]) (L0 := [(m, _), (r1, _)]) (Rl := []) (List.perm_append_comm (l₁ := [_, _])) rfl rfl rfl (enters_of Tryz.func192 (by kernel_rfl) rfl) (J1p rb r) oN fun u => ?_; refine JY (L' := [(m, _), (r1, _), (rb, _)]) (List.perm_append_comm (l₁ := [_])) ?_; refine JC 4 rfl ?_; refine LR rfl (Jb (xs := (QT 4 r).cells) (n := 17) rfl (kn 2 rfl) rfl rfl rfl) ?_; refine Jc (k := 1) (n := 17) (ys := (QT 4 r).cells) rfl rfl rfl rfl rfl rfl rfl rfl rfl ?_; refine Jx 3 rfl ?_; refine Jf rfl rfl (.cons (Jq (vs := [_, _, _, _, _, _, _, _, _, _, _, _, _, _, _, _, _]) rfl (kn 1 rfl) rfl rfl) .nil) (fun w1 hs1 => ?_); exact ⟨rfl, hs1.keep⟩
 ·try exact Bool.noConfusion g
theorem Jwf {f : Int} (hf : 0 ≤ f ∧ f ≤ 4) (h2 : f ≠ 2) (h4 : f ≠ 4) (r : Rec) : Pure Tryz.prog 66 [.int .i64 f, r.val].toArray (QT f r).val := by
 have e : QT f r = r := by unfold QT; rw [if_neg h2, if_neg h4]
 rw [e]
 have hl : (Kw XV (.int .i64 (f + 1)) (chMg.toList.map QU)).getD .nilFunc = .nilFunc := by
  rcases (show f = 0 ∨ f = 1 ∨ f = 3 by omega) with rfl | rfl | rfl <;> rfl
 refine Jk Tryz.func66 rfl rfl fun w => ?_; refine J8 ?_; refine Jo 2 rfl ?_; refine JS (cs := r.cells.toArray) rfl rfl rfl rfl fun rb => ?_; refine LN rfl fun r1 => ?_; refine JC 5 rfl ?_; refine JJ rfl rfl rfl Jo4 qv fun m => ?_; change HL _ _ _ ((m, .map chMg 2) :: _) _ _ _ _; refine LS 2 [] rfl rfl ?_; refine Je (by omega) (by omega) ?_; refine LR rfl (Vz (v := .nilFunc) (Wa (t := 3) (by kernel_rfl)) rfl rfl (kn 0 rfl) rfl rfl ⟨_, rfl⟩ Jbc (hl)) ?_; refine JI 9 rfl ?_; refine Jw rfl (fun g => ?_) (fun g => ?_)
 try exact Bool.noConfusion g
 ·try simp only [ZZ] at g
  refine Jo 4 rfl ?_; refine LR rfl (Jb (xs := r.cells) (n := 17) rfl (kn 2 rfl) rfl rfl rfl) ?_; refine Jc (k := 1) (n := 17) (ys := (r).cells) rfl rfl rfl rfl rfl rfl rfl rfl rfl ?_; refine Jx 3 rfl ?_; refine Jf rfl rfl (.cons (Jq (vs := [_, _, _, _, _, _, _, _, _, _, _, _, _, _, _, _, _]) rfl (kn 1 rfl) rfl rfl) .nil) (fun w1 hs1 => ?_); exact ⟨rfl, hs1.keep⟩
theorem Jrt {f : Int} (hf : 0 ≤ f ∧ f ≤ 4) (r : Rec) : Pure Tryz.prog 66 [.int .i64 f, r.val].toArray (QT f r).val := by
 by_cases h2 : f = 2
 ·subst h2; exact Jwd r
 ·by_cases h4 : f = 4
  ·subst h4; exact Jwe r
  ·exact Jwf hf h2 h4 r
theorem Jru {f : Int} (hf : 0 ≤ f ∧ f ≤ 4) (r : Rec) : Pure Tryz.prog 65 [.int .i64 f, r.val].toArray (.tuple #[(QT f r).val, .int .i64 0]) := by
 refine Jk Tryz.func65 rfl rfl fun w => ?_; refine J8 ?_; refine Jo 2 rfl ?_; refine JS (cs := r.cells.toArray) rfl rfl rfl rfl fun rb => ?_; refine LN rfl fun r1 => ?_; refine JC 6 rfl ?_; refine LR rfl (Jb (xs := r.cells) (n := 17) rfl (kn 1 rfl) rfl rfl rfl) ?_; refine Jl rfl rfl rfl (enters_of Tryz.func66 (by kernel_rfl) rfl) (Jrt hf r) ?_; refine Jc (k := 0) (n := 17) (ys := (QT f r).cells) rfl rfl rfl rfl rfl rfl rfl rfl rfl ?_; refine Jx 4 rfl ?_; refine Jf rfl rfl (.cons (Jq (vs := [_, _, _, _, _, _, _, _, _, _, _, _, _, _, _, _, _]) rfl (kn 0 rfl) rfl rfl) (.cons (Jj rfl) .nil)) (fun w1 hs1 => ?_); exact ⟨rfl, hs1.keep⟩
theorem Jj0 (f g : Int) : PureE (α := Nat × Nat) Tryz.prog 118 [.int .i64 f, .int .i64 g].toArray (fun p => .func (.func 190) #[] #[Qd p.1 0, Qd p.2 0]) (fun p => [(p.2, .cells #[.int .i64 g] 3 (0, 0)), (p.1, .cells #[.int .i64 f] 3 (0, 0))]) := by
 refine JV Tryz.func118 rfl rfl fun w => ?_; refine J8 ?_; refine Jo 2 rfl ?_; refine LN rfl fun r1 => ?_; refine LN rfl fun r2 => ?_; refine JC 5 rfl ?_; refine LR rfl (JB rfl rfl) ?_; refine Jx 4 rfl ?_; refine pT rfl rfl rfl fun w1 hs1 => ?_; exact ⟨(r1, r2), rfl, hs1⟩
def nxF (g : Int) : Int → List Value → Jm → Int → Prop := fun i v B i' => i < g ∧ i' = i + 1 ∧ v = [.int .i64 i] ∧ B = []
theorem Jj1 {g : Int} : ∀ i v B i', nxF g i v B i' → v.length = 1 := by rintro _ _ _ _ ⟨_, _, rfl, _⟩; rfl
theorem Jj2 {f g : Int} (hw : SL.Way f g) (b1 b2 : Nat) : Jb2 Tryz.prog 190 [Qd b1 0, Qd b2 0] [(b2, .cells #[.int .i64 g] 3 (0, 0)), (b1, .cells #[.int .i64 f] 3 (0, 0))] f (nxF g) (fun i => ¬ i < g ∧ f ≤ i) := by
  unfold SL.Way at hw
  refine YL Tryz.func190 rfl rfl fun q xids w2 XI XF hY => ?_; refine J8 ?_; refine Jo 2 rfl ?_; refine LR rfl (Jh rfl (Jy (k := 1) rfl) rfl rfl) ?_; refine JI 4 rfl ?_; refine J1 (σ := Int) (fun i => f ≤ i ∧ i ≤ g) (fun i => [(0, .func (.yield q) #[] #[]), (1, Qd b1 0), (2, Qd b2 0), (4, .int .i64 i)]) (fun _ => []) (fun i => XI i) (fun i => (g - i).toNat) f ⟨by omega, by omega⟩ (lK rfl) (List.Sublist.refl _) (fun _ _ h => h) ?_; intro i hi1; refine Jo 4 rfl ?_; refine LR rfl (Jh rfl (Jy (k := 0) rfl) rfl rfl) ?_; refine JI 3 rfl ?_; refine cD (fun h4 => ?_) fun h4 => ?_
  · refine Jo 8 rfl ?_; refine Zc (B := []) (XT := XI (i + 1)) (XF := XF) rfl rfl rfl rfl (hY i [.int .i64 i] [] (i + 1) ⟨by omega, rfl, rfl, rfl⟩) oN ?_ ?_
    all_goals (
     refine Jx 2 rfl (Y7 1 rfl ?_); refine Jw rfl (fun h7 => ?_) (fun h7 => ?_)
     · try exact Bool.noConfusion h7
       all_goals try simp only [ZZ] at h7
       all_goals (
        refine Kn 5 rfl ?_; refine Jf rfl rfl .nil (fun w1 hs1 => ?_)
        obtain ⟨xs1, hx1⟩ := hs1.now
        exact ⟨⟨_, rfl⟩, hs1.keep, .inr ⟨_, hx1⟩⟩
        skip)
     · try exact Bool.noConfusion h7
       all_goals try simp only [ZZ] at h7
       all_goals (
        refine Jo 6 rfl ?_; refine Je (by omega) (by omega) ?_; refine Jx 2 rfl ?_; refine Jz ?_; exact Jv (i + 1) (by omega) (by omega) (lK rfl) (List.Sublist.refl _) (fun _ _ h => h)
        skip)
     skip)
  · refine Kn 4 rfl ?_; refine Kh rfl rfl .nil (fun w1 hs1 => ?_)
    obtain ⟨xs1, hx1⟩ := hs1.now
    exact ⟨⟨_, rfl⟩, hs1.keep, .inl ⟨i, _, ⟨by omega, by omega⟩, hx1⟩⟩
end Go.Proofs.YtfaagelglpgpkaaGreatDoor
